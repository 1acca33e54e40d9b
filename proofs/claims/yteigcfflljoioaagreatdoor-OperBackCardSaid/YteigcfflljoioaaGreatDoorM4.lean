/- What the rows' proofs lean on: the contracts of the functions that they reach, and plain facts (part M4). -/
import Derived.WalkKit
import Derived.WalkLawsBesides
import Derived.WalkSpells
import Derived.Outline
import Derived.Below
import Derived.Deep.RegionHeld3
import Derived.Deep.DeepCutAuto
import Derived.Deep.AppendLies
import Derived.Maps.AppendAt
import Derived.Lib.Hide
import Derived.OrdersHeld
import Derived.Test.YteigcfflljoioaaGreatDoorProg
import Derived.Shelf.Strings.Builder1
import Derived.Shelf.Strings.Builder2
import Derived.Shelf.Small.Bits
import Derived.Shelf.Small.Strs
import Derived.Shelf.Strings.BuilderF
import Derived.Shelf.Strconv.Itoa0
import Derived.Shelf.Strconv.Itoa1
import Derived.Shelf.LaysM
import Derived.Shelf.Strconv.Itoa2
import Derived.Shelf.Strings.Prefix
import Derived.Shelf.Bits.Mul64
import Derived.Shelf.Strings.Repeat
import Derived.Lib.ItoaMem
import Derived.Lib.OthersKept
import Derived.Deep.CutBlock
import Derived.Laws.Bits64b
import Derived.Lib.AppendZeros
import Derived.Lib.Bytealg
import Derived.Laws.RangeAny
import Derived.Lib.ConvBytes
import Derived.Lib.SlBytesRow
import Derived.Lib.SmallJoins
import Derived.RegionTactic
import Derived.Test.YteigcfflljoioaaGreatDoorM3
set_option linter.unusedSimpArgs false
set_option linter.unusedVariables false
set_option maxRecDepth 100000
namespace Go.Proofs.YteigcfflljoioaaGreatDoor
open Go.RowKit
set_option maxHeartbeats 400000 in
theorem valRight_any (k m ex f : Int) (t : ByteArray) (b : Bool) (w : World) (hm : I64 m) (ht : t.size ≤ 9223372036854775807) :
    Calls Tryz.prog 76 #[VV k m ex t b f] w fun e w' => e = .returned (.bool (valRight ⟨k, m, ex, t, b, f⟩)) ∧ Ext w w' := by
  have heq := eql_val
  by_cases h0 : k = 0
  · subst h0
    go_enter Tryz.func76, Tryz.ntmps76
    go_wp2
    go_ret
    exact ⟨ret_bool (by simp [valRight, Val.zero]), by repeat (first | exact Ext.refl _ | apply Ext.drew | apply Ext.alloc | apply Ext.more_)⟩
  by_cases h1 : k = 1
  · subst h1
    by_cases hr : numRightB m ex = true
    · have e : valRight ⟨1, m, ex, t, b, f⟩ = eqV ⟨1, m, ex, t, b, f⟩ ⟨1, m, ex, ⟨#[]⟩, false, 0⟩ := by simp [valRight, hr]
      rw [e]; clear e h0
      go_enter Tryz.func76, Tryz.ntmps76
      go_wp2
      refine wp_plan (S := Ext _) [(0, 0), (1, 0), (2, 1), (3, 0), (4, 0), (5, 0), (6, 0), (7, 1), (8, 0), (9, 0), (10, 0)] [] (by kernel_rfl) (by kernel_rfl) (by kernel_rfl) (fun _ _ d _ _ h => by cases d <;> exact h) (Ext.drew (Ext.refl _)) ?_
      iterate 2 ((refine wpPl_read (v := ?_) rfl ?_ (fun _ h => ?_) ?_; rotate_left 1; rfl; (obtain ⟨_, _, rfl⟩ := h.more; go_simp; try rfl)); try simp only [Act.put, zqA, zqB, zqC])
      (refine wpPl_eff rfl ?_ (fun K hK => ?_); rfl; go_simp; refine (numRight_any _ _ _ hm).mono ?_; rintro e w' ⟨rfl, hb⟩; obtain ⟨os, d, rfl⟩ := hb.more; refine hK _ _ ?_ ?_; (repeat (first | (with_reducible (first | exact Ext.refl _ | exact ext_d _ _ _ _ | exact ext_app _ _ _ _ _ | exact ext_app2 _ _ _ _ _ _ | exact ext_app3 _ _ _ _ _ _ _ | exact ext_app4 _ _ _ _ _ _ _ _ | exact ext_app5 _ _ _ _ _ _ _ _ _)) | ((with_reducible refine ext_suffix ⟨_, ?_⟩); (try simp only [Array.append_assoc]); rfl) | (with_reducible (first | apply Ext.drew | apply Ext.alloc | apply Ext.more_)) | apply Ext.drew | apply Ext.alloc | apply Ext.more_)))
      try simp only [Act.put, zqA, zqB, zqC]
      (refine wpPl_read (v := ?_) rfl ?_ (fun _ h => ?_) ?_; rotate_left 1; rfl; (obtain ⟨_, _, rfl⟩ := h.more; go_simp; try rfl))
      try simp only [Act.put, zqA, zqB, zqC]
      iterate 3 ((first | (refine wpPl_skip rfl rfl ?_) | (refine wpPl_read (v := ?_) rfl ?_ (fun w1 h1 => ?_) ?_; rotate_left 1; rfl; (obtain ⟨os1, d1, rfl⟩ := h1.more; go_simp; first | done | rfl)) | (refine wpPl_gread (v := ?_) (c := ?_) rfl rfl rfl rfl ?_ (fun hc w1 h1 => ?_) ?_; rotate_left 2; (first | exact gc_t _ | exact gc_f _ | exact gc_gt _ _ | exact gc_gf _ _); (obtain ⟨os1, d1, rfl⟩ := h1.more; (try simp only [gv_of hc]); (try (have hc1 := and_l hc; (try simp only [gv_of hc1]); (try (have hc2 := and_l hc1; (try simp only [gv_of hc2]))))); go_simp; first | done | rfl))); try simp only [Act.put, zqA, zqB, zqC])
      first | (refine wpPl_effskip rfl ?_ ?_ ?_; (first | with_reducible rfl | rfl | (go_simp; done)); (repeat (first | (with_reducible (first | exact Ext.refl _ | exact ext_d _ _ _ _ | exact ext_app _ _ _ _ _ | exact ext_app2 _ _ _ _ _ _ | exact ext_app3 _ _ _ _ _ _ _ | exact ext_app4 _ _ _ _ _ _ _ _ | exact ext_app5 _ _ _ _ _ _ _ _ _)) | ((with_reducible refine ext_suffix ⟨_, ?_⟩); (try simp only [Array.append_assoc]); rfl) | (with_reducible (first | apply Ext.drew | apply Ext.alloc | apply Ext.more_)) | apply Ext.drew | apply Ext.alloc | apply Ext.more_))) | (refine wpPl_eff rfl ?_ (fun K hK => ?_); (first | with_reducible rfl | rfl | (go_simp; done)); go_simp; refine (of_any _ _ _).mono ?_; rintro e w' ⟨rfl, hb⟩; obtain ⟨os, d, rfl⟩ := hb.more; refine hK _ _ ?_ ?_; (repeat (first | (with_reducible (first | exact Ext.refl _ | exact ext_d _ _ _ _ | exact ext_app _ _ _ _ _ | exact ext_app2 _ _ _ _ _ _ | exact ext_app3 _ _ _ _ _ _ _ | exact ext_app4 _ _ _ _ _ _ _ _ | exact ext_app5 _ _ _ _ _ _ _ _ _)) | ((with_reducible refine ext_suffix ⟨_, ?_⟩); (try simp only [Array.append_assoc]); rfl) | (with_reducible (first | apply Ext.drew | apply Ext.alloc | apply Ext.more_)) | apply Ext.drew | apply Ext.alloc | apply Ext.more_)))
      try simp only [Act.put, zqA, zqB, zqC]
      first | (refine wpPl_skip rfl rfl ?_) | (refine wpPl_read (v := ?_) rfl ?_ (fun w1 h1 => ?_) ?_; rotate_left 1; rfl; (obtain ⟨os1, d1, rfl⟩ := h1.more; go_simp; first | done | rfl)) | (refine wpPl_gread (v := ?_) (c := ?_) rfl rfl rfl rfl ?_ (fun hc w1 h1 => ?_) ?_; rotate_left 2; (first | exact gc_t _ | exact gc_f _ | exact gc_gt _ _ | exact gc_gf _ _); (obtain ⟨os1, d1, rfl⟩ := h1.more; (try simp only [gv_of hc]); (try (have hc1 := and_l hc; (try simp only [gv_of hc1]); (try (have hc2 := and_l hc1; (try simp only [gv_of hc2]))))); go_simp; first | done | rfl))
      try simp only [Act.put, zqA, zqB, zqC]
      first | (refine wpPl_pick_and rfl rfl rfl rfl rfl rfl ?_) | (refine wpPl_pick_or rfl rfl rfl rfl rfl rfl ?_) | (refine wpPl_read (v := ?_) rfl ?_ (fun w1 h1 => ?_) ?_; rotate_left 1; rfl; (obtain ⟨os1, d1, rfl⟩ := h1.more; go_simp; first | done | rfl))
      try simp only [Act.put, zqA, zqB, zqC]
      (refine wpPl_read (v := ?_) rfl ?_ (fun _ h => ?_) ?_; rotate_left 1; rfl; (obtain ⟨_, _, rfl⟩ := h.more; go_simp; try rfl))
      try simp only [Act.put, zqA, zqB, zqC]
      refine wpPl_nil ?_
      go_wp2
      go_ret
      exact ⟨rfl, by repeat (first | exact Ext.refl _ | apply Ext.drew | apply Ext.alloc | apply Ext.more_)⟩
    · have hr' : numRightB m ex = false := by simpa using hr
      have e : valRight ⟨1, m, ex, t, b, f⟩ = false := by simp [valRight, hr]
      rw [e]; clear e h0 hr
      go_enter Tryz.func76, Tryz.ntmps76
      go_wp2
      refine wp_plan (S := Ext _) [(0, 0), (1, 0), (2, 1), (3, 0), (4, 0), (5, 0), (6, 0), (7, 1), (8, 0), (9, 0), (10, 0)] [] (by kernel_rfl) (by kernel_rfl) (by kernel_rfl) (fun _ _ d _ _ h => by cases d <;> exact h) (Ext.drew (Ext.refl _)) ?_
      iterate 2 ((refine wpPl_read (v := ?_) rfl ?_ (fun _ h => ?_) ?_; rotate_left 1; rfl; (obtain ⟨_, _, rfl⟩ := h.more; go_simp; try rfl)); try simp only [Act.put, zqA, zqB, zqC])
      (refine wpPl_eff rfl ?_ (fun K hK => ?_); rfl; go_simp; refine (numRight_any _ _ _ hm).mono ?_; rintro e w' ⟨rfl, hb⟩; obtain ⟨os, d, rfl⟩ := hb.more; refine hK _ _ ?_ ?_; (repeat (first | (with_reducible (first | exact Ext.refl _ | exact ext_d _ _ _ _ | exact ext_app _ _ _ _ _ | exact ext_app2 _ _ _ _ _ _ | exact ext_app3 _ _ _ _ _ _ _ | exact ext_app4 _ _ _ _ _ _ _ _ | exact ext_app5 _ _ _ _ _ _ _ _ _)) | ((with_reducible refine ext_suffix ⟨_, ?_⟩); (try simp only [Array.append_assoc]); rfl) | (with_reducible (first | apply Ext.drew | apply Ext.alloc | apply Ext.more_)) | apply Ext.drew | apply Ext.alloc | apply Ext.more_)))
      try simp only [Act.put, zqA, zqB, zqC]
      (refine wpPl_read (v := ?_) rfl ?_ (fun _ h => ?_) ?_; rotate_left 1; rfl; (obtain ⟨_, _, rfl⟩ := h.more; go_simp; try rfl))
      try simp only [Act.put, zqA, zqB, zqC]
      iterate 3 ((first | (refine wpPl_skip rfl rfl ?_) | (refine wpPl_read (v := ?_) rfl ?_ (fun w1 h1 => ?_) ?_; rotate_left 1; rfl; (obtain ⟨os1, d1, rfl⟩ := h1.more; go_simp; first | done | rfl)) | (refine wpPl_gread (v := ?_) (c := ?_) rfl rfl rfl rfl ?_ (fun hc w1 h1 => ?_) ?_; rotate_left 2; (first | exact gc_t _ | exact gc_f _ | exact gc_gt _ _ | exact gc_gf _ _); (obtain ⟨os1, d1, rfl⟩ := h1.more; (try simp only [gv_of hc]); (try (have hc1 := and_l hc; (try simp only [gv_of hc1]); (try (have hc2 := and_l hc1; (try simp only [gv_of hc2]))))); go_simp; first | done | rfl))); try simp only [Act.put, zqA, zqB, zqC])
      first | (refine wpPl_effskip rfl ?_ ?_ ?_; (first | with_reducible rfl | rfl | (go_simp; done)); (repeat (first | (with_reducible (first | exact Ext.refl _ | exact ext_d _ _ _ _ | exact ext_app _ _ _ _ _ | exact ext_app2 _ _ _ _ _ _ | exact ext_app3 _ _ _ _ _ _ _ | exact ext_app4 _ _ _ _ _ _ _ _ | exact ext_app5 _ _ _ _ _ _ _ _ _)) | ((with_reducible refine ext_suffix ⟨_, ?_⟩); (try simp only [Array.append_assoc]); rfl) | (with_reducible (first | apply Ext.drew | apply Ext.alloc | apply Ext.more_)) | apply Ext.drew | apply Ext.alloc | apply Ext.more_))) | (refine wpPl_eff rfl ?_ (fun K hK => ?_); (first | with_reducible rfl | rfl | (go_simp; done)); go_simp; refine (of_any _ _ _).mono ?_; rintro e w' ⟨rfl, hb⟩; obtain ⟨os, d, rfl⟩ := hb.more; refine hK _ _ ?_ ?_; (repeat (first | (with_reducible (first | exact Ext.refl _ | exact ext_d _ _ _ _ | exact ext_app _ _ _ _ _ | exact ext_app2 _ _ _ _ _ _ | exact ext_app3 _ _ _ _ _ _ _ | exact ext_app4 _ _ _ _ _ _ _ _ | exact ext_app5 _ _ _ _ _ _ _ _ _)) | ((with_reducible refine ext_suffix ⟨_, ?_⟩); (try simp only [Array.append_assoc]); rfl) | (with_reducible (first | apply Ext.drew | apply Ext.alloc | apply Ext.more_)) | apply Ext.drew | apply Ext.alloc | apply Ext.more_)))
      try simp only [Act.put, zqA, zqB, zqC]
      first | (refine wpPl_skip rfl rfl ?_) | (refine wpPl_read (v := ?_) rfl ?_ (fun w1 h1 => ?_) ?_; rotate_left 1; rfl; (obtain ⟨os1, d1, rfl⟩ := h1.more; go_simp; first | done | rfl)) | (refine wpPl_gread (v := ?_) (c := ?_) rfl rfl rfl rfl ?_ (fun hc w1 h1 => ?_) ?_; rotate_left 2; (first | exact gc_t _ | exact gc_f _ | exact gc_gt _ _ | exact gc_gf _ _); (obtain ⟨os1, d1, rfl⟩ := h1.more; (try simp only [gv_of hc]); (try (have hc1 := and_l hc; (try simp only [gv_of hc1]); (try (have hc2 := and_l hc1; (try simp only [gv_of hc2]))))); go_simp; first | done | rfl))
      try simp only [Act.put, zqA, zqB, zqC]
      first | (refine wpPl_pick_and rfl rfl rfl rfl rfl rfl ?_) | (refine wpPl_pick_or rfl rfl rfl rfl rfl rfl ?_) | (refine wpPl_read (v := ?_) rfl ?_ (fun w1 h1 => ?_) ?_; rotate_left 1; rfl; (obtain ⟨os1, d1, rfl⟩ := h1.more; go_simp; first | done | rfl))
      try simp only [Act.put, zqA, zqB, zqC]
      (refine wpPl_read (v := ?_) rfl ?_ (fun _ h => ?_) ?_; rotate_left 1; rfl; (obtain ⟨_, _, rfl⟩ := h.more; go_simp; try rfl))
      try simp only [Act.put, zqA, zqB, zqC]
      refine wpPl_nil ?_
      go_wp2
      go_ret
      exact ⟨rfl, by repeat (first | exact Ext.refl _ | apply Ext.drew | apply Ext.alloc | apply Ext.more_)⟩
  by_cases h2 : k = 2
  · subst h2
    clear h0 h1
    go_enter Tryz.func76, Tryz.ntmps76
    go_wp2
    refine wp_plan (S := Ext _) [(0, 0), (1, 0), (2, 0), (3, 1), (4, 0), (5, 0)] [] (by kernel_rfl) (by kernel_rfl) (by kernel_rfl) (fun _ _ d _ _ h => by cases d <;> exact h) (Ext.drew (Ext.refl _)) ?_
    iterate 3 ((refine wpPl_read (v := ?_) rfl ?_ (fun _ h => ?_) ?_; rotate_left 1; rfl; (obtain ⟨_, _, rfl⟩ := h.more; go_simp; try rfl)); try simp only [Act.put, zqA, zqB, zqC])
    (refine wpPl_eff rfl ?_ (fun K hK => ?_); rfl; go_simp; refine (text_any _ _ ht).mono ?_; rintro e w' ⟨rfl, hb⟩; obtain ⟨os, d, rfl⟩ := hb.more; refine hK _ _ ?_ ?_; (repeat (first | (with_reducible (first | exact Ext.refl _ | exact ext_d _ _ _ _ | exact ext_app _ _ _ _ _ | exact ext_app2 _ _ _ _ _ _ | exact ext_app3 _ _ _ _ _ _ _ | exact ext_app4 _ _ _ _ _ _ _ _ | exact ext_app5 _ _ _ _ _ _ _ _ _)) | ((with_reducible refine ext_suffix ⟨_, ?_⟩); (try simp only [Array.append_assoc]); rfl) | (with_reducible (first | apply Ext.drew | apply Ext.alloc | apply Ext.more_)) | apply Ext.drew | apply Ext.alloc | apply Ext.more_)))
    try simp only [Act.put, zqA, zqB, zqC]
    iterate 2 ((refine wpPl_read (v := ?_) rfl ?_ (fun _ h => ?_) ?_; rotate_left 1; rfl; (obtain ⟨_, _, rfl⟩ := h.more; go_simp; try rfl)); try simp only [Act.put, zqA, zqB, zqC])
    refine wpPl_nil ?_
    go_wp2
    go_ret
    exact ⟨ret_bool (by simp [valRight]; unfold textV; split <;> rfl), by repeat (first | exact Ext.refl _ | apply Ext.drew | apply Ext.alloc | apply Ext.more_)⟩
  by_cases h3 : k = 3
  · subst h3
    clear h0 h1 h2
    go_enter Tryz.func76, Tryz.ntmps76
    go_wp2
    refine wp_plan (S := Ext _) [(0, 0), (1, 0), (2, 0), (3, 1), (4, 0), (5, 0)] [] (by kernel_rfl) (by kernel_rfl) (by kernel_rfl) (fun _ _ d _ _ h => by cases d <;> exact h) (Ext.drew (Ext.refl _)) ?_
    iterate 3 ((refine wpPl_read (v := ?_) rfl ?_ (fun _ h => ?_) ?_; rotate_left 1; rfl; (obtain ⟨_, _, rfl⟩ := h.more; go_simp; try rfl)); try simp only [Act.put, zqA, zqB, zqC])
    (refine wpPl_eff rfl ?_ (fun K hK => ?_); rfl; go_simp; refine (truth_any _ _).mono ?_; rintro e w' ⟨rfl, hb⟩; obtain ⟨os, d, rfl⟩ := hb.more; refine hK _ _ ?_ ?_; (repeat (first | (with_reducible (first | exact Ext.refl _ | exact ext_d _ _ _ _ | exact ext_app _ _ _ _ _ | exact ext_app2 _ _ _ _ _ _ | exact ext_app3 _ _ _ _ _ _ _ | exact ext_app4 _ _ _ _ _ _ _ _ | exact ext_app5 _ _ _ _ _ _ _ _ _)) | ((with_reducible refine ext_suffix ⟨_, ?_⟩); (try simp only [Array.append_assoc]); rfl) | (with_reducible (first | apply Ext.drew | apply Ext.alloc | apply Ext.more_)) | apply Ext.drew | apply Ext.alloc | apply Ext.more_)))
    try simp only [Act.put, zqA, zqB, zqC]
    iterate 2 ((refine wpPl_read (v := ?_) rfl ?_ (fun _ h => ?_) ?_; rotate_left 1; rfl; (obtain ⟨_, _, rfl⟩ := h.more; go_simp; try rfl)); try simp only [Act.put, zqA, zqB, zqC])
    refine wpPl_nil ?_
    go_wp2
    go_ret
    exact ⟨ret_bool (by simp [valRight]), by repeat (first | exact Ext.refl _ | apply Ext.drew | apply Ext.alloc | apply Ext.more_)⟩
  by_cases h4 : k = 4
  · subst h4
    clear h0 h1 h2 h3
    go_enter Tryz.func76, Tryz.ntmps76
    go_wp2
    refine wp_plan (S := Ext _) [(0, 0), (1, 0), (2, 0), (3, 1), (4, 0), (5, 0)] [] (by kernel_rfl) (by kernel_rfl) (by kernel_rfl) (fun _ _ d _ _ h => by cases d <;> exact h) (Ext.drew (Ext.refl _)) ?_
    iterate 3 ((refine wpPl_read (v := ?_) rfl ?_ (fun _ h => ?_) ?_; rotate_left 1; rfl; (obtain ⟨_, _, rfl⟩ := h.more; go_simp; try rfl)); try simp only [Act.put, zqA, zqB, zqC])
    (refine wpPl_eff rfl ?_ (fun K hK => ?_); rfl; go_simp; refine (bad_any _ _).mono ?_; rintro e w' ⟨rfl, hb⟩; obtain ⟨os, d, rfl⟩ := hb.more; refine hK _ _ ?_ ?_; (repeat (first | (with_reducible (first | exact Ext.refl _ | exact ext_d _ _ _ _ | exact ext_app _ _ _ _ _ | exact ext_app2 _ _ _ _ _ _ | exact ext_app3 _ _ _ _ _ _ _ | exact ext_app4 _ _ _ _ _ _ _ _ | exact ext_app5 _ _ _ _ _ _ _ _ _)) | ((with_reducible refine ext_suffix ⟨_, ?_⟩); (try simp only [Array.append_assoc]); rfl) | (with_reducible (first | apply Ext.drew | apply Ext.alloc | apply Ext.more_)) | apply Ext.drew | apply Ext.alloc | apply Ext.more_)))
    try simp only [Act.put, zqA, zqB, zqC]
    iterate 2 ((refine wpPl_read (v := ?_) rfl ?_ (fun _ h => ?_) ?_; rotate_left 1; rfl; (obtain ⟨_, _, rfl⟩ := h.more; go_simp; try rfl)); try simp only [Act.put, zqA, zqB, zqC])
    refine wpPl_nil ?_
    go_wp2
    go_ret
    exact ⟨ret_bool (by simp [valRight]), by repeat (first | exact Ext.refl _ | apply Ext.drew | apply Ext.alloc | apply Ext.more_)⟩
  have e : valRight ⟨k, m, ex, t, b, f⟩ = false := by simp [valRight, h0, h1, h2, h3, h4]
  rw [e]; clear e
  have h0 : (k == 0) = false := by simp [h0]
  have h1 : (k == 1) = false := by simp [h1]
  have h2 : (k == 2) = false := by simp [h2]
  have h3 : (k == 3) = false := by simp [h3]
  have h4 : (k == 4) = false := by simp [h4]
  go_enter Tryz.func76, Tryz.ntmps76
  go_wp2
  go_ret
  exact ⟨rfl, by repeat (first | exact Ext.refl _ | apply Ext.drew | apply Ext.alloc | apply Ext.more_)⟩
end Go.Proofs.YteigcfflljoioaaGreatDoor
namespace Go.Proofs.YteigcfflljoioaaGreatDoor
open Go.RowKit
theorem txt_ne (t : ByteArray) : (!t.toList.isEmpty) = true ↔ t ≠ ⟨#[]⟩ := by
  obtain ⟨⟨l⟩⟩ := t
  simp [ByteArray.toList_eq]
theorem txt_eq (t : ByteArray) : (!t.toList.isEmpty) = false ↔ t = ⟨#[]⟩ := by
  obtain ⟨⟨l⟩⟩ := t
  simp [ByteArray.toList_eq]
theorem refRight_bad {k m ex f : Int} {t : ByteArray} {b : Bool} (h : (((k != 1) = true ∧ ((!m == 0) = true ∨ (!ex == 0) = true) ∨ (k != 2) = true ∧ (!t.toList.isEmpty) = true) ∨ (k != 3) = true ∧ b = true) ∨ (k != 4) = true ∧ (f != 0) = true) :
    false = refRight ⟨k, m, ex, t, b, f⟩ := by
  unfold refRight
  rw [if_pos]
  rw [txt_ne] at h
  simp at h ⊢
  rcases h with ((⟨h1, h2⟩ | ⟨h1, h2⟩) | ⟨h1, h2⟩) | ⟨h1, h2⟩
  · left; refine ⟨h1, fun h3 => ?_⟩; rcases h2 with h2 | h2 <;> simp_all
  · right; left; exact ⟨h1, h2⟩
  · right; right; left; exact ⟨h1, h2⟩
  · right; right; right; exact ⟨h1, h2⟩
theorem refRight_good {k m ex f : Int} {t : ByteArray} {b : Bool} (h : ((((k != 1) = false ∨ (!m == 0) = false ∧ (!ex == 0) = false) ∧ ((k != 2) = false ∨ (!t.toList.isEmpty) = false)) ∧ ((k != 3) = false ∨ b = false)) ∧ ((k != 4) = false ∨ (f != 0) = false)) :
    refRight ⟨k, m, ex, t, b, f⟩ = if k = 1 then refNumRight m ex else if k = 2 then decide (t.size ≤ 255) else k == 0 || k == 3 || (k == 4 && decide (1 ≤ f) && decide (f ≤ 9)) := by
  unfold refRight
  rw [if_neg]
  rw [txt_eq] at h
  obtain ⟨⟨⟨h1, h2⟩, h3⟩, h4⟩ := h
  simp at h1 h2 h3 h4
  rintro (⟨h5, h6⟩ | ⟨h5, h6⟩ | ⟨h5, h6⟩ | ⟨h5, h6⟩)
  · exact h6 (h1.resolve_left h5)
  · exact h6 (h2.resolve_left h5)
  · rcases h3 with h3 | h3
    · exact h5 h3
    · simp_all
  · exact h6 (h4.resolve_left h5)
set_option maxHeartbeats 1000000 in
theorem refRight_any (k m ex f : Int) (t : ByteArray) (b : Bool) (w : World) (hm : I64 m) (ht : t.size ≤ 9223372036854775807) :
    Calls Tryz.prog 12 #[VV k m ex t b f] w fun e w' => e = .returned (.bool (refRight ⟨k, m, ex, t, b, f⟩)) ∧ Ext w w' := by
  generalize hR : refRight ⟨k, m, ex, t, b, f⟩ = R
  have HR := Lib.hid hR
  clear hR
  go_enter Tryz.func12, Tryz.ntmps12
  go_upto_region 1 with (fail)
  refine wp_region_lit ?_
  iterate 5 ((refine wpL_read (v := ?_) rfl ?_ ?_; rotate_left 1; (go_simp; first | done | rfl)); try simp only [Act.put, zqA, zqB, zqC])
  iterate 4 ((refine wpL_gread (v := ?_) (c := ?_) rfl rfl rfl ?_ (fun hc => ?_) ?_; rotate_left 2; (first | exact gc_t _ | exact gc_f _ | exact gc_gt _ _ | exact gc_gf _ _); ((try simp only [gv_of hc]); (try (have hc1 := and_l hc; (try simp only [gv_of hc1]); (try (have hc2 := and_l hc1; (try simp only [gv_of hc2]))))); go_simp; first | done | rfl)); try simp only [Act.put, zqA, zqB, zqC])
  first | (refine wpL_pick_and rfl rfl rfl rfl rfl ?_) | (refine wpL_pick_or rfl rfl rfl rfl rfl ?_)
  try simp only [Act.put, zqA, zqB, zqC]
  (refine wpL_read (v := ?_) rfl ?_ ?_; rotate_left 1; (go_simp; first | done | rfl))
  try simp only [Act.put, zqA, zqB, zqC]
  refine wpList_nil ?_
  try go_simp
  go_upto_region 2 with (fail)
  refine wp_region_lit ?_
  iterate 4 ((refine wpL_read (v := ?_) rfl ?_ ?_; rotate_left 1; (go_simp; first | done | rfl)); try simp only [Act.put, zqA, zqB, zqC])
  iterate 2 ((refine wpL_gread (v := ?_) (c := ?_) rfl rfl rfl ?_ (fun hc => ?_) ?_; rotate_left 2; (first | exact gc_t _ | exact gc_f _ | exact gc_gt _ _ | exact gc_gf _ _); ((try simp only [gv_of hc]); (try (have hc1 := and_l hc; (try simp only [gv_of hc1]); (try (have hc2 := and_l hc1; (try simp only [gv_of hc2]))))); go_simp; first | done | rfl)); try simp only [Act.put, zqA, zqB, zqC])
  first | (refine wpL_pick_and rfl rfl rfl rfl rfl ?_) | (refine wpL_pick_or rfl rfl rfl rfl rfl ?_)
  try simp only [Act.put, zqA, zqB, zqC]
  (refine wpL_read (v := ?_) rfl ?_ ?_; rotate_left 1; (go_simp; first | done | rfl))
  try simp only [Act.put, zqA, zqB, zqC]
  iterate 7 ((refine wpL_gread (v := ?_) (c := ?_) rfl rfl rfl ?_ (fun hc => ?_) ?_; rotate_left 2; (first | exact gc_t _ | exact gc_f _ | exact gc_gt _ _ | exact gc_gf _ _); ((try simp only [gv_of hc]); (try (have hc1 := and_l hc; (try simp only [gv_of hc1]); (try (have hc2 := and_l hc1; (try simp only [gv_of hc2]))))); go_simp; first | done | rfl)); try simp only [Act.put, zqA, zqB, zqC])
  first | (refine wpL_gpick_and rfl rfl rfl rfl rfl rfl rfl ?_ ?_; (first | exact gc_t _ | exact gc_f _ | exact gc_gt _ _ | exact gc_gf _ _)) | (refine wpL_gpick_or rfl rfl rfl rfl rfl rfl rfl ?_ ?_; (first | exact gc_t _ | exact gc_f _ | exact gc_gt _ _ | exact gc_gf _ _))
  try simp only [Act.put, zqA, zqB, zqC]
  first | (refine wpL_pick_and rfl rfl rfl rfl rfl ?_) | (refine wpL_pick_or rfl rfl rfl rfl rfl ?_)
  try simp only [Act.put, zqA, zqB, zqC]
  (refine wpL_read (v := ?_) rfl ?_ ?_; rotate_left 1; (go_simp; first | done | rfl))
  try simp only [Act.put, zqA, zqB, zqC]
  iterate 6 ((refine wpL_gread (v := ?_) (c := ?_) rfl rfl rfl ?_ (fun hc => ?_) ?_; rotate_left 2; (first | exact gc_t _ | exact gc_f _ | exact gc_gt _ _ | exact gc_gf _ _); ((try simp only [gv_of hc]); (try (have hc1 := and_l hc; (try simp only [gv_of hc1]); (try (have hc2 := and_l hc1; (try simp only [gv_of hc2]))))); go_simp; first | done | rfl)); try simp only [Act.put, zqA, zqB, zqC])
  first | (refine wpL_gpick_and rfl rfl rfl rfl rfl rfl rfl ?_ ?_; (first | exact gc_t _ | exact gc_f _ | exact gc_gt _ _ | exact gc_gf _ _)) | (refine wpL_gpick_or rfl rfl rfl rfl rfl rfl rfl ?_ ?_; (first | exact gc_t _ | exact gc_f _ | exact gc_gt _ _ | exact gc_gf _ _))
  try simp only [Act.put, zqA, zqB, zqC]
  first | (refine wpL_pick_and rfl rfl rfl rfl rfl ?_) | (refine wpL_pick_or rfl rfl rfl rfl rfl ?_)
  try simp only [Act.put, zqA, zqB, zqC]
  (refine wpL_read (v := ?_) rfl ?_ ?_; rotate_left 1; (go_simp; first | done | rfl))
  try simp only [Act.put, zqA, zqB, zqC]
  iterate 7 ((refine wpL_gread (v := ?_) (c := ?_) rfl rfl rfl ?_ (fun hc => ?_) ?_; rotate_left 2; (first | exact gc_t _ | exact gc_f _ | exact gc_gt _ _ | exact gc_gf _ _); ((try simp only [gv_of hc]); (try (have hc1 := and_l hc; (try simp only [gv_of hc1]); (try (have hc2 := and_l hc1; (try simp only [gv_of hc2]))))); go_simp; first | done | rfl)); try simp only [Act.put, zqA, zqB, zqC])
  first | (refine wpL_gpick_and rfl rfl rfl rfl rfl rfl rfl ?_ ?_; (first | exact gc_t _ | exact gc_f _ | exact gc_gt _ _ | exact gc_gf _ _)) | (refine wpL_gpick_or rfl rfl rfl rfl rfl rfl rfl ?_ ?_; (first | exact gc_t _ | exact gc_f _ | exact gc_gt _ _ | exact gc_gf _ _))
  try simp only [Act.put, zqA, zqB, zqC]
  first | (refine wpL_pick_and rfl rfl rfl rfl rfl ?_) | (refine wpL_pick_or rfl rfl rfl rfl rfl ?_)
  try simp only [Act.put, zqA, zqB, zqC]
  refine wpList_nil ?_
  try go_simp
  go_wp2_with (go_at_call 38; refine (refNumRight_any _ _ _ hm).mono ?_; rintro e w' ⟨rfl, hb⟩; obtain ⟨os, d, rfl⟩ := hb.more)
  all_goals (go_ret; refine ⟨ret_bool ?_, by repeat (first | exact Ext.refl _ | apply Ext.drew | apply Ext.alloc | apply Ext.more_)⟩)
  all_goals rw [← HR.out]
  · exact refRight_bad (by assumption)
  all_goals rw [refRight_good (by assumption)]
  all_goals simp_all
  all_goals omega
end Go.Proofs.YteigcfflljoioaaGreatDoor
namespace Go.Proofs.YteigcfflljoioaaGreatDoor
open Go.RowKit
def fitsB (r c : Int) : Bool := decide (1 ≤ r) && decide (1 ≤ c) && decide (r ≤ 4096) && decide (c ≤ 4096 / r)
theorem fits_mul {r c : Int} (h : fitsB r c = true) : 1 ≤ r ∧ 1 ≤ c ∧ r ≤ 4096 ∧ c ≤ 4096 ∧ 1 ≤ r * c ∧ r * c ≤ 4096 := by
  simp only [fitsB, Bool.and_eq_true, decide_eq_true_eq] at h
  obtain ⟨⟨⟨h1, h2⟩, h3⟩, h4⟩ := h
  have h5 : r * (4096 / r) ≤ 4096 := Int.mul_ediv_self_le (by omega)
  have h6 : r * c ≤ r * (4096 / r) := Int.mul_le_mul_of_nonneg_left h4 (by omega)
  have h7 : c ≤ 4096 := by have := Int.ediv_le_self (a := 4096) r (by omega); omega
  have h8 : 1 * 1 ≤ r * c := Int.mul_le_mul h1 h2 (by omega) (by omega)
  exact ⟨h1, h2, h3, h7, by omega, by omega⟩
set_option maxHeartbeats 400000 in
theorem fits_any (r c : Int) (w : World) :
    Calls Tryz.prog 75 #[.int .i64 r, .int .i64 c] w fun e w' => e = .returned (.bool (fitsB r c)) ∧ w = w' := by
  by_cases h1 : 1 ≤ r
  · by_cases h2 : 1 ≤ c
    · by_cases h3 : r ≤ 4096
      · have e : fitsB r c = decide (c ≤ 4096 / r) := by simp [fitsB, h1, h2, h3]
        rw [e]
        go_enter Tryz.func75, Tryz.ntmps75
        go_wp2
        go_ret
        exact ⟨rfl, rfl⟩
      · have e : fitsB r c = false := by simp [fitsB, h3]
        rw [e]
        go_enter Tryz.func75, Tryz.ntmps75
        go_wp2
        go_ret
        exact ⟨rfl, rfl⟩
    · have e : fitsB r c = false := by simp [fitsB, h2]
      rw [e]
      go_enter Tryz.func75, Tryz.ntmps75
      go_wp2
      go_ret
      exact ⟨rfl, rfl⟩
  · have e : fitsB r c = false := by simp [fitsB, h1]
    rw [e]
    go_enter Tryz.func75, Tryz.ntmps75
    go_wp2
    go_ret
    exact ⟨rfl, rfl⟩
/-- An array as it comes in or goes from call to call. -/
structure ArrIn (w : World) (A : Option Addr) (n cap : Nat) (l : List Val) : Prop where
  rd : SlV 0 w A l
  len : l.length = n
  cap : n ≤ cap
  small : n ≤ 9223372036854775807
  ok : ∀ x ∈ l, x.ok
theorem ArrIn.ext {w w' : World} {A : Option Addr} {n cap : Nat} {l : List Val} (h : ArrIn w A n cap l) (hb : Ext w w') : ArrIn w' A n cap l := ⟨h.rd.ext hb, h.len, h.cap, h.small, h.ok⟩
theorem ArrIn.at {w : World} {A : Option Addr} {n cap : Nat} {l : List Val} (h : ArrIn w A n cap l) {k : Nat} (hk : k < n) :
    ∃ x b off, l[k]? = some x ∧ x.ok ∧ A = some ⟨b, off, none⟩ ∧ ValAt w b (off + k * 6) x := by
  have hl : k < l.length := by rw [h.len]; exact hk
  obtain ⟨b, off, hA, _, hv⟩ := h.rd.at (List.getElem?_eq_getElem hl)
  exact ⟨l[k], b, off, List.getElem?_eq_getElem hl, h.ok _ (List.getElem_mem hl), hA, hv⟩
def rightA (r c : Int) (l : List Val) : Bool := fitsB r c && decide ((l.length : Int) = r * c) && l.all valRight
set_option maxHeartbeats 400000 in
theorem right_any (r c : Int) (A : Option Addr) (n cap : Nat) (l : List Val) (w : World) (h : ArrIn w A n cap l) :
    Calls Tryz.prog 45 #[AV r c (.slice A n cap)] w fun e w' => e = .returned (.bool (rightA r c l)) ∧ Ext w w' := by
  have hsm := h.small
  by_cases hf : fitsB r c = true
  · obtain ⟨f1, f2, f3, f4, f5, f6⟩ := fits_mul hf
    have hw : IntKind.i64.wrap (r * c) = r * c := by rw [IntKind.wrap_i64]; omega
    by_cases hn : (n : Int) = r * c
    · have e : rightA r c l = l.all valRight := by simp [rightA, hf, h.len, hn]
      generalize hR : rightA r c l = R at *
      have HR := Lib.hid e
      clear e hR
      have hn' : ((n : Int) != r * c) = false := by simp [hn]
      have HN := Lib.hid hn
      clear hn
      go_enter Tryz.func45, Tryz.ntmps45
      go_wp2_with (go_at_call 75; refine (fits_any _ _ _).mono ?_; rintro e w' ⟨rfl, rfl⟩)
      go_loopw [24] (fun i wr => ∃ (k : Nat) (os : Array Obj) (d : Nat), k ≤ n ∧ i = .int .i64 k ∧ wr = more (w.alloc (Obj.cells #[.int .i64 r, .int .i64 c, .slice A n cap] 34)) os d ∧ Hid (∀ j x, j < k → l[j]? = some x → valRight x = true)) (fun i _ => n - (intOf i).toNat)
      case atStart => exact ⟨0, #[], _, Nat.zero_le _, rfl, (more_none _).symm, fun j x hj => absurd hj (Nat.not_lt_zero _)⟩
      case round =>
        obtain ⟨k, os, d, hk, rfl, rfl, H⟩ := hrel
        by_cases hlt : k < n
        · obtain ⟨x, b, off, hx, hxo, rfl, hv⟩ := h.at hlt
          obtain ⟨v0, v1, v2, v3, v4, v5⟩ := hv
          have hbl : b < w.heap.size := lt_of_cell v0
          by_cases hvr : valRight x = true
          · go_wp2_with (go_at_call 76; refine (valRight_any _ _ _ _ _ _ _ hxo.2.1 hxo.2.2.2.1).mono ?_; rintro e w' ⟨rfl, hb⟩; obtain ⟨os', d', rfl⟩ := hb.more)
            refine ⟨⟨k + 1, _, _, by omega, by go_num, rfl, ?_⟩, by simp [intOf]; omega⟩
            intro j y hj hy
            by_cases hjk : j = k
            · subst hjk
              obtain rfl : x = y := by rw [hx] at hy; simpa using hy
              exact hvr
            · exact H.out j y (by omega) hy
          · have hvr' : valRight x = false := by simpa using hvr
            have hR : R = false := by
              rw [HR.out]
              exact List.all_eq_false.2 ⟨x, List.mem_of_getElem? hx, hvr⟩
            have HR2 := Lib.hid hR
            clear hR hvr
            go_wp2_with (go_at_call 76; refine (valRight_any _ _ _ _ _ _ _ hxo.2.1 hxo.2.2.2.1).mono ?_; rintro e w' ⟨rfl, hb⟩; obtain ⟨os', d', rfl⟩ := hb.more)
            go_ret
            exact ⟨ret_bool HR2.out.symm, by repeat (first | exact Ext.refl _ | apply Ext.drew | apply Ext.alloc | apply Ext.more_)⟩
        · have hR : R = true := by
            rw [HR.out]
            refine List.all_eq_true.2 fun x hx => ?_
            obtain ⟨j, hj, rfl⟩ := List.getElem_of_mem hx
            exact H.out j _ (by have := h.len; omega) (List.getElem?_eq_getElem hj)
          have HR2 := Lib.hid hR
          clear hR
          go_wp2
          go_ret
          exact ⟨ret_bool HR2.out.symm, by repeat (first | exact Ext.refl _ | apply Ext.drew | apply Ext.alloc | apply Ext.more_)⟩
    · have e : rightA r c l = false := by simp [rightA, h.len, hn]
      rw [e]; clear e
      have hn' : ((n : Int) != r * c) = true := by simp [hn]
      clear hn
      go_enter Tryz.func45, Tryz.ntmps45
      go_wp2_with (go_at_call 75; refine (fits_any _ _ _).mono ?_; rintro e w' ⟨rfl, rfl⟩)
      go_ret
      exact ⟨rfl, by repeat (first | exact Ext.refl _ | apply Ext.drew | apply Ext.alloc | apply Ext.more_)⟩
  · have e : rightA r c l = false := by simp [rightA, hf]
    have hf' : fitsB r c = false := by simpa using hf
    rw [e]; clear e hf
    go_enter Tryz.func45, Tryz.ntmps45
    go_wp2_with (go_at_call 75; refine (fits_any _ _ _).mono ?_; rintro e w' ⟨rfl, rfl⟩)
    go_ret
    exact ⟨rfl, by repeat (first | exact Ext.refl _ | apply Ext.drew | apply Ext.alloc | apply Ext.more_)⟩
/-- counterpaneref09.Right. -/
def refRightA (r c : Int) (l : List Val) : Bool :=
  decide (1 ≤ r) && decide (1 ≤ c) && decide (r ≤ 4096) && decide (c ≤ 4096) && decide (r * c ≤ 4096) && decide ((l.length : Int) = r * c) && l.all refRight
theorem rightA_eq (r c : Int) (l : List Val) (h : ∀ x ∈ l, x.ok) : rightA r c l = refRightA r c l := by
  have h1 : l.all valRight = l.all refRight := by
    rw [Bool.eq_iff_iff]
    simp only [List.all_eq_true]
    exact ⟨fun k x hx => by rw [← right_eq x (h x hx)]; exact k x hx, fun k x hx => by rw [right_eq x (h x hx)]; exact k x hx⟩
  unfold rightA refRightA
  rw [h1]
  by_cases hf : fitsB r c = true
  · obtain ⟨f1, f2, f3, f4, f5, f6⟩ := fits_mul hf
    simp [hf, f1, f2, f3, f4, f6]
  · have hf' : fitsB r c = false := by simpa using hf
    simp only [hf', Bool.false_and]
    by_cases h1 : 1 ≤ r <;> simp [h1]
    by_cases h2 : 1 ≤ c <;> simp [h2]
    by_cases h3 : r ≤ 4096 <;> simp [h3]
    intro h4 h5
    exfalso
    simp [fitsB, h1, h2, h3] at hf'
    have h6 : 4096 / r + 1 ≤ c := by omega
    have h7 : r * (4096 / r + 1) ≤ r * c := Int.mul_le_mul_of_nonneg_left h6 (by omega)
    have h8 := Int.lt_mul_ediv_self_add (x := 4096) (k := r) (by omega)
    rw [Int.mul_add] at h7
    omega
end Go.Proofs.YteigcfflljoioaaGreatDoor
namespace Go.Proofs.YteigcfflljoioaaGreatDoor
open Go.RowKit
theorem wrap_small {r c : Int} (h1 : 1 ≤ r) (h2 : 1 ≤ c) (h3 : r ≤ 4096) (h4 : c ≤ 4096) : IntKind.i64.wrap (r * c) = r * c := by
  have h5 : 1 * 1 ≤ r * c := Int.mul_le_mul h1 h2 (by omega) (by omega)
  have h6 : r * c ≤ 4096 * 4096 := Int.mul_le_mul h3 h4 (by omega) (by omega)
  rw [IntKind.wrap_i64]; omega
theorem refRightA_bad {r c : Int} {n : Nat} {l : List Val} (hl : l.length = n) (h : ((((r < 1 ∨ c < 1) ∨ 4096 < r) ∨ 4096 < c) ∨ 4096 < IntKind.i64.wrap (r * c)) ∨ ((n : Int) != IntKind.i64.wrap (r * c)) = true) : refRightA r c l = false := by
  by_cases h1 : 1 ≤ r
  · by_cases h2 : 1 ≤ c
    · by_cases h3 : r ≤ 4096
      · by_cases h4 : c ≤ 4096
        · rw [wrap_small h1 h2 h3 h4] at h
          rcases h with (((h | h) | h) | h) | h
          · omega
          · omega
          · omega
          · have h5 : ¬ r * c ≤ 4096 := by omega
            simp [refRightA, h5]
          · have h5 : ¬ (l.length : Int) = r * c := by rw [hl]; simpa using h
            simp [refRightA, h5]
        · simp [refRightA, h4]
      · simp [refRightA, h3]
    · simp [refRightA, h2]
  · simp [refRightA, h1]
theorem refRightA_good {r c : Int} {n : Nat} {l : List Val} (hl : l.length = n) (h : ((((1 ≤ r ∧ 1 ≤ c) ∧ r ≤ 4096) ∧ c ≤ 4096) ∧ IntKind.i64.wrap (r * c) ≤ 4096) ∧ ((n : Int) != IntKind.i64.wrap (r * c)) = false) : refRightA r c l = l.all refRight := by
  obtain ⟨⟨⟨⟨⟨h1, h2⟩, h3⟩, h4⟩, h5⟩, h6⟩ := h
  rw [wrap_small h1 h2 h3 h4] at h5 h6
  have h7 : (l.length : Int) = r * c := by rw [hl]; simpa using h6
  simp [refRightA, h1, h2, h3, h4, h5, h7]
set_option maxHeartbeats 400000 in
theorem refRightA_any (r c : Int) (A : Option Addr) (n cap : Nat) (l : List Val) (w : World) (h : ArrIn w A n cap l) :
    Calls Tryz.prog 29 #[AV r c (.slice A n cap)] w fun e w' => e = .returned (.bool (refRightA r c l)) ∧ Ext w w' := by
  have hsm := h.small
  generalize hR : refRightA r c l = R
  have HR := Lib.hid hR
  clear hR
  go_enter Tryz.func29, Tryz.ntmps29
  go_upto_region 1 with (fail)
  refine wp_region_lit ?_
  iterate 4 ((refine wpL_read (v := ?_) rfl ?_ ?_; rotate_left 1; (go_simp; first | done | rfl)); try simp only [Act.put, zqA, zqB, zqC])
  iterate 3 ((refine wpL_gread (v := ?_) (c := ?_) rfl rfl rfl ?_ (fun hc => ?_) ?_; rotate_left 2; (first | exact gc_t _ | exact gc_f _ | exact gc_gt _ _ | exact gc_gf _ _); ((try simp only [gv_of hc]); (try (have hc1 := and_l hc; (try simp only [gv_of hc1]); (try (have hc2 := and_l hc1; (try simp only [gv_of hc2]))))); go_simp; first | done | rfl)); try simp only [Act.put, zqA, zqB, zqC])
  first | (refine wpL_pick_and rfl rfl rfl rfl rfl ?_) | (refine wpL_pick_or rfl rfl rfl rfl rfl ?_)
  try simp only [Act.put, zqA, zqB, zqC]
  (refine wpL_read (v := ?_) rfl ?_ ?_; rotate_left 1; (go_simp; first | done | rfl))
  try simp only [Act.put, zqA, zqB, zqC]
  iterate 3 ((refine wpL_gread (v := ?_) (c := ?_) rfl rfl rfl ?_ (fun hc => ?_) ?_; rotate_left 2; (first | exact gc_t _ | exact gc_f _ | exact gc_gt _ _ | exact gc_gf _ _); ((try simp only [gv_of hc]); (try (have hc1 := and_l hc; (try simp only [gv_of hc1]); (try (have hc2 := and_l hc1; (try simp only [gv_of hc2]))))); go_simp; first | done | rfl)); try simp only [Act.put, zqA, zqB, zqC])
  first | (refine wpL_pick_and rfl rfl rfl rfl rfl ?_) | (refine wpL_pick_or rfl rfl rfl rfl rfl ?_)
  try simp only [Act.put, zqA, zqB, zqC]
  (refine wpL_read (v := ?_) rfl ?_ ?_; rotate_left 1; (go_simp; first | done | rfl))
  try simp only [Act.put, zqA, zqB, zqC]
  iterate 3 ((refine wpL_gread (v := ?_) (c := ?_) rfl rfl rfl ?_ (fun hc => ?_) ?_; rotate_left 2; (first | exact gc_t _ | exact gc_f _ | exact gc_gt _ _ | exact gc_gf _ _); ((try simp only [gv_of hc]); (try (have hc1 := and_l hc; (try simp only [gv_of hc1]); (try (have hc2 := and_l hc1; (try simp only [gv_of hc2]))))); go_simp; first | done | rfl)); try simp only [Act.put, zqA, zqB, zqC])
  first | (refine wpL_pick_and rfl rfl rfl rfl rfl ?_) | (refine wpL_pick_or rfl rfl rfl rfl rfl ?_)
  try simp only [Act.put, zqA, zqB, zqC]
  (refine wpL_read (v := ?_) rfl ?_ ?_; rotate_left 1; (go_simp; first | done | rfl))
  try simp only [Act.put, zqA, zqB, zqC]
  iterate 6 ((refine wpL_gread (v := ?_) (c := ?_) rfl rfl rfl ?_ (fun hc => ?_) ?_; rotate_left 2; (first | exact gc_t _ | exact gc_f _ | exact gc_gt _ _ | exact gc_gf _ _); ((try simp only [gv_of hc]); (try (have hc1 := and_l hc; (try simp only [gv_of hc1]); (try (have hc2 := and_l hc1; (try simp only [gv_of hc2]))))); go_simp; first | done | rfl)); try simp only [Act.put, zqA, zqB, zqC])
  first | (refine wpL_pick_and rfl rfl rfl rfl rfl ?_) | (refine wpL_pick_or rfl rfl rfl rfl rfl ?_)
  try simp only [Act.put, zqA, zqB, zqC]
  (refine wpL_read (v := ?_) rfl ?_ ?_; rotate_left 1; (go_simp; first | done | rfl))
  try simp only [Act.put, zqA, zqB, zqC]
  iterate 9 ((refine wpL_gread (v := ?_) (c := ?_) rfl rfl rfl ?_ (fun hc => ?_) ?_; rotate_left 2; (first | exact gc_t _ | exact gc_f _ | exact gc_gt _ _ | exact gc_gf _ _); ((try simp only [gv_of hc]); (try (have hc1 := and_l hc; (try simp only [gv_of hc1]); (try (have hc2 := and_l hc1; (try simp only [gv_of hc2]))))); go_simp; first | done | rfl)); try simp only [Act.put, zqA, zqB, zqC])
  first | (refine wpL_pick_and rfl rfl rfl rfl rfl ?_) | (refine wpL_pick_or rfl rfl rfl rfl rfl ?_)
  try simp only [Act.put, zqA, zqB, zqC]
  refine wpList_nil ?_
  try go_simp
  go_wp2
  · go_ret
    refine ⟨ret_bool ?_, by repeat (first | exact Ext.refl _ | apply Ext.drew | apply Ext.alloc | apply Ext.more_)⟩
    rw [← HR.out]
    symm
    exact refRightA_bad h.len (by assumption)
  · rename_i hgood _ _
    have HR' := Lib.hid (refRightA_good h.len hgood)
    clear hgood
    go_loopw [3] (fun i wr => ∃ (k : Nat) (os : Array Obj) (d : Nat), k ≤ n ∧ i = .int .i64 k ∧ wr = more (w.alloc (Obj.cells #[.int .i64 r, .int .i64 c, .slice A n cap] 34)) os d ∧ Hid (∀ j x, j < k → l[j]? = some x → refRight x = true)) (fun i _ => n - (intOf i).toNat)
    case atStart => exact ⟨0, #[], _, Nat.zero_le _, rfl, (more_none _).symm, fun j x hj => absurd hj (Nat.not_lt_zero _)⟩
    case round =>
      obtain ⟨k, os, d, hk, rfl, rfl, H⟩ := hrel
      by_cases hlt : k < n
      · obtain ⟨x, b, off, hx, hxo, rfl, hv⟩ := h.at hlt
        obtain ⟨v0, v1, v2, v3, v4, v5⟩ := hv
        have hbl : b < w.heap.size := lt_of_cell v0
        by_cases hvr : refRight x = true
        · go_wp2_with (go_at_call 12; refine (refRight_any _ _ _ _ _ _ _ hxo.2.1 hxo.2.2.2.1).mono ?_; rintro e w' ⟨rfl, hb⟩; obtain ⟨os', d', rfl⟩ := hb.more)
          refine ⟨⟨k + 1, _, _, by omega, by go_num, rfl, ?_⟩, by simp [intOf]; omega⟩
          intro j y hj hy
          by_cases hjk : j = k
          · subst hjk
            obtain rfl : x = y := by rw [hx] at hy; simpa using hy
            exact hvr
          · exact H.out j y (by omega) hy
        · have hvr' : refRight x = false := by simpa using hvr
          have hR : R = false := by
            rw [← HR.out, HR'.out]
            exact List.all_eq_false.2 ⟨x, List.mem_of_getElem? hx, hvr⟩
          have HR2 := Lib.hid hR
          clear hR hvr
          go_wp2_with (go_at_call 12; refine (refRight_any _ _ _ _ _ _ _ hxo.2.1 hxo.2.2.2.1).mono ?_; rintro e w' ⟨rfl, hb⟩; obtain ⟨os', d', rfl⟩ := hb.more)
          go_ret
          exact ⟨ret_bool HR2.out.symm, by repeat (first | exact Ext.refl _ | apply Ext.drew | apply Ext.alloc | apply Ext.more_)⟩
      · have hR : R = true := by
          rw [← HR.out, HR'.out]
          refine List.all_eq_true.2 fun x hx => ?_
          obtain ⟨j, hj, rfl⟩ := List.getElem_of_mem hx
          exact H.out j _ (by have := h.len; omega) (List.getElem?_eq_getElem hj)
        have HR2 := Lib.hid hR
        clear hR
        go_wp2
        go_ret
        exact ⟨ret_bool HR2.out.symm, by repeat (first | exact Ext.refl _ | apply Ext.drew | apply Ext.alloc | apply Ext.more_)⟩
end Go.Proofs.YteigcfflljoioaaGreatDoor
namespace Go.Proofs.YteigcfflljoioaaGreatDoor
open Go.RowKit
theorem SlV.one {w : World} {n base : Nat} {k m e : Int} {t : ByteArray} {b : Bool} {f : Int} {ty : TypeId} (hn : n = w.heap.size) (hb : base ≤ n) :
    SlV base (w.alloc (.cells #[.int .i64 k, .int .i64 m, .int .i64 e, .string t, .bool b, .int .i64 f] ty)) (some ⟨n, 0, none⟩) [⟨k, m, e, t, b, f⟩] := fun j u hu => by
  refine ⟨n, 0, rfl, hb, ?_⟩
  rw [World.cell?_alloc_at _ _ _ _ hn, Nat.zero_add, ← hu]
  simp only [vcells, Val.cells, List.flatMap_cons, List.flatMap_nil, List.append_nil]
  simp
/-- What a call hands back: an array in new memory. -/
def ArrO (base : Nat) (w' : World) (e : Ending) (r c : Int) (l : List Val) : Prop :=
  ∃ A cap, e = .returned (AV r c (.slice A l.length cap)) ∧ SlV base w' A l ∧ l.length ≤ cap
def bad9 : Val := ⟨4, 0, 0, ⟨#[]⟩, false, 9⟩
def badV (f : Int) : Val := ⟨4, 0, 0, ⟨#[]⟩, false, f⟩
set_option maxHeartbeats 400000 in
theorem refBad_any (f : Int) (w : World) :
    Calls Tryz.prog 37 #[.int .i64 f] w fun e w' => ArrO w.heap.size w' e 1 1 [badV f] ∧ Ext w w' := by
  go_enter Tryz.func37, Tryz.ntmps37
  go_wp2
  refine bodyPost_ret (v := AV 1 1 (.slice (some ⟨w.heap.size + 1, 0, none⟩) 1 1)) (by simp [results, Tryz.results37, go_sem]) rfl ⟨⟨_, _, rfl, ?_, Nat.le_refl _⟩, by repeat (first | exact Ext.refl _ | apply Ext.drew | apply Ext.alloc | apply Ext.more_)⟩
  exact SlV.one (by simp) (by simp)
set_option maxHeartbeats 400000 in
theorem one_right (k m ex f : Int) (t : ByteArray) (b : Bool) (w : World) (hm : I64 m) (ht : t.size ≤ 9223372036854775807) (hr : valRight ⟨k, m, ex, t, b, f⟩ = true) :
    Calls Tryz.prog 73 #[VV k m ex t b f] w fun e w' => ArrO w.heap.size w' e 1 1 [⟨k, m, ex, t, b, f⟩] ∧ Ext w w' := by
  go_enter Tryz.func73, Tryz.ntmps73
  go_wp2_with (go_at_call 76; refine (valRight_any _ _ _ _ _ _ _ hm ht).mono ?_; rintro e w' ⟨rfl, hb⟩; obtain ⟨os, d, rfl⟩ := hb.more)
  refine bodyPost_ret (v := AV 1 1 (.slice (some ⟨w.heap.size + 1 + 1 + os.size, 0, none⟩) 1 1)) (by simp [results, Tryz.results73, go_sem]) rfl ⟨⟨_, _, rfl, ?_, Nat.le_refl _⟩, by repeat (first | exact Ext.refl _ | apply Ext.drew | apply Ext.alloc | apply Ext.more_)⟩
  exact SlV.one (by simp) (by omega)
set_option maxHeartbeats 400000 in
theorem broken_any (w : World) :
    Calls Tryz.prog 90 #[] w fun e w' => ArrO w.heap.size w' e 1 1 [bad9] ∧ Ext w w' := by
  have hb9 : badF 9 = 9 := by decide
  have hr : valRight ⟨4, 0, 0, ⟨#[]⟩, false, 9⟩ = true := by decide
  have hm0 : I64 0 := ⟨by omega, by omega⟩
  have ht0 : (⟨#[]⟩ : ByteArray).size ≤ 9223372036854775807 := by decide
  go_enter Tryz.func90, Tryz.ntmps90
  go_wp2_with (first | (go_at_call 74; refine (bad_any _ _).mono ?_; rintro e w' ⟨rfl, hb⟩; obtain ⟨os, d, rfl⟩ := hb.more) | (go_at_call 73; refine (one_right 4 0 0 9 ⟨#[]⟩ false _ hm0 ht0 hr).mono ?_; rintro e w' ⟨⟨A, cap, rfl, hs, hcap⟩, hb⟩; obtain ⟨os, d, rfl⟩ := hb.more))
  exact bodyPost_ret (v := AV 1 1 (.slice A 1 cap)) (by simp [results, Tryz.results90, go_sem]) rfl ⟨⟨_, _, rfl, (by (try simp only [more_more] at hs); (try simp only [drew_more] at hs); (try simp only [more_drew] at hs); exact Rd.swap hs (by first | (simp; done) | (simp; omega) | omega) (by first | (simp; done) | (simp; omega) | omega) (by first | (simp; done) | (simp; omega) | omega)), hcap⟩, by repeat (first | exact Ext.refl _ | apply Ext.drew | apply Ext.alloc | apply Ext.more_)⟩
theorem valRight_bad (f : Int) (h : 1 ≤ f ∧ f ≤ 9) : valRight (badV f) = true := by
  have hb : badF f = f := by unfold badF; rw [if_neg (by omega)]
  simp [valRight, badV, hb, eqV]
set_option maxHeartbeats 400000 in
theorem tooGreat_any (w : World) :
    Calls Tryz.prog 92 #[] w fun e w' => ArrO w.heap.size w' e 1 1 [badV 5] ∧ Ext w w' := by
  have hb9 : badF 5 = 5 := by decide
  have hr : valRight ⟨4, 0, 0, ⟨#[]⟩, false, 5⟩ = true := by decide
  have hm0 : I64 0 := ⟨by omega, by omega⟩
  have ht0 : (⟨#[]⟩ : ByteArray).size ≤ 9223372036854775807 := by decide
  go_enter Tryz.func92, Tryz.ntmps92
  go_wp2_with (first | (go_at_call 74; refine (bad_any _ _).mono ?_; rintro e w' ⟨rfl, hb⟩; obtain ⟨os, d, rfl⟩ := hb.more) | (go_at_call 73; refine (one_right 4 0 0 5 ⟨#[]⟩ false _ hm0 ht0 hr).mono ?_; rintro e w' ⟨⟨A, cap, rfl, hs, hcap⟩, hb⟩; obtain ⟨os, d, rfl⟩ := hb.more))
  exact bodyPost_ret (v := AV 1 1 (.slice A 1 cap)) (by simp [results, Tryz.results92, go_sem]) rfl ⟨⟨_, _, rfl, (by (try simp only [more_more] at hs); (try simp only [drew_more] at hs); (try simp only [more_drew] at hs); exact Rd.swap hs (by first | (simp; done) | (simp; omega) | omega) (by first | (simp; done) | (simp; omega) | omega) (by first | (simp; done) | (simp; omega) | omega)), hcap⟩, by repeat (first | exact Ext.refl _ | apply Ext.drew | apply Ext.alloc | apply Ext.more_)⟩
def oneV (x : Val) : Val := if valRight x then x else bad9
def numV (n : Int) : Val := ⟨1, n, 0, ⟨#[]⟩, false, 0⟩
set_option maxHeartbeats 400000 in
theorem sound_any (k m ex f : Int) (t : ByteArray) (b : Bool) (w : World) (hm : I64 m) (ht : t.size ≤ 9223372036854775807) (R : Val) (hR : oneV ⟨k, m, ex, t, b, f⟩ = R) :
    Calls Tryz.prog 96 #[VV k m ex t b f] w fun e w' => e = .returned (VV R.kind R.mant R.exp R.text R.truth R.fault) ∧ Ext w w' := by
  subst hR
  by_cases hr : valRight ⟨k, m, ex, t, b, f⟩ = true
  · have e : oneV ⟨k, m, ex, t, b, f⟩ = ⟨k, m, ex, t, b, f⟩ := by simp [oneV, hr]
    rw [e]; clear e
    go_enter Tryz.func96, Tryz.ntmps96
    go_wp2_with (go_at_call 76; refine (valRight_any _ _ _ _ _ _ _ hm ht).mono ?_; rintro e w' ⟨rfl, hb⟩; obtain ⟨os, d, rfl⟩ := hb.more)
    exact bodyPost_ret (v := VV k m ex t b f) (by simp [results, Tryz.results96, go_sem]) rfl ⟨rfl, by repeat (first | exact Ext.refl _ | apply Ext.drew | apply Ext.alloc | apply Ext.more_)⟩
  · have e : oneV ⟨k, m, ex, t, b, f⟩ = bad9 := by simp [oneV, hr]
    have hr' : valRight ⟨k, m, ex, t, b, f⟩ = false := by simpa using hr
    rw [e]; clear e hr
    have hb9 : badF 9 = 9 := by decide
    go_enter Tryz.func96, Tryz.ntmps96
    go_wp2_with (first | (go_at_call 76; refine (valRight_any _ _ _ _ _ _ _ hm ht).mono ?_; rintro e w' ⟨rfl, hb⟩; obtain ⟨os, d, rfl⟩ := hb.more) | (go_at_call 74; refine (bad_any _ _).mono ?_; rintro e w' ⟨rfl, hb⟩; obtain ⟨os, d, rfl⟩ := hb.more))
    exact bodyPost_ret (v := VV 4 0 0 ⟨#[]⟩ false 9) (by simp [results, Tryz.results96, go_sem]) rfl ⟨rfl, by repeat (first | exact Ext.refl _ | apply Ext.drew | apply Ext.alloc | apply Ext.more_)⟩
end Go.Proofs.YteigcfflljoioaaGreatDoor
namespace Go.Proofs.YteigcfflljoioaaGreatDoor
open Go.RowKit NM
def trueB : ByteArray := ⟨#[84, 82, 85, 69]⟩
def falseB : ByteArray := ⟨#[70, 65, 76, 83, 69]⟩
/-- value.ToNum: the number, and the fault. -/
def tnP (v : Val) : Int × Int := if v.kind = 1 then (v.mant, v.exp) else if v.kind = 2 then (parS v.text).getD (0, 0) else if v.kind = 3 ∧ v.truth = true then (1, 0) else (0, 0)
def tnF (v : Val) : Int := if v.kind = 2 then (if (parS v.text).isSome then 0 else 2) else if v.kind = 4 then v.fault else 0
/-- value.ToText: the text, and the fault. -/
def ttS (v : Val) : ByteArray := if v.kind = 1 then textS v.mant v.exp else if v.kind = 2 then v.text else if v.kind = 3 then (if v.truth then trueB else falseB) else ⟨#[]⟩
def ttF (v : Val) : Int := if v.kind = 4 then v.fault else 0
def numRes (r : Option (Int × Int)) : Val := if r.isSome then ⟨1, rm r, re r, ⟨#[]⟩, false, 0⟩ else badV 5
def bad_ (f : Int) : Val := badV (badF f)
/-- What the numbers of two values come to. -/
def reckV (f : Int → Int → Int → Int → Option (Int × Int)) (x y : Val) : Val :=
  if tnF x ≠ 0 then bad_ (tnF x) else if tnF y ≠ 0 then bad_ (tnF y) else numRes (f (tnP x).1 (tnP x).2 (tnP y).1 (tnP y).2)
def quotV (x y : Val) : Val :=
  if tnF x ≠ 0 then bad_ (tnF x) else if tnF y ≠ 0 then bad_ (tnF y) else if (tnP y).1 = 0 then badV 1 else numRes (divS (tnP x).1 (tnP x).2 (tnP y).1 (tnP y).2)
def powV (x y : Val) : Val :=
  if tnF x ≠ 0 then bad_ (tnF x) else if tnF y ≠ 0 then bad_ (tnF y) else if floorS (tnP y).1 (tnP y).2 ≠ tnP y then badV 5 else if (tnP x).1 = 0 ∧ (tnP y).1 < 0 then badV 1
  else if (intS (tnP y).1 (tnP y).2).isSome then numRes (powS (tnP x).1 (tnP x).2 ((intS (tnP y).1 (tnP y).2).getD 0)) else badV 5
def joinV (x y : Val) : Val := if ttF x ≠ 0 then bad_ (ttF x) else if ttF y ≠ 0 then bad_ (ttF y) else textV (ttS x ++ ttS y)
def truthV (b : Bool) : Val := ⟨3, 0, 0, ⟨#[]⟩, b, 0⟩
def holdV (p : Int → Bool) (x y : Val) : Val := if x.kind = 4 then x else if y.kind = 4 then y else truthV (p (cmpV x y))
/-- The signs. -/
inductive Sg where
  | add | sub | mul | div | pow | join | eq | ne | lt | le | gt | ge
  deriving DecidableEq
def Sg.key : Sg → List UInt8
  | .add => [43] | .sub => [45] | .mul => [42] | .div => [47] | .pow => [94] | .join => [38]
  | .eq => [61] | .ne => [60, 62] | .lt => [60] | .le => [60, 61] | .gt => [62] | .ge => [62, 61]
def Sg.all : List Sg := [.add, .sub, .mul, .div, .pow, .join, .eq, .ne, .lt, .le, .gt, .ge]
def sgOf (s : List UInt8) : Option Sg := Sg.all.find? fun g => g.key == s
def Sg.level : Sg → Int
  | .eq | .ne | .lt | .le | .gt | .ge => 1
  | .join => 2
  | .add | .sub => 3
  | .mul | .div => 4
  | .pow => 5
def Sg.pred : Sg → Int → Bool
  | .eq, n => n == 0
  | .ne, n => n != 0
  | .lt, n => decide (n < 0)
  | .le, n => decide (n ≤ 0)
  | .gt, n => decide (0 < n)
  | .ge, n => decide (0 ≤ n)
  | _, _ => false
def opV : Sg → Val → Val → Val
  | .add => reckV addS
  | .sub => reckV subS
  | .mul => reckV mulS
  | .div => quotV
  | .pow => powV
  | .join => joinV
  | g => holdV g.pred
theorem sgOf_some {s : List UInt8} {g : Sg} (h : sgOf s = some g) : s = g.key := by
  unfold sgOf at h
  have := List.find?_some h
  simpa using Eq.symm (by simpa using this)
def Val.right (x : Val) : Prop := valRight x = true
theorem right_num {m e : Int} (h : Rt m e) : Val.right ⟨1, m, e, ⟨#[]⟩, false, 0⟩ := by
  unfold Val.right valRight
  rw [if_neg (show ¬ (1 : Int) = 0 by decide), if_pos rfl, Bool.and_eq_true]
  exact ⟨by rw [numRight_Rt]; exact decide_eq_true h, decide_eq_true rfl⟩
theorem badF_bd (f : Int) : 1 ≤ badF f ∧ badF f ≤ 9 := by unfold badF; split <;> omega
theorem right_bad (f : Int) : (bad_ f).right := valRight_bad _ (badF_bd f)
theorem right_badV {f : Int} (h : 1 ≤ f ∧ f ≤ 9) : (badV f).right := valRight_bad _ h
theorem right_text (t : ByteArray) : (textV t).right := by
  unfold textV
  by_cases h : 255 < t.size
  · rw [if_pos h]; exact valRight_bad 2 (by decide)
  · rw [if_neg h]
    unfold Val.right valRight
    rw [if_neg (show ¬ (2 : Int) = 0 by decide), if_neg (show ¬ (2 : Int) = 1 by decide), if_pos rfl]
    refine decide_eq_true ?_
    unfold textV
    rw [if_neg h]
theorem right_truth (b : Bool) : (truthV b).right := by
  unfold Val.right valRight truthV
  rw [if_neg (show ¬ (3 : Int) = 0 by decide), if_neg (show ¬ (3 : Int) = 1 by decide), if_neg (show ¬ (3 : Int) = 2 by decide), if_pos rfl]
  exact decide_eq_true rfl
/-- What a right value is, written out. -/
theorem Val.right.form {x : Val} (h : x.right) : x = Val.only 0 ∨ (∃ m e, x = ⟨1, m, e, ⟨#[]⟩, false, 0⟩ ∧ Rt m e) ∨ (∃ t, x = ⟨2, 0, 0, t, false, 0⟩ ∧ t.size ≤ 255) ∨ (∃ b, x = truthV b) ∨ (∃ f, x = badV f ∧ 1 ≤ f ∧ f ≤ 9) := by
  have hc := right_cases h
  unfold Val.right valRight at h
  by_cases h0 : x.kind = 0
  · exact Or.inl (hc.1.2 h0)
  · rw [if_neg h0] at h
    by_cases h1 : x.kind = 1
    · rw [if_pos h1, Bool.and_eq_true, numRight_Rt] at h
      exact Or.inr (Or.inl ⟨x.mant, x.exp, of_decide_eq_true h.2, of_decide_eq_true h.1⟩)
    · rw [if_neg h1] at h
      by_cases h2 : x.kind = 2
      · rw [if_pos h2] at h
        have h3 := hc.2.2.1 h2
        refine Or.inr (Or.inr (Or.inl ⟨x.text, ?_, h3⟩))
        have := of_decide_eq_true h
        unfold textV at this
        rw [if_neg (by omega)] at this
        exact this
      · rw [if_neg h2] at h
        by_cases h3 : x.kind = 3
        · rw [if_pos h3] at h
          exact Or.inr (Or.inr (Or.inr (Or.inl ⟨x.truth, of_decide_eq_true h⟩)))
        · rw [if_neg h3] at h
          by_cases h4 : x.kind = 4
          · rw [if_pos h4] at h
            have hf := hc.2.2.2 h4
            refine Or.inr (Or.inr (Or.inr (Or.inr ⟨x.fault, ?_, hf⟩)))
            have := of_decide_eq_true h
            rw [show badF x.fault = x.fault by unfold badF; rw [if_neg (by omega)]] at this
            exact this
          · rw [if_neg h4] at h; cases h
theorem i64_small {n : Int} (h : -1000 ≤ n ∧ n ≤ 1000) : I64 n := by unfold I64; omega
theorem Val.right.ok {x : Val} (h : x.right) : x.ok := by
  have z : I64 0 := i64_small (by decide)
  have s0 : (0 : Nat) ≤ 9223372036854775807 := Nat.zero_le _
  rcases h.form with rfl | ⟨m, e, rfl, hr⟩ | ⟨t, rfl, ht⟩ | ⟨b, rfl⟩ | ⟨f, rfl, hf⟩
  · exact ⟨z, z, z, s0, z⟩
  · obtain ⟨r1, r2⟩ := Rt_i64 hr
    exact ⟨i64_small (n := 1) (by decide), r1, r2, s0, z⟩
  · exact ⟨i64_small (n := 2) (by decide), z, z, Nat.le_trans ht (by decide), z⟩
  · exact ⟨i64_small (n := 3) (by decide), z, z, s0, z⟩
  · exact ⟨i64_small (n := 4) (by decide), z, z, s0, i64_small (n := f) (by omega)⟩
theorem rt_zero : Rt 0 0 := Or.inl ⟨rfl, rfl⟩
theorem par_rt {s : ByteArray} {p : Int × Int} (h : parS s = some p) : Rt p.1 p.2 := by
  unfold parS at h
  by_cases hl : 255 < s.size
  · rw [if_pos hl] at h; cases h
  · rw [if_neg hl] at h
    unfold parM at h
    cases hr : runS (bl s) st0 with
    | none => rw [hr] at h; cases h
    | some S =>
      rw [hr, Option.bind_some] at h
      unfold endS at h
      split at h
      · exact rnd_right h
      · cases h
theorem tn_rt {x : Val} (h : x.right) : Rt (tnP x).1 (tnP x).2 := by
  rcases h.form with rfl | ⟨m, e, rfl, hr⟩ | ⟨t, rfl, ht⟩ | ⟨b, rfl⟩ | ⟨f, rfl, hf⟩
  · exact rt_zero
  · exact hr
  · show Rt ((parS t).getD (0, 0)).1 ((parS t).getD (0, 0)).2
    cases hp : parS t with
    | none => exact rt_zero
    | some p => exact par_rt hp
  · cases b
    · exact rt_zero
    · exact rt_one
  · exact rt_zero
theorem right_res {r : Option (Int × Int)} (h : ∀ p, r = some p → Rt p.1 p.2) : (numRes r).right := by
  unfold numRes
  cases r with
  | none => exact right_badV (by decide)
  | some p => exact right_num (h p rfl)
theorem right_reck {f : Int → Int → Int → Int → Option (Int × Int)} (hf : ∀ a b c d p, f a b c d = some p → Rt p.1 p.2) (x y : Val) : (reckV f x y).right := by
  unfold reckV
  split
  · exact right_bad _
  · split
    · exact right_bad _
    · exact right_res fun p hp => hf _ _ _ _ p hp
theorem addS_rt {a b c d : Int} {p : Int × Int} (h : addS a b c d = some p) : Rt p.1 p.2 := by
  unfold addS at h
  split at h
  · exact rnd_right h
  · cases h
theorem subS_rt {a b c d : Int} {p : Int × Int} (h : subS a b c d = some p) : Rt p.1 p.2 := by
  unfold subS at h
  split at h
  · exact rnd_right h
  · cases h
theorem divS_rt {a b c d : Int} {p : Int × Int} (h : divS a b c d = some p) : Rt p.1 p.2 := by
  unfold divS at h
  split at h
  · unfold divR at h
    exact rnd_right h
  · cases h
theorem powS_rt {m e n : Int} {p : Int × Int} (h : powS m e n = some p) : Rt p.1 p.2 := by
  unfold powS at h
  split at h
  · cases h
  · split at h
    · cases hp : powN m e (-n).toNat with
      | none => rw [hp] at h; cases h
      | some q => rw [hp] at h; exact divS_rt h
    · exact pow_rt h
theorem right_op (g : Sg) {x y : Val} (hx : x.right) (hy : y.right) : (opV g x y).right := by
  have hh : ∀ p, (holdV p x y).right := fun p => by
    unfold holdV
    split
    · exact hx
    · split
      · exact hy
      · exact right_truth _
  cases g
  · exact right_reck (fun _ _ _ _ _ => addS_rt) x y
  · exact right_reck (fun _ _ _ _ _ => subS_rt) x y
  · exact right_reck (fun _ _ _ _ _ => mul_rt) x y
  · show (quotV x y).right
    unfold quotV
    split
    · exact right_bad _
    · split
      · exact right_bad _
      · split
        · exact right_badV (by decide)
        · exact right_res fun p hp => divS_rt hp
  · show (powV x y).right
    unfold powV
    split
    · exact right_bad _
    · split
      · exact right_bad _
      · split
        · exact right_badV (by decide)
        · split
          · exact right_badV (by decide)
          · split
            · exact right_res fun p hp => powS_rt hp
            · exact right_badV (by decide)
  · show (joinV x y).right
    unfold joinV
    split
    · exact right_bad _
    · split
      · exact right_bad _
      · exact right_text _
  all_goals exact hh _
end Go.Proofs.YteigcfflljoioaaGreatDoor
namespace Go.Proofs.YteigcfflljoioaaGreatDoor
open Go.RowKit NM
theorem upB_yes {b : UInt8} (h1 : 97 ≤ b.toNat) (h2 : b.toNat ≤ 122) : (upB b).toNat = b.toNat - 32 := by
  unfold upB
  rw [if_pos ⟨UInt8.le_iff_toNat_le.2 h1, UInt8.le_iff_toNat_le.2 h2⟩, UInt8.toNat_sub_of_le]
  · rfl
  · rw [UInt8.le_iff_toNat_le]; show 32 ≤ b.toNat; omega
theorem upB_no {b : UInt8} (h : b.toNat < 97 ∨ 122 < b.toNat) : upB b = b := by
  unfold upB
  rw [if_neg]
  rintro ⟨h1, h2⟩
  have h1 : 97 ≤ b.toNat := UInt8.le_iff_toNat_le.1 h1
  have h2 : b.toNat ≤ 122 := UInt8.le_iff_toNat_le.1 h2
  omega
theorem bytes_ext_ (w : World) (e : TypeId) (s : ByteArray) : Ext w (Lib.bytesWorld w e s) :=
  ⟨rfl, rfl, rfl, by rw [Lib.bytesWorld_size]; omega, fun b hb => Lib.bytesWorld_at_old w e s b hb⟩
theorem tl_get (s : ByteArray) (j : Nat) (h : j < s.size) : (tl s)[j]? = some (s[j]'h) := by
  unfold tl
  rw [List.getElem?_eq_getElem (by exact h)]
  rfl
theorem fold_get (s : ByteArray) (j : Nat) (h : j < s.size) : (foldB s)[j]'(by rw [foldB_size]; exact h) = upB (s[j]'h) := by
  have h1 := tl_get (foldB s) j (by rw [foldB_size]; exact h)
  rw [tl_fold, List.getElem?_map, tl_get s j h] at h1
  exact (Option.some.inj h1).symm
/-- What the loop of folded keeps. -/
structure FS (w : World) (s : ByteArray) (k : Nat) (wr : World) : Prop where
  ext : Ext w wr
  cell : ∀ j (h : j < s.size), wr.cell? ⟨w.heap.size, j, none⟩ = some (.int .u8 ((if j < k then upB (s[j]'h) else s[j]'h).toNat : Int))
  fz : ∀ j, j < s.size → wr.frozen? ⟨w.heap.size, j, none⟩ = false
theorem FS.start (w : World) (s : ByteArray) : FS w s 0 (Lib.bytesWorld w 5 s) := by
  refine ⟨bytes_ext_ _ _ _, fun j h => ?_, fun j h => ?_⟩
  · rw [Lib.bytesWorld_cell _ _ _ _ h]
    have h1 := tl_get s j h
    unfold tl at h1
    rw [List.getD_eq_getElem?_getD, h1]
    rfl
  · have hc : s.size ≤ (Lib.bytesCells w 5 s).size := by
      unfold Lib.bytesCells
      rw [Array.size_append, Array.size_map]
      exact Nat.le_add_right _ _
    unfold World.frozen?
    rw [Lib.bytesWorld_at_new]
    simp
    omega
theorem FS.lt {w : World} {s : ByteArray} {k : Nat} {wr : World} (h : FS w s k wr) (h0 : 0 < s.size) : w.heap.size < wr.heap.size := lt_of_cell (h.cell 0 h0)
theorem FS.up {w : World} {s : ByteArray} {k : Nat} {wr : World} (h : FS w s k wr) (hk : k < s.size) (v : Int) (hv : v = ((upB (s[k]'hk)).toNat : Int)) : FS w s (k + 1) (wr.setCell ⟨w.heap.size, k, none⟩ (.int .u8 v)) := by
  subst hv
  refine ⟨h.ext.set _ (Nat.le_refl _), fun j hj => ?_, fun j hj => by rw [World.frozen?_setCell]; exact h.fz j hj⟩
  by_cases hjk : j = k
  · subst hjk
    rw [World.cell?_setCell_same _ _ _ (h.cell j hj), if_pos (by omega)]
  · rw [World.cell?_setCell_other _ _ _ _ (by intro e; injection e with _ e; omega), h.cell j hj]
    congr 4
    by_cases h1 : j < k
    · rw [if_pos h1, if_pos (by omega)]
    · rw [if_neg h1, if_neg (by omega)]
theorem FS.keep {w : World} {s : ByteArray} {k : Nat} {wr : World} (h : FS w s k wr) (hk : k < s.size) (hv : upB (s[k]'hk) = s[k]'hk) : FS w s (k + 1) wr := by
  refine ⟨h.ext, fun j hj => ?_, h.fz⟩
  rw [h.cell j hj]
  by_cases hjk : j = k
  · subst hjk
    rw [if_neg (by omega), if_pos (by omega), hv]
  · congr 4
    by_cases h1 : j < k
    · rw [if_pos h1, if_pos (by omega)]
    · rw [if_neg h1, if_neg (by omega)]
theorem FS.done {w : World} {s : ByteArray} {wr : World} (h : FS w s s.size wr) : Lib.Bytes wr w.heap.size 0 (foldB s) := by
  intro j hj
  have hj' : j < s.size := by rw [foldB_size] at hj; exact hj
  rw [Nat.zero_add, h.cell j hj', if_pos hj', fold_get s j hj']
set_option maxHeartbeats 1000000 in
theorem folded_any (s : ByteArray) (w : World) (h0 : 0 < s.size) (hs : s.size ≤ 9223372036854775807) :
    Calls Tryz.prog 174 #[.string s] w fun e w' => e = .returned (.string (foldB s)) ∧ Ext w w' := by
  have hc1 := Lib.run_convert_string_bytes (P := Tryz.prog) w 9 102 5 s Tryz.underlying9 Tryz.underlying102 Tryz.underlying5
  have hst := FS.start w s
  generalize Lib.bytesWorld w 5 s = W at *
  generalize grownCap w s.size 0 5 = cap at *
  have HST := Lib.hid hst
  clear hst
  go_enter Tryz.func174, Tryz.ntmps174
  go_wp2_with fail
  go_loopw [10] (fun v10 wr => ∃ k : Nat, k ≤ s.size ∧ v10 = .int .i64 (k : Int) ∧ Hid (FS w s k wr)) (fun v10 _ => s.size - (intOf v10).toNat)
  case atStart => exact ⟨0, Nat.zero_le _, rfl, HST⟩
  case round =>
    obtain ⟨k, hk, rfl, H⟩ := hrel
    by_cases hks : k < s.size
    · have hc := H.out.cell k hks
      rw [if_neg (Nat.lt_irrefl k)] at hc
      have hf := H.out.fz k hks
      have hl := H.out.lt h0
      have hb := (s[k]'hks).toNat_lt
      by_cases h97 : 97 ≤ (s[k]'hks).toNat
      · by_cases h122 : (s[k]'hks).toNat ≤ 122
        · have HU := Lib.hid (H.out.up hks (((s[k]'hks).toNat : Int) - 97 + 65) (by rw [upB_yes h97 h122]; omega))
          have g1 : (97 : Int) ≤ ((s[k]'hks).toNat : Int) := by omega
          have g2 : ((s[k]'hks).toNat : Int) ≤ 122 := by omega
          generalize (s[k]'hks).toNat = c at *
          have w1 : IntKind.u8.wrap ((c : Int) - 97) = (c : Int) - 97 := by rw [IntKind.wrap_u8]; omega
          have w2 : IntKind.u8.wrap ((c : Int) - 97 + 65) = (c : Int) - 97 + 65 := by rw [IntKind.wrap_u8]; omega
          clear h97 h122
          go_wp2_with fail
          exact ⟨⟨k + 1, by omega, by go_num, HU⟩, by simp [intOf]; omega⟩
        · have HU := Lib.hid (H.out.keep hks (upB_no (by omega)))
          have g1 : (97 : Int) ≤ ((s[k]'hks).toNat : Int) := by omega
          have g2 : ¬ ((s[k]'hks).toNat : Int) ≤ 122 := by omega
          generalize (s[k]'hks).toNat = c at *
          clear h97 h122
          go_wp2_with fail
          exact ⟨⟨k + 1, by omega, by go_num, HU⟩, by simp [intOf]; omega⟩
      · have HU := Lib.hid (H.out.keep hks (upB_no (by omega)))
        have g1 : ¬ (97 : Int) ≤ ((s[k]'hks).toNat : Int) := by omega
        generalize (s[k]'hks).toNat = c at *
        clear h97
        go_wp2_with fail
        exact ⟨⟨k + 1, by omega, by go_num, HU⟩, by simp [intOf]; omega⟩
    · obtain rfl : k = s.size := by omega
      have hcv := Lib.run_convert_whole (P := Tryz.prog) wr 102 5 9 Tryz.underlying102 Tryz.underlying5 Tryz.underlying9 w.heap.size 0 (foldB s) H.out.done cap
      rw [foldB_size] at hcv
      go_wp2_with fail
      exact bodyPost_ret (v := .string (foldB s)) (by simp [results, Tryz.results174, go_sem]) rfl ⟨rfl, H.out.ext⟩
set_option maxHeartbeats 1000000 in
theorem fold_any (s : ByteArray) (w : World) (hs : s.size ≤ 9223372036854775807) :
    Calls Tryz.prog 162 #[.string s] w fun e w' => e = .returned (.string (foldB s)) ∧ Ext w w' := by
  go_enter Tryz.func162, Tryz.ntmps162
  go_wp2_with fail
  go_loop [6] (fun v6 => ∃ k : Nat, k ≤ s.size ∧ v6 = .int .i64 (k : Int) ∧ Hid (∀ j (h : j < s.size), j < k → upB (s[j]'h) = s[j]'h)) (fun v6 => s.size - (intOf v6).toNat)
  case atStart => exact ⟨0, Nat.zero_le _, rfl, fun j _ h => by omega⟩
  case round =>
    obtain ⟨k, hk, rfl, H⟩ := hrel
    have hstep : ∀ hks : k < s.size, upB (s[k]'hks) = s[k]'hks → Hid (∀ j (h : j < s.size), j < k + 1 → upB (s[j]'h) = s[j]'h) := by
      intro hks hu j hj hjk
      by_cases h : j = k
      · subst h; exact hu
      · exact H.out j hj (by omega)
    by_cases hks : k < s.size
    · have HS := fun hu => hstep hks hu
      by_cases h97 : 97 ≤ (s[k]'hks).toNat
      · have g1 : (97 : Int) ≤ ((s[k]'hks).toNat : Int) := by omega
        by_cases h122 : (s[k]'hks).toNat ≤ 122
        · have g2 : ((s[k]'hks).toNat : Int) ≤ 122 := by omega
          have hfd := folded_any s w (by omega) hs
          clear HS hstep h97 h122
          go_wp2_with (go_at_call 174; (with_reducible refine hfd.mono ?_); rintro e w' ⟨rfl, hb⟩)
          exact bodyPost_ret (v := .string (foldB s)) (by simp [results, Tryz.results162, go_sem]) rfl ⟨rfl, hb⟩
        · have g2 : ¬ ((s[k]'hks).toNat : Int) ≤ 122 := by omega
          have HU := HS (upB_no (by omega))
          clear HS hstep h97 h122
          go_wp2_with fail
          exact ⟨⟨k + 1, by omega, by go_num, HU⟩, by simp [intOf]; omega⟩
      · have g1 : ¬ (97 : Int) ≤ ((s[k]'hks).toNat : Int) := by omega
        have HU := HS (upB_no (by omega))
        clear HS hstep h97
        go_wp2_with fail
        exact ⟨⟨k + 1, by omega, by go_num, HU⟩, by simp [intOf]; omega⟩
    · have hfs : Hid (foldB s = s) := by
        show _ = _
        have h1 : tl (foldB s) = tl s := by
          rw [tl_fold]
          conv => rhs; rw [← List.map_id (tl s)]
          apply List.map_congr_left
          intro b hb
          obtain ⟨j, hj, rfl⟩ := List.mem_iff_getElem.1 hb
          exact H.out j hj (by have : j < s.size := hj; omega)
        rw [tl_eq h1]
        cases s; simp [tl]
      have hks' : ¬ (k : Int) < (s.size : Int) := by omega
      clear hstep
      go_wp2_with fail
      exact bodyPost_ret (v := .string s) (by simp [results, Tryz.results162, go_sem]) rfl ⟨by rw [hfs.out], Ext.refl _⟩
theorem conv_one (w : World) (c : UInt8) : (convert 102 9 (.slice (some ⟨w.heap.size, 0, none⟩) 1 1)).run Tryz.prog (w.alloc (.cells #[.int .u8 (c.toNat : Int)] 5)) = .ok (.string ⟨#[c]⟩) (w.alloc (.cells #[.int .u8 (c.toNat : Int)] 5)) := by
  have hb : Lib.Bytes (w.alloc (.cells #[.int .u8 (c.toNat : Int)] 5)) w.heap.size 0 ⟨#[c]⟩ := by
    intro i hi
    have hi : i < 1 := hi
    obtain rfl : i = 0 := by omega
    rw [World.cell?_alloc_new]
    rfl
  exact Lib.run_convert_whole (P := Tryz.prog) _ 102 5 9 Tryz.underlying102 Tryz.underlying5 Tryz.underlying9 w.heap.size 0 ⟨#[c]⟩ hb 1
set_option maxHeartbeats 1000000 in
theorem rfold_any (s : ByteArray) (w : World) (hs : s.size ≤ 9223372036854775807) :
    Calls Tryz.prog 42 #[.string s] w fun e w' => e = .returned (.string (foldB s)) ∧ Ext w w' := by
  go_enter Tryz.func42, Tryz.ntmps42
  go_wp2_with fail
  go_loopw [3, 4] (fun v3 v4 wr => ∃ (k : Nat) (t : ByteArray), k ≤ s.size ∧ v3 = .string t ∧ v4 = .int .i64 (k : Int) ∧ t.size = k ∧ Ext w wr ∧ Hid (tl t = (tl (foldB s)).take k)) (fun _ v4 _ => s.size - (intOf v4).toNat)
  case atStart => exact ⟨0, ⟨#[]⟩, Nat.zero_le _, rfl, rfl, rfl, Ext.refl _, by show _ = _; rfl⟩
  case round =>
    obtain ⟨k, t, hk, rfl, rfl, ht, hx, H⟩ := hrel
    by_cases hks : k < s.size
    · have hb := (s[k]'hks).toNat_lt
      have HN : Hid (tl (t ++ ⟨#[upB (s[k]'hks)]⟩) = (tl (foldB s)).take (k + 1)) := by
        have hg := tl_get (foldB s) k (by rw [foldB_size]; exact hks)
        rw [fold_get s k hks] at hg
        show _ = _
        rw [tl_append, H.out, List.take_add_one, hg]; rfl
      have hcv := conv_one wr (upB (s[k]'hks))
      have HT := Lib.hid ht
      have g5 : ¬ 9223372036854775807 < t.size + 1 := by omega
      by_cases h97 : 97 ≤ (s[k]'hks).toNat
      · have g1 : (97 : Int) ≤ ((s[k]'hks).toNat : Int) := by omega
        by_cases h122 : (s[k]'hks).toNat ≤ 122
        · have g2 : ((s[k]'hks).toNat : Int) ≤ 122 := by omega
          have w1 : IntKind.u8.wrap (((s[k]'hks).toNat : Int) - 32) = ((upB (s[k]'hks)).toNat : Int) := by rw [IntKind.wrap_u8, upB_yes h97 h122]; omega
          clear h97 h122 ht
          go_wp2_with fail
          refine ⟨⟨k + 1, _, by omega, rfl, by go_num, ?_, (hx.alloc _), HN⟩, by simp [intOf]; omega⟩
          rw [ByteArray.size_append, HT.out]; rfl
        · have g2 : ¬ ((s[k]'hks).toNat : Int) ≤ 122 := by omega
          have hup : upB (s[k]'hks) = s[k]'hks := upB_no (by omega)
          rw [hup] at hcv HN
          clear h97 h122 hup ht
          go_wp2_with fail
          refine ⟨⟨k + 1, _, by omega, rfl, by go_num, ?_, (hx.alloc _), HN⟩, by simp [intOf]; omega⟩
          rw [ByteArray.size_append, HT.out]; rfl
      · have g1 : ¬ (97 : Int) ≤ ((s[k]'hks).toNat : Int) := by omega
        have hup : upB (s[k]'hks) = s[k]'hks := upB_no (by omega)
        rw [hup] at hcv HN
        clear h97 hup ht
        go_wp2_with fail
        refine ⟨⟨k + 1, _, by omega, rfl, by go_num, ?_, (hx.alloc _), HN⟩, by simp [intOf]; omega⟩
        rw [ByteArray.size_append, HT.out]; rfl
    · obtain rfl : s.size = k := by omega
      have he : Hid (t = foldB s) := by
        show _ = _
        have h1 := H.out
        rw [List.take_of_length_le (by rw [tl_size, foldB_size]; exact Nat.le_refl _)] at h1
        rw [tl_eq h1]
        generalize foldB s = u
        cases u; simp [tl]
      clear ht
      go_wp2_with fail
      exact bodyPost_ret (v := .string t) (by simp [results, Tryz.results42, go_sem]) rfl ⟨by rw [he.out], hx⟩
end Go.Proofs.YteigcfflljoioaaGreatDoor
namespace Go.Proofs.YteigcfflljoioaaGreatDoor
open Go.RowKit NM
set_option maxHeartbeats 400000 in
theorem rbad2_any (f : Int) (w : World) :
    Calls Tryz.prog 27 #[.int .i64 f] w fun e w' => e = .returned (VV 4 0 0 ⟨#[]⟩ false (badF f)) ∧ Ext w w' := by
  by_cases h : f < 1 ∨ 9 < f
  · have hb : badF f = 9 := by simp [badF, h]
    rw [hb]
    rcases h with h | h
    · go_enter Tryz.func27, Tryz.ntmps27
      go_wp2
      exact bodyPost_ret (v := VV 4 0 0 ⟨#[]⟩ false 9) (by simp [results, Tryz.results27, go_sem]) rfl ⟨rfl, by with_reducible repeat (first | exact Ext.refl _ | apply Ext.drew | apply Ext.alloc | apply Ext.more_)⟩
    · have h1 : ¬ f < 1 := by omega
      go_enter Tryz.func27, Tryz.ntmps27
      go_wp2
      exact bodyPost_ret (v := VV 4 0 0 ⟨#[]⟩ false 9) (by simp [results, Tryz.results27, go_sem]) rfl ⟨rfl, by with_reducible repeat (first | exact Ext.refl _ | apply Ext.drew | apply Ext.alloc | apply Ext.more_)⟩
  · have hb : badF f = f := by simp [badF, h]
    rw [hb]
    have h1 : ¬ f < 1 := by omega
    have h2 : ¬ 9 < f := by omega
    go_enter Tryz.func27, Tryz.ntmps27
    go_wp2
    exact bodyPost_ret (v := VV 4 0 0 ⟨#[]⟩ false f) (by simp [results, Tryz.results27, go_sem]) rfl ⟨rfl, by with_reducible repeat (first | exact Ext.refl _ | apply Ext.drew | apply Ext.alloc | apply Ext.more_)⟩
theorem rnumber_any (m e : Int) (w : World) :
    Calls Tryz.prog 36 #[NV m e] w fun r w' => r = .returned (VV 1 m e ⟨#[]⟩ false 0) ∧ Ext w w' := by
  go_enter Tryz.func36, Tryz.ntmps36
  go_wp2
  exact bodyPost_ret (v := VV 1 m e ⟨#[]⟩ false 0) (by simp [results, Tryz.results36, go_sem]) rfl ⟨rfl, by with_reducible repeat (first | exact Ext.refl _ | apply Ext.drew | apply Ext.alloc | apply Ext.more_)⟩
theorem rtruth_any (b : Bool) (w : World) :
    Calls Tryz.prog 145 #[.bool b] w fun r w' => r = .returned (VV 3 0 0 ⟨#[]⟩ b 0) ∧ Ext w w' := by
  go_enter Tryz.func145, Tryz.ntmps145
  go_wp2
  exact bodyPost_ret (v := VV 3 0 0 ⟨#[]⟩ b 0) (by simp [results, Tryz.results145, go_sem]) rfl ⟨rfl, by with_reducible repeat (first | exact Ext.refl _ | apply Ext.drew | apply Ext.alloc | apply Ext.more_)⟩
set_option maxHeartbeats 400000 in
theorem rtext2_any (t : ByteArray) (w : World) (ht : t.size ≤ 9223372036854775807) :
    Calls Tryz.prog 101 #[.string t] w fun e w' => e = .returned (VV (textV t).kind 0 0 (textV t).text false (textV t).fault) ∧ Ext w w' := by
  by_cases h : 255 < t.size
  · have hv : textV t = ⟨4, 0, 0, ⟨#[]⟩, false, 2⟩ := by simp [textV, h]
    rw [hv]
    have hbad := fun W => rbad2_any 2 W
    rw [show badF 2 = 2 by decide] at hbad
    go_enter Tryz.func101, Tryz.ntmps101
    go_wp2_with (go_at_call 27; (with_reducible refine (hbad _).mono ?_); rintro e w' ⟨rfl, hb⟩; obtain ⟨os, d, rfl⟩ := hb.more; clear hb)
    exact bodyPost_ret (v := VV 4 0 0 ⟨#[]⟩ false 2) (by simp [results, Tryz.results101, go_sem]) rfl ⟨rfl, by with_reducible repeat (first | exact Ext.refl _ | apply Ext.drew | apply Ext.alloc | apply Ext.more_)⟩
  · have hv : textV t = ⟨2, 0, 0, t, false, 0⟩ := by simp [textV, h]
    rw [hv]
    go_enter Tryz.func101, Tryz.ntmps101
    go_wp2_with fail
    exact bodyPost_ret (v := VV 2 0 0 t false 0) (by simp [results, Tryz.results101, go_sem]) rfl ⟨rfl, by with_reducible repeat (first | exact Ext.refl _ | apply Ext.drew | apply Ext.alloc | apply Ext.more_)⟩
theorem i64_zero : I64 0 := by unfold I64; omega
theorem rsign_any (l m : Bool) (w : World) :
    Calls Tryz.prog 39 #[.bool l, .bool m] w fun e w' => e = .returned (.int .i64 (sgn2 l m)) ∧ Ext w w' := by
  cases l <;> cases m
  all_goals
    simp only [sgn2, if_true, Bool.false_eq_true, if_false]
    go_enter Tryz.func39, Tryz.ntmps39
    go_wp2_with fail
    go_ret
    exact ⟨rfl, by with_reducible repeat (first | exact Ext.refl _ | apply Ext.drew | apply Ext.alloc | apply Ext.more_)⟩
set_option maxHeartbeats 1000000 in
theorem rcmp00   (w : World) :
    Calls Tryz.prog 16 #[VV 0 0 0 ⟨#[]⟩ false 0, VV 0 0 0 ⟨#[]⟩ false 0] w fun e w' => e = .returned (.int .i64 (0)) ∧ Ext w w' := by
  have hs := fun W => rsign_any false false W
  rw [show sgn2 false false = 0 from rfl] at hs
  go_enter Tryz.func16, Tryz.ntmps16
  go_wp2_with ((go_at_call 39; (with_reducible refine (hs _).mono ?_); rintro e w' ⟨rfl, hb⟩; obtain ⟨os, d, rfl⟩ := hb.more; clear hb))
  go_ret
  exact ⟨rfl, by with_reducible repeat (first | exact Ext.refl _ | apply Ext.drew | apply Ext.alloc | apply Ext.more_)⟩
set_option maxHeartbeats 1000000 in
theorem rcmp01  (bm be : Int) (hbm : I64 bm) (w : World) :
    Calls Tryz.prog 16 #[VV 0 0 0 ⟨#[]⟩ false 0, VV 1 bm be ⟨#[]⟩ false 0] w fun e w' => e = .returned (.int .i64 (cmpS 0 0 bm be)) ∧ Ext w w' := by
  have hc := fun W => rcmp_any 0 0 bm be W i64_zero hbm
  generalize cmpS 0 0 bm be = z at *
  go_enter Tryz.func16, Tryz.ntmps16
  go_wp2_with ((go_at_call 41; (with_reducible refine (hc _).mono ?_); rintro e w' ⟨rfl, hb⟩; obtain ⟨os, d, rfl⟩ := hb.more; clear hb))
  go_ret
  exact ⟨rfl, by with_reducible repeat (first | exact Ext.refl _ | apply Ext.drew | apply Ext.alloc | apply Ext.more_)⟩
set_option maxHeartbeats 1000000 in
theorem rcmp02  (bt : ByteArray) (hbt : bt.size ≤ 255) (w : World) :
    Calls Tryz.prog 16 #[VV 0 0 0 ⟨#[]⟩ false 0, VV 2 0 0 bt false 0] w fun e w' => e = .returned (.int .i64 (cmpT (⟨#[]⟩) (bt))) ∧ Ext w w' := by
  have h1 := fun W => rfold_any (⟨#[]⟩ : ByteArray) W (Nat.zero_le _)
  have h2 := fun W => rfold_any bt W (by omega)
  unfold cmpT
  generalize foldB (⟨#[]⟩ : ByteArray) = X at *
  generalize foldB bt = Y at *
  have hs := fun W => rsign_any (Op.bytesLess X.toList Y.toList) (!Op.bytesLess X.toList Y.toList && !X.toList == Y.toList) W
  have he : sgn2 (Op.bytesLess X.toList Y.toList) (!Op.bytesLess X.toList Y.toList && !X.toList == Y.toList) = Lib.compareBytes (tl X) (tl Y) := by rw [ByteArray.toList_eq, ByteArray.toList_eq, ← Bool.not_or]; exact sgn2_cb _ _
  rw [he] at hs
  clear he
  generalize Lib.compareBytes (tl X) (tl Y) = z at *
  go_enter Tryz.func16, Tryz.ntmps16
  go_upto_region 10 with fail
  refine wp_plan (S := Ext _) [(0, 0), (1, 0), (3, 0), (4, 0), (2, 1), (5, 1), (6, 0), (7, 0)] [] (by kernel_rfl) (by kernel_rfl) (by kernel_rfl) (fun _ _ d _ _ h => by cases d <;> exact h) (Ext.drew (Ext.refl _)) ?_
  iterate 4 ((refine wpPl_read (v := ?_) rfl ?_ (fun _ h => ?_) ?_; rotate_left 1; rfl; (obtain ⟨_, _, rfl⟩ := h.more; go_simp; try rfl)); try simp only [Act.put, zqA, zqB, zqC])
  (refine wpPl_eff rfl ?_ (fun K hK => ?_); rfl; go_simp; refine (h1 _).mono ?_; rintro e w' ⟨rfl, hb⟩; obtain ⟨os1, d1, rfl⟩ := hb.more; clear hb; refine hK _ _ ?_ ?_; (repeat (first | (with_reducible (first | exact Ext.refl _ | exact ext_d _ _ _ _ | exact ext_app _ _ _ _ _ | exact ext_app2 _ _ _ _ _ _ | exact ext_app3 _ _ _ _ _ _ _ | exact ext_app4 _ _ _ _ _ _ _ _ | exact ext_app5 _ _ _ _ _ _ _ _ _)) | ((with_reducible refine ext_suffix ⟨_, ?_⟩); (try simp only [Array.append_assoc]); rfl) | (with_reducible (first | apply Ext.drew | apply Ext.alloc | apply Ext.more_)) | apply Ext.drew | apply Ext.alloc | apply Ext.more_)))
  try simp only [Act.put, zqA, zqB, zqC]
  (refine wpPl_eff rfl ?_ (fun K hK => ?_); rfl; go_simp; refine (h2 _).mono ?_; rintro e w' ⟨rfl, hb⟩; obtain ⟨os2, d2, rfl⟩ := hb.more; clear hb; refine hK _ _ ?_ ?_; (repeat (first | (with_reducible (first | exact Ext.refl _ | exact ext_d _ _ _ _ | exact ext_app _ _ _ _ _ | exact ext_app2 _ _ _ _ _ _ | exact ext_app3 _ _ _ _ _ _ _ | exact ext_app4 _ _ _ _ _ _ _ _ | exact ext_app5 _ _ _ _ _ _ _ _ _)) | ((with_reducible refine ext_suffix ⟨_, ?_⟩); (try simp only [Array.append_assoc]); rfl) | (with_reducible (first | apply Ext.drew | apply Ext.alloc | apply Ext.more_)) | apply Ext.drew | apply Ext.alloc | apply Ext.more_)))
  try simp only [Act.put, zqA, zqB, zqC]
  iterate 2 ((refine wpPl_read (v := ?_) rfl ?_ (fun _ h => ?_) ?_; rotate_left 1; rfl; (obtain ⟨_, _, rfl⟩ := h.more; go_simp; try rfl)); try simp only [Act.put, zqA, zqB, zqC])
  refine wpPl_nil ?_
  go_wp2_with (go_at_call 39; refine (hs _).mono ?_; rintro e w' ⟨rfl, hb⟩; obtain ⟨os, d, rfl⟩ := hb.more; clear hb)
  go_ret
  exact ⟨rfl, by with_reducible repeat (first | exact Ext.refl _ | apply Ext.drew | apply Ext.alloc | apply Ext.more_)⟩
set_option maxHeartbeats 1000000 in
theorem rcmp03  (bb : Bool) (w : World) :
    Calls Tryz.prog 16 #[VV 0 0 0 ⟨#[]⟩ false 0, VV 3 0 0 ⟨#[]⟩ bb 0] w fun e w' => e = .returned (.int .i64 (sgB false bb)) ∧ Ext w w' := by
  have hs := fun W => rsign_any (!false && bb) (false && !bb) W
  rw [sgn2_bool] at hs
  cases bb
  all_goals
    go_enter Tryz.func16, Tryz.ntmps16
    go_wp2_with ((go_at_call 39; refine (hs _).mono ?_; rintro e w' ⟨rfl, hb⟩; obtain ⟨os, d, rfl⟩ := hb.more; clear hb))
    go_ret
    exact ⟨rfl, by with_reducible repeat (first | exact Ext.refl _ | apply Ext.drew | apply Ext.alloc | apply Ext.more_)⟩
set_option maxHeartbeats 1000000 in
theorem rcmp04  (bf : Int) (w : World) :
    Calls Tryz.prog 16 #[VV 0 0 0 ⟨#[]⟩ false 0, VV 4 0 0 ⟨#[]⟩ false bf] w fun e w' => e = .returned (.int .i64 (-1)) ∧ Ext w w' := by
  have hs := fun l W => rsign_any l true W
  simp only [sgn2] at hs
  go_enter Tryz.func16, Tryz.ntmps16
  go_wp2_with ((go_at_call 39; (with_reducible refine (hs _ _).mono ?_); rintro e w' ⟨rfl, hb⟩; obtain ⟨os, d, rfl⟩ := hb.more; clear hb))
  go_ret
  exact ⟨rfl, by with_reducible repeat (first | exact Ext.refl _ | apply Ext.drew | apply Ext.alloc | apply Ext.more_)⟩
set_option maxHeartbeats 1000000 in
theorem rcmp10 (am ae : Int) (ham : I64 am)  (w : World) :
    Calls Tryz.prog 16 #[VV 1 am ae ⟨#[]⟩ false 0, VV 0 0 0 ⟨#[]⟩ false 0] w fun e w' => e = .returned (.int .i64 (cmpS am ae 0 0)) ∧ Ext w w' := by
  have hc := fun W => rcmp_any am ae 0 0 W ham i64_zero
  generalize cmpS am ae 0 0 = z at *
  go_enter Tryz.func16, Tryz.ntmps16
  go_wp2_with ((go_at_call 41; (with_reducible refine (hc _).mono ?_); rintro e w' ⟨rfl, hb⟩; obtain ⟨os, d, rfl⟩ := hb.more; clear hb))
  go_ret
  exact ⟨rfl, by with_reducible repeat (first | exact Ext.refl _ | apply Ext.drew | apply Ext.alloc | apply Ext.more_)⟩
set_option maxHeartbeats 1000000 in
theorem rcmp11 (am ae : Int) (ham : I64 am) (bm be : Int) (hbm : I64 bm) (w : World) :
    Calls Tryz.prog 16 #[VV 1 am ae ⟨#[]⟩ false 0, VV 1 bm be ⟨#[]⟩ false 0] w fun e w' => e = .returned (.int .i64 (cmpS am ae bm be)) ∧ Ext w w' := by
  have hc := fun W => rcmp_any am ae bm be W ham hbm
  generalize cmpS am ae bm be = z at *
  go_enter Tryz.func16, Tryz.ntmps16
  go_wp2_with ((go_at_call 41; (with_reducible refine (hc _).mono ?_); rintro e w' ⟨rfl, hb⟩; obtain ⟨os, d, rfl⟩ := hb.more; clear hb))
  go_ret
  exact ⟨rfl, by with_reducible repeat (first | exact Ext.refl _ | apply Ext.drew | apply Ext.alloc | apply Ext.more_)⟩
set_option maxHeartbeats 1000000 in
theorem rcmp12 (am ae : Int) (ham : I64 am) (bt : ByteArray) (hbt : bt.size ≤ 255) (w : World) :
    Calls Tryz.prog 16 #[VV 1 am ae ⟨#[]⟩ false 0, VV 2 0 0 bt false 0] w fun e w' => e = .returned (.int .i64 (-1)) ∧ Ext w w' := by
  have hs := fun l W => rsign_any l true W
  simp only [sgn2] at hs
  go_enter Tryz.func16, Tryz.ntmps16
  go_wp2_with ((go_at_call 39; (with_reducible refine (hs _ _).mono ?_); rintro e w' ⟨rfl, hb⟩; obtain ⟨os, d, rfl⟩ := hb.more; clear hb))
  go_ret
  exact ⟨rfl, by with_reducible repeat (first | exact Ext.refl _ | apply Ext.drew | apply Ext.alloc | apply Ext.more_)⟩
set_option maxHeartbeats 1000000 in
theorem rcmp13 (am ae : Int) (ham : I64 am) (bb : Bool) (w : World) :
    Calls Tryz.prog 16 #[VV 1 am ae ⟨#[]⟩ false 0, VV 3 0 0 ⟨#[]⟩ bb 0] w fun e w' => e = .returned (.int .i64 (-1)) ∧ Ext w w' := by
  have hs := fun l W => rsign_any l true W
  simp only [sgn2] at hs
  go_enter Tryz.func16, Tryz.ntmps16
  go_wp2_with ((go_at_call 39; (with_reducible refine (hs _ _).mono ?_); rintro e w' ⟨rfl, hb⟩; obtain ⟨os, d, rfl⟩ := hb.more; clear hb))
  go_ret
  exact ⟨rfl, by with_reducible repeat (first | exact Ext.refl _ | apply Ext.drew | apply Ext.alloc | apply Ext.more_)⟩
set_option maxHeartbeats 1000000 in
theorem rcmp14 (am ae : Int) (ham : I64 am) (bf : Int) (w : World) :
    Calls Tryz.prog 16 #[VV 1 am ae ⟨#[]⟩ false 0, VV 4 0 0 ⟨#[]⟩ false bf] w fun e w' => e = .returned (.int .i64 (-1)) ∧ Ext w w' := by
  have hs := fun l W => rsign_any l true W
  simp only [sgn2] at hs
  go_enter Tryz.func16, Tryz.ntmps16
  go_wp2_with ((go_at_call 39; (with_reducible refine (hs _ _).mono ?_); rintro e w' ⟨rfl, hb⟩; obtain ⟨os, d, rfl⟩ := hb.more; clear hb))
  go_ret
  exact ⟨rfl, by with_reducible repeat (first | exact Ext.refl _ | apply Ext.drew | apply Ext.alloc | apply Ext.more_)⟩
set_option maxHeartbeats 1000000 in
theorem rcmp20 (at_ : ByteArray) (hat : at_.size ≤ 255)  (w : World) :
    Calls Tryz.prog 16 #[VV 2 0 0 at_ false 0, VV 0 0 0 ⟨#[]⟩ false 0] w fun e w' => e = .returned (.int .i64 (cmpT (at_) (⟨#[]⟩))) ∧ Ext w w' := by
  have h1 := fun W => rfold_any at_ W (by omega)
  have h2 := fun W => rfold_any (⟨#[]⟩ : ByteArray) W (Nat.zero_le _)
  unfold cmpT
  generalize foldB at_ = X at *
  generalize foldB (⟨#[]⟩ : ByteArray) = Y at *
  have hs := fun W => rsign_any (Op.bytesLess X.toList Y.toList) (!Op.bytesLess X.toList Y.toList && !X.toList == Y.toList) W
  have he : sgn2 (Op.bytesLess X.toList Y.toList) (!Op.bytesLess X.toList Y.toList && !X.toList == Y.toList) = Lib.compareBytes (tl X) (tl Y) := by rw [ByteArray.toList_eq, ByteArray.toList_eq, ← Bool.not_or]; exact sgn2_cb _ _
  rw [he] at hs
  clear he
  generalize Lib.compareBytes (tl X) (tl Y) = z at *
  go_enter Tryz.func16, Tryz.ntmps16
  go_upto_region 10 with fail
  refine wp_plan (S := Ext _) [(0, 0), (1, 0), (3, 0), (4, 0), (2, 1), (5, 1), (6, 0), (7, 0)] [] (by kernel_rfl) (by kernel_rfl) (by kernel_rfl) (fun _ _ d _ _ h => by cases d <;> exact h) (Ext.drew (Ext.refl _)) ?_
  iterate 4 ((refine wpPl_read (v := ?_) rfl ?_ (fun _ h => ?_) ?_; rotate_left 1; rfl; (obtain ⟨_, _, rfl⟩ := h.more; go_simp; try rfl)); try simp only [Act.put, zqA, zqB, zqC])
  (refine wpPl_eff rfl ?_ (fun K hK => ?_); rfl; go_simp; refine (h1 _).mono ?_; rintro e w' ⟨rfl, hb⟩; obtain ⟨os1, d1, rfl⟩ := hb.more; clear hb; refine hK _ _ ?_ ?_; (repeat (first | (with_reducible (first | exact Ext.refl _ | exact ext_d _ _ _ _ | exact ext_app _ _ _ _ _ | exact ext_app2 _ _ _ _ _ _ | exact ext_app3 _ _ _ _ _ _ _ | exact ext_app4 _ _ _ _ _ _ _ _ | exact ext_app5 _ _ _ _ _ _ _ _ _)) | ((with_reducible refine ext_suffix ⟨_, ?_⟩); (try simp only [Array.append_assoc]); rfl) | (with_reducible (first | apply Ext.drew | apply Ext.alloc | apply Ext.more_)) | apply Ext.drew | apply Ext.alloc | apply Ext.more_)))
  try simp only [Act.put, zqA, zqB, zqC]
  (refine wpPl_eff rfl ?_ (fun K hK => ?_); rfl; go_simp; refine (h2 _).mono ?_; rintro e w' ⟨rfl, hb⟩; obtain ⟨os2, d2, rfl⟩ := hb.more; clear hb; refine hK _ _ ?_ ?_; (repeat (first | (with_reducible (first | exact Ext.refl _ | exact ext_d _ _ _ _ | exact ext_app _ _ _ _ _ | exact ext_app2 _ _ _ _ _ _ | exact ext_app3 _ _ _ _ _ _ _ | exact ext_app4 _ _ _ _ _ _ _ _ | exact ext_app5 _ _ _ _ _ _ _ _ _)) | ((with_reducible refine ext_suffix ⟨_, ?_⟩); (try simp only [Array.append_assoc]); rfl) | (with_reducible (first | apply Ext.drew | apply Ext.alloc | apply Ext.more_)) | apply Ext.drew | apply Ext.alloc | apply Ext.more_)))
  try simp only [Act.put, zqA, zqB, zqC]
  iterate 2 ((refine wpPl_read (v := ?_) rfl ?_ (fun _ h => ?_) ?_; rotate_left 1; rfl; (obtain ⟨_, _, rfl⟩ := h.more; go_simp; try rfl)); try simp only [Act.put, zqA, zqB, zqC])
  refine wpPl_nil ?_
  go_wp2_with (go_at_call 39; refine (hs _).mono ?_; rintro e w' ⟨rfl, hb⟩; obtain ⟨os, d, rfl⟩ := hb.more; clear hb)
  go_ret
  exact ⟨rfl, by with_reducible repeat (first | exact Ext.refl _ | apply Ext.drew | apply Ext.alloc | apply Ext.more_)⟩
set_option maxHeartbeats 1000000 in
theorem rcmp21 (at_ : ByteArray) (hat : at_.size ≤ 255) (bm be : Int) (hbm : I64 bm) (w : World) :
    Calls Tryz.prog 16 #[VV 2 0 0 at_ false 0, VV 1 bm be ⟨#[]⟩ false 0] w fun e w' => e = .returned (.int .i64 (1)) ∧ Ext w w' := by
  have hs := fun l W => rsign_any l true W
  simp only [sgn2] at hs
  go_enter Tryz.func16, Tryz.ntmps16
  go_wp2_with ((go_at_call 39; (with_reducible refine (hs _ _).mono ?_); rintro e w' ⟨rfl, hb⟩; obtain ⟨os, d, rfl⟩ := hb.more; clear hb))
  go_ret
  exact ⟨rfl, by with_reducible repeat (first | exact Ext.refl _ | apply Ext.drew | apply Ext.alloc | apply Ext.more_)⟩
set_option maxHeartbeats 1000000 in
theorem rcmp22 (at_ : ByteArray) (hat : at_.size ≤ 255) (bt : ByteArray) (hbt : bt.size ≤ 255) (w : World) :
    Calls Tryz.prog 16 #[VV 2 0 0 at_ false 0, VV 2 0 0 bt false 0] w fun e w' => e = .returned (.int .i64 (cmpT (at_) (bt))) ∧ Ext w w' := by
  have h1 := fun W => rfold_any at_ W (by omega)
  have h2 := fun W => rfold_any bt W (by omega)
  unfold cmpT
  generalize foldB at_ = X at *
  generalize foldB bt = Y at *
  have hs := fun W => rsign_any (Op.bytesLess X.toList Y.toList) (!Op.bytesLess X.toList Y.toList && !X.toList == Y.toList) W
  have he : sgn2 (Op.bytesLess X.toList Y.toList) (!Op.bytesLess X.toList Y.toList && !X.toList == Y.toList) = Lib.compareBytes (tl X) (tl Y) := by rw [ByteArray.toList_eq, ByteArray.toList_eq, ← Bool.not_or]; exact sgn2_cb _ _
  rw [he] at hs
  clear he
  generalize Lib.compareBytes (tl X) (tl Y) = z at *
  go_enter Tryz.func16, Tryz.ntmps16
  go_upto_region 10 with fail
  refine wp_plan (S := Ext _) [(0, 0), (1, 0), (3, 0), (4, 0), (2, 1), (5, 1), (6, 0), (7, 0)] [] (by kernel_rfl) (by kernel_rfl) (by kernel_rfl) (fun _ _ d _ _ h => by cases d <;> exact h) (Ext.drew (Ext.refl _)) ?_
  iterate 4 ((refine wpPl_read (v := ?_) rfl ?_ (fun _ h => ?_) ?_; rotate_left 1; rfl; (obtain ⟨_, _, rfl⟩ := h.more; go_simp; try rfl)); try simp only [Act.put, zqA, zqB, zqC])
  (refine wpPl_eff rfl ?_ (fun K hK => ?_); rfl; go_simp; refine (h1 _).mono ?_; rintro e w' ⟨rfl, hb⟩; obtain ⟨os1, d1, rfl⟩ := hb.more; clear hb; refine hK _ _ ?_ ?_; (repeat (first | (with_reducible (first | exact Ext.refl _ | exact ext_d _ _ _ _ | exact ext_app _ _ _ _ _ | exact ext_app2 _ _ _ _ _ _ | exact ext_app3 _ _ _ _ _ _ _ | exact ext_app4 _ _ _ _ _ _ _ _ | exact ext_app5 _ _ _ _ _ _ _ _ _)) | ((with_reducible refine ext_suffix ⟨_, ?_⟩); (try simp only [Array.append_assoc]); rfl) | (with_reducible (first | apply Ext.drew | apply Ext.alloc | apply Ext.more_)) | apply Ext.drew | apply Ext.alloc | apply Ext.more_)))
  try simp only [Act.put, zqA, zqB, zqC]
  (refine wpPl_eff rfl ?_ (fun K hK => ?_); rfl; go_simp; refine (h2 _).mono ?_; rintro e w' ⟨rfl, hb⟩; obtain ⟨os2, d2, rfl⟩ := hb.more; clear hb; refine hK _ _ ?_ ?_; (repeat (first | (with_reducible (first | exact Ext.refl _ | exact ext_d _ _ _ _ | exact ext_app _ _ _ _ _ | exact ext_app2 _ _ _ _ _ _ | exact ext_app3 _ _ _ _ _ _ _ | exact ext_app4 _ _ _ _ _ _ _ _ | exact ext_app5 _ _ _ _ _ _ _ _ _)) | ((with_reducible refine ext_suffix ⟨_, ?_⟩); (try simp only [Array.append_assoc]); rfl) | (with_reducible (first | apply Ext.drew | apply Ext.alloc | apply Ext.more_)) | apply Ext.drew | apply Ext.alloc | apply Ext.more_)))
  try simp only [Act.put, zqA, zqB, zqC]
  iterate 2 ((refine wpPl_read (v := ?_) rfl ?_ (fun _ h => ?_) ?_; rotate_left 1; rfl; (obtain ⟨_, _, rfl⟩ := h.more; go_simp; try rfl)); try simp only [Act.put, zqA, zqB, zqC])
  refine wpPl_nil ?_
  go_wp2_with (go_at_call 39; refine (hs _).mono ?_; rintro e w' ⟨rfl, hb⟩; obtain ⟨os, d, rfl⟩ := hb.more; clear hb)
  go_ret
  exact ⟨rfl, by with_reducible repeat (first | exact Ext.refl _ | apply Ext.drew | apply Ext.alloc | apply Ext.more_)⟩
set_option maxHeartbeats 1000000 in
theorem rcmp23 (at_ : ByteArray) (hat : at_.size ≤ 255) (bb : Bool) (w : World) :
    Calls Tryz.prog 16 #[VV 2 0 0 at_ false 0, VV 3 0 0 ⟨#[]⟩ bb 0] w fun e w' => e = .returned (.int .i64 (-1)) ∧ Ext w w' := by
  have hs := fun l W => rsign_any l true W
  simp only [sgn2] at hs
  go_enter Tryz.func16, Tryz.ntmps16
  go_wp2_with ((go_at_call 39; (with_reducible refine (hs _ _).mono ?_); rintro e w' ⟨rfl, hb⟩; obtain ⟨os, d, rfl⟩ := hb.more; clear hb))
  go_ret
  exact ⟨rfl, by with_reducible repeat (first | exact Ext.refl _ | apply Ext.drew | apply Ext.alloc | apply Ext.more_)⟩
set_option maxHeartbeats 1000000 in
theorem rcmp24 (at_ : ByteArray) (hat : at_.size ≤ 255) (bf : Int) (w : World) :
    Calls Tryz.prog 16 #[VV 2 0 0 at_ false 0, VV 4 0 0 ⟨#[]⟩ false bf] w fun e w' => e = .returned (.int .i64 (-1)) ∧ Ext w w' := by
  have hs := fun l W => rsign_any l true W
  simp only [sgn2] at hs
  go_enter Tryz.func16, Tryz.ntmps16
  go_wp2_with ((go_at_call 39; (with_reducible refine (hs _ _).mono ?_); rintro e w' ⟨rfl, hb⟩; obtain ⟨os, d, rfl⟩ := hb.more; clear hb))
  go_ret
  exact ⟨rfl, by with_reducible repeat (first | exact Ext.refl _ | apply Ext.drew | apply Ext.alloc | apply Ext.more_)⟩
set_option maxHeartbeats 1000000 in
theorem rcmp30 (ab : Bool)  (w : World) :
    Calls Tryz.prog 16 #[VV 3 0 0 ⟨#[]⟩ ab 0, VV 0 0 0 ⟨#[]⟩ false 0] w fun e w' => e = .returned (.int .i64 (sgB ab false)) ∧ Ext w w' := by
  have hs := fun W => rsign_any (!ab && false) (ab && !false) W
  rw [sgn2_bool] at hs
  cases ab
  all_goals
    go_enter Tryz.func16, Tryz.ntmps16
    go_wp2_with ((go_at_call 39; refine (hs _).mono ?_; rintro e w' ⟨rfl, hb⟩; obtain ⟨os, d, rfl⟩ := hb.more; clear hb))
    go_ret
    exact ⟨rfl, by with_reducible repeat (first | exact Ext.refl _ | apply Ext.drew | apply Ext.alloc | apply Ext.more_)⟩
set_option maxHeartbeats 1000000 in
theorem rcmp31 (ab : Bool) (bm be : Int) (hbm : I64 bm) (w : World) :
    Calls Tryz.prog 16 #[VV 3 0 0 ⟨#[]⟩ ab 0, VV 1 bm be ⟨#[]⟩ false 0] w fun e w' => e = .returned (.int .i64 (1)) ∧ Ext w w' := by
  have hs := fun l W => rsign_any l true W
  simp only [sgn2] at hs
  go_enter Tryz.func16, Tryz.ntmps16
  go_wp2_with ((go_at_call 39; (with_reducible refine (hs _ _).mono ?_); rintro e w' ⟨rfl, hb⟩; obtain ⟨os, d, rfl⟩ := hb.more; clear hb))
  go_ret
  exact ⟨rfl, by with_reducible repeat (first | exact Ext.refl _ | apply Ext.drew | apply Ext.alloc | apply Ext.more_)⟩
set_option maxHeartbeats 1000000 in
theorem rcmp32 (ab : Bool) (bt : ByteArray) (hbt : bt.size ≤ 255) (w : World) :
    Calls Tryz.prog 16 #[VV 3 0 0 ⟨#[]⟩ ab 0, VV 2 0 0 bt false 0] w fun e w' => e = .returned (.int .i64 (1)) ∧ Ext w w' := by
  have hs := fun l W => rsign_any l true W
  simp only [sgn2] at hs
  go_enter Tryz.func16, Tryz.ntmps16
  go_wp2_with ((go_at_call 39; (with_reducible refine (hs _ _).mono ?_); rintro e w' ⟨rfl, hb⟩; obtain ⟨os, d, rfl⟩ := hb.more; clear hb))
  go_ret
  exact ⟨rfl, by with_reducible repeat (first | exact Ext.refl _ | apply Ext.drew | apply Ext.alloc | apply Ext.more_)⟩
set_option maxHeartbeats 1000000 in
theorem rcmp33 (ab : Bool) (bb : Bool) (w : World) :
    Calls Tryz.prog 16 #[VV 3 0 0 ⟨#[]⟩ ab 0, VV 3 0 0 ⟨#[]⟩ bb 0] w fun e w' => e = .returned (.int .i64 (sgB ab bb)) ∧ Ext w w' := by
  have hs := fun W => rsign_any (!ab && bb) (ab && !bb) W
  rw [sgn2_bool] at hs
  cases ab <;> cases bb
  all_goals
    go_enter Tryz.func16, Tryz.ntmps16
    go_wp2_with ((go_at_call 39; refine (hs _).mono ?_; rintro e w' ⟨rfl, hb⟩; obtain ⟨os, d, rfl⟩ := hb.more; clear hb))
    go_ret
    exact ⟨rfl, by with_reducible repeat (first | exact Ext.refl _ | apply Ext.drew | apply Ext.alloc | apply Ext.more_)⟩
set_option maxHeartbeats 1000000 in
theorem rcmp34 (ab : Bool) (bf : Int) (w : World) :
    Calls Tryz.prog 16 #[VV 3 0 0 ⟨#[]⟩ ab 0, VV 4 0 0 ⟨#[]⟩ false bf] w fun e w' => e = .returned (.int .i64 (-1)) ∧ Ext w w' := by
  have hs := fun l W => rsign_any l true W
  simp only [sgn2] at hs
  go_enter Tryz.func16, Tryz.ntmps16
  go_wp2_with ((go_at_call 39; (with_reducible refine (hs _ _).mono ?_); rintro e w' ⟨rfl, hb⟩; obtain ⟨os, d, rfl⟩ := hb.more; clear hb))
  go_ret
  exact ⟨rfl, by with_reducible repeat (first | exact Ext.refl _ | apply Ext.drew | apply Ext.alloc | apply Ext.more_)⟩
set_option maxHeartbeats 1000000 in
theorem rcmp40 (af : Int)  (w : World) :
    Calls Tryz.prog 16 #[VV 4 0 0 ⟨#[]⟩ false af, VV 0 0 0 ⟨#[]⟩ false 0] w fun e w' => e = .returned (.int .i64 (1)) ∧ Ext w w' := by
  have hs := fun l W => rsign_any l true W
  simp only [sgn2] at hs
  go_enter Tryz.func16, Tryz.ntmps16
  go_wp2_with ((go_at_call 39; (with_reducible refine (hs _ _).mono ?_); rintro e w' ⟨rfl, hb⟩; obtain ⟨os, d, rfl⟩ := hb.more; clear hb))
  go_ret
  exact ⟨rfl, by with_reducible repeat (first | exact Ext.refl _ | apply Ext.drew | apply Ext.alloc | apply Ext.more_)⟩
set_option maxHeartbeats 1000000 in
theorem rcmp41 (af : Int) (bm be : Int) (hbm : I64 bm) (w : World) :
    Calls Tryz.prog 16 #[VV 4 0 0 ⟨#[]⟩ false af, VV 1 bm be ⟨#[]⟩ false 0] w fun e w' => e = .returned (.int .i64 (1)) ∧ Ext w w' := by
  have hs := fun l W => rsign_any l true W
  simp only [sgn2] at hs
  go_enter Tryz.func16, Tryz.ntmps16
  go_wp2_with ((go_at_call 39; (with_reducible refine (hs _ _).mono ?_); rintro e w' ⟨rfl, hb⟩; obtain ⟨os, d, rfl⟩ := hb.more; clear hb))
  go_ret
  exact ⟨rfl, by with_reducible repeat (first | exact Ext.refl _ | apply Ext.drew | apply Ext.alloc | apply Ext.more_)⟩
set_option maxHeartbeats 1000000 in
theorem rcmp42 (af : Int) (bt : ByteArray) (hbt : bt.size ≤ 255) (w : World) :
    Calls Tryz.prog 16 #[VV 4 0 0 ⟨#[]⟩ false af, VV 2 0 0 bt false 0] w fun e w' => e = .returned (.int .i64 (1)) ∧ Ext w w' := by
  have hs := fun l W => rsign_any l true W
  simp only [sgn2] at hs
  go_enter Tryz.func16, Tryz.ntmps16
  go_wp2_with ((go_at_call 39; (with_reducible refine (hs _ _).mono ?_); rintro e w' ⟨rfl, hb⟩; obtain ⟨os, d, rfl⟩ := hb.more; clear hb))
  go_ret
  exact ⟨rfl, by with_reducible repeat (first | exact Ext.refl _ | apply Ext.drew | apply Ext.alloc | apply Ext.more_)⟩
set_option maxHeartbeats 1000000 in
theorem rcmp43 (af : Int) (bb : Bool) (w : World) :
    Calls Tryz.prog 16 #[VV 4 0 0 ⟨#[]⟩ false af, VV 3 0 0 ⟨#[]⟩ bb 0] w fun e w' => e = .returned (.int .i64 (1)) ∧ Ext w w' := by
  have hs := fun l W => rsign_any l true W
  simp only [sgn2] at hs
  go_enter Tryz.func16, Tryz.ntmps16
  go_wp2_with ((go_at_call 39; (with_reducible refine (hs _ _).mono ?_); rintro e w' ⟨rfl, hb⟩; obtain ⟨os, d, rfl⟩ := hb.more; clear hb))
  go_ret
  exact ⟨rfl, by with_reducible repeat (first | exact Ext.refl _ | apply Ext.drew | apply Ext.alloc | apply Ext.more_)⟩
set_option maxHeartbeats 1000000 in
theorem rcmp44 (af : Int) (bf : Int) (w : World) :
    Calls Tryz.prog 16 #[VV 4 0 0 ⟨#[]⟩ false af, VV 4 0 0 ⟨#[]⟩ false bf] w fun e w' => e = .returned (.int .i64 (sgI af bf)) ∧ Ext w w' := by
  have hs := fun W => rsign_any (decide (af < bf)) (decide (bf < af)) W
  rw [sgn2_int] at hs
  generalize sgI af bf = z at *
  go_enter Tryz.func16, Tryz.ntmps16
  go_wp2_with ((go_at_call 39; refine (hs _).mono ?_; rintro e w' ⟨rfl, hb⟩; obtain ⟨os, d, rfl⟩ := hb.more; clear hb))
  go_ret
  exact ⟨rfl, by with_reducible repeat (first | exact Ext.refl _ | apply Ext.drew | apply Ext.alloc | apply Ext.more_)⟩
theorem rcompare_any (a b : Val) (w : World) (ha : a.right) (hb : b.right) :
    Calls Tryz.prog 16 #[VV a.kind a.mant a.exp a.text a.truth a.fault, VV b.kind b.mant b.exp b.text b.truth b.fault] w fun e w' => e = .returned (.int .i64 (cmpV a b)) ∧ Ext w w' := by
  rcases ha.form with rfl | ⟨m, e, rfl, hr⟩ | ⟨t, rfl, ht⟩ | ⟨x, rfl⟩ | ⟨f, rfl, hf⟩
  · rcases hb.form with rfl | ⟨m', e', rfl, hr'⟩ | ⟨t', rfl, ht'⟩ | ⟨x', rfl⟩ | ⟨f', rfl, hf'⟩
    · exact rcmp00   w
    · exact rcmp01  m' e' (Rt_i64 hr').1 w
    · exact rcmp02  t' ht' w
    · exact rcmp03  x' w
    · exact rcmp04  f' w
  · rcases hb.form with rfl | ⟨m', e', rfl, hr'⟩ | ⟨t', rfl, ht'⟩ | ⟨x', rfl⟩ | ⟨f', rfl, hf'⟩
    · exact rcmp10 m e (Rt_i64 hr).1  w
    · exact rcmp11 m e (Rt_i64 hr).1 m' e' (Rt_i64 hr').1 w
    · exact rcmp12 m e (Rt_i64 hr).1 t' ht' w
    · exact rcmp13 m e (Rt_i64 hr).1 x' w
    · exact rcmp14 m e (Rt_i64 hr).1 f' w
  · rcases hb.form with rfl | ⟨m', e', rfl, hr'⟩ | ⟨t', rfl, ht'⟩ | ⟨x', rfl⟩ | ⟨f', rfl, hf'⟩
    · exact rcmp20 t ht  w
    · exact rcmp21 t ht m' e' (Rt_i64 hr').1 w
    · exact rcmp22 t ht t' ht' w
    · exact rcmp23 t ht x' w
    · exact rcmp24 t ht f' w
  · rcases hb.form with rfl | ⟨m', e', rfl, hr'⟩ | ⟨t', rfl, ht'⟩ | ⟨x', rfl⟩ | ⟨f', rfl, hf'⟩
    · exact rcmp30 x  w
    · exact rcmp31 x m' e' (Rt_i64 hr').1 w
    · exact rcmp32 x t' ht' w
    · exact rcmp33 x x' w
    · exact rcmp34 x f' w
  · rcases hb.form with rfl | ⟨m', e', rfl, hr'⟩ | ⟨t', rfl, ht'⟩ | ⟨x', rfl⟩ | ⟨f', rfl, hf'⟩
    · exact rcmp40 f  w
    · exact rcmp41 f m' e' (Rt_i64 hr').1 w
    · exact rcmp42 f t' ht' w
    · exact rcmp43 f x' w
    · exact rcmp44 f f' w
end Go.Proofs.YteigcfflljoioaaGreatDoor
namespace Go.Proofs.YteigcfflljoioaaGreatDoor
open Go.RowKit
/-- A variable that may come up at any time: the operation, its slot, what it makes. -/
abbrev FL := Nat × Nat × Obj
def ptrB (b : Nat) : Value := .pointer (some ⟨b, 0, none⟩)
def putF : List FL → (Nat → Option Nat) → Act → Act
  | [], _, a => a
  | x :: fs, β, a => match β x.1 with
    | none => putF fs β a
    | some b => (putF fs β a).put (some x.2.1) (ptrB b)
def setB (β : Nat → Option Nat) (j b : Nat) : Nat → Option Nat := fun i => if i = j then some b else β i
def np (fs : List FL) (β : Nat → Option Nat) : Nat := fs.countP fun x => (β x.1).isNone
theorem putF_congr {β β' : Nat → Option Nat} {a : Act} : ∀ {fs : List FL}, (∀ x ∈ fs, β x.1 = β' x.1) → putF fs β a = putF fs β' a
  | [], _ => rfl
  | x :: fs, h => by
    unfold putF
    rw [h x (by simp), putF_congr (fs := fs) fun y hy => h y (by simp [hy])]
theorem putF_put {β : Nat → Option Nat} {a : Act} {d : Option Tmp} {v : Value} : ∀ {fs : List FL}, (∀ x ∈ fs, d ≠ some x.2.1) → putF fs β (a.put d v) = (putF fs β a).put d v
  | [], _ => rfl
  | x :: fs, h => by
    unfold putF
    rw [putF_put (fs := fs) fun y hy => h y (by simp [hy])]
    cases β x.1 with
    | none => rfl
    | some b => exact Act.put_comm _ _ _ fun e he hx => h x (by simp) (by rw [he, hx])
theorem putF_set {β : Nat → Option Nat} {a : Act} {x : FL} {b : Nat} : ∀ {fs : List FL}, x ∈ fs → (fs.map (·.1)).Nodup → (fs.map (·.2.1)).Nodup → β x.1 = none → putF fs (setB β x.1 b) a = (putF fs β a).put (some x.2.1) (ptrB b)
  | [], h, _, _, _ => by cases h
  | y :: fs, h, hn, hs, hb => by
    simp only [List.map_cons, List.nodup_cons, List.mem_map, not_exists, not_and] at hn hs
    unfold putF
    by_cases hxy : y.1 = x.1
    · have hyx : y = x := by
        rcases List.mem_cons.1 h with rfl | h'
        · rfl
        · exact absurd hxy.symm (hn.1 x h')
      subst hyx
      have e : putF fs (setB β y.1 b) a = putF fs β a := putF_congr fun z hz => by
        unfold setB; rw [if_neg (fun e => hn.1 z hz e)]
      simp only [setB, if_true, hb] at e ⊢
      rw [e]
    · have hx : x ∈ fs := by
        rcases List.mem_cons.1 h with rfl | h'
        · exact absurd rfl hxy
        · exact h'
      have e : setB β x.1 b y.1 = β y.1 := by unfold setB; rw [if_neg hxy]
      rw [e, putF_set hx hn.2 hs.2 hb]
      cases β y.1 with
      | none => rfl
      | some b' => exact Act.put_comm _ _ _ fun d hd hd' => hs.1 x hx (by simp_all)
theorem np_set {β : Nat → Option Nat} {x : FL} {b : Nat} : ∀ {fs : List FL}, x ∈ fs → (fs.map (·.1)).Nodup → β x.1 = none → np fs (setB β x.1 b) + 1 = np fs β
  | [], h, _, _ => by cases h
  | y :: fs, h, hn, hb => by
    simp only [List.map_cons, List.nodup_cons, List.mem_map, not_exists, not_and] at hn
    unfold np
    rw [List.countP_cons, List.countP_cons]
    by_cases hxy : y.1 = x.1
    · have e : fs.countP (fun z => (setB β x.1 b z.1).isNone) = fs.countP (fun z => (β z.1).isNone) := by
        refine List.countP_congr fun z hz => ?_
        rw [show setB β x.1 b z.1 = β z.1 by unfold setB; rw [if_neg (fun e => hn.1 z hz (e.trans hxy.symm))]]
      rw [e, show setB β x.1 b y.1 = some b by unfold setB; rw [if_pos hxy], show β y.1 = none by rw [hxy]; exact hb]
      simp
    · have hx : x ∈ fs := by
        rcases List.mem_cons.1 h with rfl | h'
        · exact absurd rfl hxy
        · exact h'
      have ih := np_set (b := b) hx hn.2 hb
      unfold np at ih
      rw [show setB β x.1 b y.1 = β y.1 by unfold setB; rw [if_neg hxy]]
      omega
theorem nodup_inj {x y : FL} : ∀ {fs : List FL}, (fs.map (·.1)).Nodup → x ∈ fs → y ∈ fs → x.1 = y.1 → x = y
  | [], _, h, _, _ => by cases h
  | z :: fs, hn, hx, hy, e => by
    simp only [List.map_cons, List.nodup_cons, List.mem_map, not_exists, not_and] at hn
    rcases List.mem_cons.1 hx with rfl | hx'
    · rcases List.mem_cons.1 hy with rfl | hy'
      · rfl
      · exact absurd e.symm (hn.1 y hy')
    · rcases List.mem_cons.1 hy with rfl | hy'
      · exact absurd e (hn.1 x hx')
      · exact nodup_inj hn.2 hx' hy' e
theorem np_zero {β : Nat → Option Nat} {fs : List FL} (h : np fs β = 0) : ∀ x ∈ fs, ∃ b, β x.1 = some b := by
  intro x hx
  have := List.countP_eq_zero.1 h x hx
  cases hb : β x.1 with
  | none => simp [hb] at this
  | some b => exact ⟨b, rfl⟩
theorem np_pos {β : Nat → Option Nat} {fs : List FL} (h : np fs β ≠ 0) : ∃ x ∈ fs, β x.1 = none := by
  obtain ⟨x, hx, hb⟩ := List.countP_pos_iff.1 (Nat.pos_of_ne_zero h)
  exact ⟨x, hx, by simpa using hb⟩
section
variable {P : Program} {ops : Array Oper} {Q : Exit → Act → World → Prop} {tl : List Nat}
theorem wpOp_put1 {j : Nat} {oj : Oper} {d : Tmp} {v : Value} (hj : ops[j]? = some oj) (hsj : ∀ cs b, oj.op ≠ .select cs b) (h1 : d ∉ oj.looksAt ops) (h2 : oj.dst ≠ some d)
    (hQ : ∀ c a w, Q (.panic c) a w → Q (.panic c) (a.put (some d) v) w) {K : Act → World → Prop} {a : Act} {w : World} (h : wpOp P ops Q j K a w) :
    wpOp P ops Q j (fun a' w' => ∃ a'', a' = a''.put (some d) v ∧ K a'' w') (a.put (some d) v) w := by
  have h1' : ∀ e, (some d : Option Tmp) = some e → e ∉ oj.looksAt ops := fun e he => by obtain rfl := Option.some.inj he; exact h1
  have h2' : ∀ e, (some d : Option Tmp) = some e → oj.dst ≠ some e := fun e he => by obtain rfl := Option.some.inj he; exact h2
  unfold wpOp at *
  simp only [hj] at *
  rw [wanted_put oj a (some d) v h1']
  split
  · rename_i hw
    simp only [hw, if_true] at h
    rcases h with h | ⟨hasks, hlets⟩
    case inr => exact .inr ⟨by unfold Oper.asks at *; rw [execOp_put oj hsj a (some d) v h1']; exact hasks, hlets⟩
    refine .inl ?_
    unfold Oper.wp at *
    rw [execOp_put oj hsj a (some d) v h1']
    generalize (execOp a.eval oj).run P w = r at *
    cases r with
    | ok n w' =>
      cases n <;> simp only [Oper.upon] at h ⊢
      case value u => exact ⟨_, Act.put_comm a v u h2', h⟩
      case skip => exact ⟨_, Act.put_comm a v undef h2', h⟩
      case defer f => exact ⟨_, Act.put_comm { a with defers := f :: a.defers } v undef h2', h⟩
      case enter f args =>
        refine Calls.mono h fun e w'' he => ?_
        cases e with
        | returned u => exact ⟨_, Act.put_comm a v u h2', he⟩
        | panicked c => exact hQ _ _ _ he
        | outgrown => exact he
      case row row args => exact Rows.mono h fun u w'' he => ⟨_, Act.put_comm a v u h2', he⟩
    | halt x w' =>
      cases x <;> simp only [Oper.upon] at h ⊢
      case panic u => exact hQ _ _ _ h
  · rename_i hw
    simp only [hw] at h
    exact ⟨_, Act.put_comm a v undef h2', h⟩
theorem wpOp_putF {j : Nat} {oj : Oper} {β : Nat → Option Nat} (hj : ops[j]? = some oj) (hsj : ∀ cs b, oj.op ≠ .select cs b) (hQ : ∀ c a d v w, Q (.panic c) a w → Q (.panic c) (a.put d v) w)
    {K : Act → World → Prop} {a : Act} {w : World} (h : wpOp P ops Q j K a w) : ∀ {fs : List FL}, (∀ x ∈ fs, x.2.1 ∉ oj.looksAt ops ∧ oj.dst ≠ some x.2.1) →
    wpOp P ops Q j (fun a' w' => ∃ a'', a' = putF fs β a'' ∧ K a'' w') (putF fs β a) w
  | [], _ => wpOp_mono (fun a' w' h' => ⟨a', rfl, h'⟩) h
  | x :: fs, hx => by
    have ih := wpOp_putF (β := β) hj hsj hQ h (fs := fs) fun y hy => hx y (by simp [hy])
    unfold putF
    cases β x.1 with
    | none => exact ih
    | some b =>
      refine wpOp_mono ?_ (wpOp_put1 (v := ptrB b) hj hsj (hx x (by simp)).1 (hx x (by simp)).2 (fun c a w => hQ c a _ _ w) ih)
      rintro a' w' ⟨a1, rfl, a2, rfl, hk⟩
      exact ⟨a2, rfl, hk⟩
theorem yields_putF {S : World → Prop} {o : Oper} {v : Value} {a : Act} {β : Nat → Option Nat} (hs : ∀ cs b, o.op ≠ .select cs b) (hy : YieldsIf P ops S o v a) : ∀ {fs : List FL}, (∀ x ∈ fs, x.2.1 ∉ o.looksAt ops) → YieldsIf P ops S o v (putF fs β a)
  | [], _ => hy
  | x :: fs, hx => by
    have ih := yields_putF (β := β) hs hy (fs := fs) fun y hy => hx y (by simp [hy])
    unfold putF
    cases β x.1 with
    | none => exact ih
    | some b =>
      have h1 : ∀ e, (some x.2.1 : Option Tmp) = some e → e ∉ o.looksAt ops := fun e he => by obtain rfl := Option.some.inj he; exact hx x (by simp)
      exact ih.of_same (execOp_put o hs _ _ _ h1) (wanted_put o _ _ _ h1)
/-- As 'wpAnyT'; an operation of 'pu' reads no memory: it may come up behind those of 'tl', too. -/
def wpAnyU (P : Program) (ops : Array Oper) (Q : Exit → Act → World → Prop) (S : World → Prop) (tl pu : List Nat) : Nat → Array Bool → Act → World → Prop
  | 0, listed, a, w => Region.ready .any ops listed = [] ∧ Q .normal a w
  | fuel + 1, listed, a, w =>
    (Region.ready .any ops listed = [] → Q .normal a w) ∧
    ∀ i ∈ Region.ready .any ops listed, wpOp P ops Q i (fun a' w' => (tl.contains i = false → (pu.contains i = true → S w) → S w') ∧ wpAnyU P ops Q S tl pu fuel (listed.setIfInBounds i true) a' w') a w
theorem wpAny_of_U {S : World → Prop} {pu : List Nat} : ∀ (fuel : Nat) (listed : Array Bool) (a : Act) (w : World), wpAnyU P ops Q S tl pu fuel listed a w → wpAny P .any ops Q fuel listed a w
  | 0, _, _, _, h => h
  | fuel + 1, _, _, _, h => ⟨h.1, fun i hi => wpOp_mono (fun a' w' h' => wpAny_of_U fuel _ a' w' h'.2) (h.2 i hi)⟩
/-- k is i, or waits for it by way of others that have not come up. -/
def dep (ops : Array Oper) (listed : Array Bool) (i : Nat) : Nat → Nat → Prop
  | 0, k => k = i
  | n + 1, k => k = i ∨ (listed.getD k false = false ∧ ∃ om, ops[k]? = some om ∧ ∃ e' ∈ om.after, Region.binds .any e' = true ∧ dep ops listed i n e'.on)
theorem dep_top {listed : Array Bool} {i : Nat} : ∀ {n k : Nat}, dep ops listed i n k → k = i ∨ listed.getD k false = false
  | 0, _, h => .inl h
  | _ + 1, _, .inl h => .inl h
  | _ + 1, _, .inr h => .inr h.1
theorem dep_set {listed : Array Bool} {i j : Nat} {oj : Oper} (hoj : ops[j]? = some oj) (hall : ∀ e ∈ oj.after, Region.binds .any e = true → listed.getD e.on false = true) (hnot : ∀ e ∈ oj.after, Region.binds .any e = true → e.on ≠ i) :
    ∀ (n k : Nat), dep ops listed i n k → dep ops (listed.setIfInBounds j true) i n k
  | 0, _, h => h
  | _ + 1, _, .inl h => .inl h
  | n + 1, k, .inr ⟨ho, om, hom, e', he', hb', hd⟩ => by
    refine .inr ⟨?_, om, hom, e', he', hb', dep_set hoj hall hnot n _ hd⟩
    have hje : j ≠ k := fun hje => by
      subst hje
      rw [hoj] at hom
      obtain rfl := Option.some.inj hom
      rcases dep_top hd with h | h
      · exact hnot e' he' hb' h
      · rw [hall e' he' hb'] at h; cases h
    rw [getD_set_ne false hje]; exact ho
/-- Every tail operation that has not come up waits for i, or for others that do. -/
def waits2 (ops : Array Oper) (tl : List Nat) (listed : Array Bool) (i : Nat) : Prop :=
  ∀ j oj, ops[j]? = some oj → tl.contains j = true → listed.getD j true = false → ∃ e ∈ oj.after, Region.binds .any e = true ∧ dep ops listed i 4 e.on
theorem wpAnyU_first {S : World → Prop} {pu : List Nat} {i : Nat} {oi : Oper} {v : Value} (hi : ops[i]? = some oi) (hsel : ∀ (j : Nat) (o : Oper) cs b, ops[j]? = some o → o.op ≠ .select cs b)
    (hQ : ∀ c a w, Q (.panic c) (a.put oi.dst v) w → Q (.panic c) a w) :
    ∀ (fuel : Nat) (listed : Array Bool) (a : Act) (w : World),
      (∀ j oj, ops[j]? = some oj → j ≠ i → listed.getD j true = false → (∀ e ∈ oj.after, Region.binds .any e = true → e.on ≠ i) → oi.apart ops oj = true) →
      waits2 ops tl listed i →
      i ∈ Region.ready .any ops listed → YieldsIf P ops S oi v a → S w →
      wpAnyU P ops Q S tl pu fuel (listed.setIfInBounds i true) (a.put oi.dst v) w → wpAnyU P ops Q S tl pu (fuel + 1) listed a w := by
  intro fuel
  induction fuel with
  | zero =>
    intro listed a w _ _ hr hy hS H
    refine ⟨fun h => (by rw [h] at hr; cases hr), fun j hj => ?_⟩
    by_cases hji : j = i
    · subst hji; exact hy.wpOp hi hS ⟨fun _ _ => hS, H⟩
    · have := ready_mono hj hji
      rw [H.1] at this
      cases this
  | succ fuel ih =>
    intro listed a w hfree hwt hr hy hS H
    refine ⟨fun h => (by rw [h] at hr; cases hr), fun j hj => ?_⟩
    by_cases hji : j = i
    · subst hji; exact hy.wpOp hi hS ⟨fun _ _ => hS, H⟩
    · have h1 := H.2 j (ready_mono hj hji)
      obtain ⟨hjun, oj, hoj, hall⟩ := mem_ready.1 hj
      have hnot : ∀ e ∈ oj.after, Region.binds .any e = true → e.on ≠ i := fun e he hb heq => by
        have h1 := hall e he hb
        have h0 := (mem_ready.1 hr).1
        rw [heq] at h1
        rcases Nat.lt_or_ge i listed.size with h' | h'
        · simp [h'] at h0 h1; rw [h0] at h1; cases h1
        · simp [Array.getElem?_eq_none h'] at h1
      have htj : tl.contains j = false := by
        cases hc : tl.contains j with
        | false => rfl
        | true =>
          obtain ⟨e, he, hb, ho⟩ := hwt j oj hoj hc hjun
          rcases dep_top ho with ho | ho
          · exact absurd ho (hnot e he hb)
          · have := hall e he hb
            rw [ho] at this; cases this
      have h2 := wpOp_putIf hoj (hfree j oj hoj hji hjun hnot) (fun cs b => hsel i oi cs b hi) (fun cs b => hsel j oj cs b hoj) hQ hy h1
      have hfree' : ∀ k ok, ops[k]? = some ok → k ≠ i → (listed.setIfInBounds j true).getD k true = false →
          (∀ e ∈ ok.after, Region.binds .any e = true → e.on ≠ i) → oi.apart ops ok = true := fun k ok hk hki hun hno => by
        refine hfree k ok hk hki ?_ hno
        by_cases hjk : j = k
        · subst hjk; exact hjun
        · rw [getD_set_ne true hjk] at hun; exact hun
      have hwt' : waits2 ops tl (listed.setIfInBounds j true) i := fun k ok hk htk hun => by
        obtain ⟨e, he, hb, ho⟩ := hwt k ok hk htk (by
          by_cases hjk : j = k
          · subst hjk; exact hjun
          · rw [getD_set_ne true hjk] at hun; exact hun)
        exact ⟨e, he, hb, dep_set hoj hall hnot _ _ ho⟩
      refine wpOp_mono (fun a' w' h3 => ⟨h3.2.1, ih (listed.setIfInBounds j true) a' w' hfree' hwt' (ready_mono hr (Ne.symm hji)) h3.1 (h3.2.1 htj fun _ => hS) ?_⟩) h2
      rw [Array.setIfInBounds_comm _ _ hji]
      exact h3.2.2
theorem wpAnyU_pure {S : World → Prop} {pu : List Nat} {i : Nat} {oi : Oper} {v : Value} (hi : ops[i]? = some oi) (hsel : ∀ (j : Nat) (o : Oper) cs b, ops[j]? = some o → o.op ≠ .select cs b)
    (hpi : pu.contains i = true) (hQ : ∀ c a w, Q (.panic c) (a.put oi.dst v) w → Q (.panic c) a w) :
    ∀ (fuel : Nat) (listed : Array Bool) (a : Act) (w : World),
      (∀ j oj, ops[j]? = some oj → j ≠ i → listed.getD j true = false → (∀ e ∈ oj.after, Region.binds .any e = true → e.on ≠ i) → oi.apart ops oj = true) →
      i ∈ Region.ready .any ops listed → YieldsIf P ops (fun _ => True) oi v a →
      wpAnyU P ops Q S tl pu fuel (listed.setIfInBounds i true) (a.put oi.dst v) w → wpAnyU P ops Q S tl pu (fuel + 1) listed a w := by
  intro fuel
  induction fuel with
  | zero =>
    intro listed a w _ hr hy H
    refine ⟨fun h => (by rw [h] at hr; cases hr), fun j hj => ?_⟩
    by_cases hji : j = i
    · subst hji; exact hy.wpOp hi trivial ⟨fun _ h => h hpi, H⟩
    · have := ready_mono hj hji
      rw [H.1] at this
      cases this
  | succ fuel ih =>
    intro listed a w hfree hr hy H
    refine ⟨fun h => (by rw [h] at hr; cases hr), fun j hj => ?_⟩
    by_cases hji : j = i
    · subst hji; exact hy.wpOp hi trivial ⟨fun _ h => h hpi, H⟩
    · have h1 := H.2 j (ready_mono hj hji)
      obtain ⟨hjun, oj, hoj, hall⟩ := mem_ready.1 hj
      have hnot : ∀ e ∈ oj.after, Region.binds .any e = true → e.on ≠ i := fun e he hb heq => by
        have h1 := hall e he hb
        have h0 := (mem_ready.1 hr).1
        rw [heq] at h1
        rcases Nat.lt_or_ge i listed.size with h' | h'
        · simp [h'] at h0 h1; rw [h0] at h1; cases h1
        · simp [Array.getElem?_eq_none h'] at h1
      have h2 := wpOp_putIf hoj (hfree j oj hoj hji hjun hnot) (fun cs b => hsel i oi cs b hi) (fun cs b => hsel j oj cs b hoj) hQ hy h1
      have hfree' : ∀ k ok, ops[k]? = some ok → k ≠ i → (listed.setIfInBounds j true).getD k true = false →
          (∀ e ∈ ok.after, Region.binds .any e = true → e.on ≠ i) → oi.apart ops ok = true := fun k ok hk hki hun hno => by
        refine hfree k ok hk hki ?_ hno
        by_cases hjk : j = k
        · subst hjk; exact hjun
        · rw [getD_set_ne true hjk] at hun; exact hun
      refine wpOp_mono (fun a' w' h3 => ⟨h3.2.1, ih (listed.setIfInBounds j true) a' w' hfree' (ready_mono hr (Ne.symm hji)) h3.1 ?_⟩) h2
      rw [Array.setIfInBounds_comm _ _ hji]
      exact h3.2.2
/-- What ends the region, one behind the other. -/
def wpTl (P : Program) (ops : Array Oper) (Q : Exit → Act → World → Prop) : List Nat → Act → World → Prop
  | [], a, w => Q .normal a w
  | i :: rest, a, w => wpOp P ops Q i (wpTl P ops Q rest) a w
def tailOk (ops : Array Oper) (tl : List Nat) : Array Bool → List Nat → Bool
  | listed, [] => (Region.ready .any ops listed).isEmpty
  | listed, i :: rest => (Region.ready .any ops listed == [i]) && tl.contains i && tailOk ops tl (listed.setIfInBounds i true) rest
theorem wpTl_sound {S : World → Prop} {pu : List Nat} : ∀ (tp : List Nat) (listed : Array Bool) (a : Act) (w : World), tailOk ops tl listed tp = true → wpTl P ops Q tp a w → wpAnyU P ops Q S tl pu tp.length listed a w
  | [], listed, a, w, ho, h => ⟨by simpa [tailOk] using ho, h⟩
  | i :: rest, listed, a, w, ho, h => by
    simp only [tailOk, Bool.and_eq_true, beq_iff_eq] at ho
    obtain ⟨⟨h1, h2⟩, h3⟩ := ho
    refine ⟨fun h0 => (by rw [h1] at h0; cases h0), fun j hj => ?_⟩
    rw [h1] at hj
    obtain rfl : j = i := by simpa using hj
    exact wpOp_mono (fun a' w' h' => ⟨fun ht => (by rw [h2] at ht; cases ht), wpTl_sound rest _ _ _ h3 h'⟩) h
theorem wpTl_op {i : Nat} {o : Oper} {rest : List Nat} {a : Act} {w : World} (hi : ops.toList[i]? = some o) (hw : Region.wanted o (yielded ops a.tmps) = true) (h : ∀ K : Act → World → Prop, (∀ a' w', wpTl P ops Q rest a' w' → K a' w') → o.wp P a w K Q) :
    wpTl P ops Q (i :: rest) a w := by
  have hi' : ops[i]? = some o := by simpa using hi
  show wpOp _ _ _ _ _ _ _
  unfold wpOp
  simp only [hi', hw, if_true]
  exact .inl (h _ fun a' w' hk => hk)
theorem wpTl_nil {a : Act} {w : World} (h : Q .normal a w) : wpTl P ops Q [] a w := h
/-- The walk by a plan, whatever the new variables' turns. -/
def wpFp (P : Program) (ops : Array Oper) (Q : Exit → Act → World → Prop) (W0 : World) (fs : List FL) (tp : List Nat) : List (Nat × Nat) → Act → (World → Prop) → Prop
  | [], a, E => ∀ (β : Nat → Option Nat) (w : World), Ext W0 w → E w → (∀ x ∈ fs, ∃ b, β x.1 = some b ∧ w.heap[b]? = some x.2.2 ∧ W0.heap.size ≤ b) →
      (∀ x ∈ fs, ∀ y ∈ fs, ∀ b, β x.1 = some b → β y.1 = some b → x.1 = y.1) → wpTl P ops Q tp (putF fs β a) w
  | (i, 0) :: rest, a, E => ∃ o v, ops[i]? = some o ∧ YieldsIf P ops (Ext W0) o v a ∧ wpFp P ops Q W0 fs tp rest (a.put o.dst v) E
  | (i, 2) :: rest, a, E => ∃ o v, ops[i]? = some o ∧ YieldsIf P ops (fun _ => True) o v a ∧ wpFp P ops Q W0 fs tp rest (a.put o.dst v) E
  | (i, _) :: rest, a, E => ∀ w, Ext W0 w → E w → wpOp P ops Q i (fun a' w' => Ext w w' ∧ ∃ E' : World → Prop, (∀ w1 w2, Ext w1 w2 → E' w1 → E' w2) ∧ E' w' ∧ wpFp P ops Q W0 fs tp rest a' E') a w
def floatsOk (ops : Array Oper) (fs : List FL) (tl : List Nat) : Bool :=
  fs.all (fun x => match ops[x.1]? with
    | some o => o.guard.isNone && o.dst == some x.2.1 && o.after.all (fun e => !Region.binds .any e) && !tl.contains x.1
    | none => false) &&
  decide (fs.map (·.1)).Nodup && decide (fs.map (·.2.1)).Nodup &&
  (List.range ops.size).all (fun j => (fs.map (·.1)).contains j || match ops[j]? with
    | none => true
    | some oj =>
      if tl.contains j then fs.all (fun x => oj.after.any (fun e => Region.binds .any e && e.on == x.1))
      else oj.after.all (fun e => !Region.binds .any e || !(fs.map (·.1)).contains e.on) &&
        fs.all (fun x => !(oj.looksAt ops).contains x.2.1 && oj.dst != some x.2.1 && (match ops[x.1]? with | some o => oj.apart ops o | none => false)))
def depB (ops : Array Oper) (F : List Nat) (listed : Array Bool) (i : Nat) : Nat → Nat → Bool
  | 0, k => k == i
  | n + 1, k => k == i || (!F.contains k && !listed.getD k false && match ops[k]? with | some om => om.after.any (fun e' => Region.binds .any e' && depB ops F listed i n e'.on) | none => false)
def planF (ops : Array Oper) (F : List Nat) (tl pu : List Nat) : Array Bool → List (Nat × Nat) → Bool
  | listed, [] => (List.range ops.size).all (fun j => listed.getD j true || tl.contains j)
  | listed, (i, 0) :: rest => Region.free .any ops listed i && (Region.ready .any ops listed).contains i && !tl.contains i && !F.contains i &&
      tl.all (fun j => listed.getD j true || match ops[j]? with | some oj => oj.after.any (fun e => Region.binds .any e && depB ops F listed i 4 e.on) | none => true) && planF ops F tl pu (listed.setIfInBounds i true) rest
  | listed, (i, 2) :: rest => Region.free .any ops listed i && (Region.ready .any ops listed).contains i && !tl.contains i && !F.contains i && pu.contains i && planF ops F tl pu (listed.setIfInBounds i true) rest
  | listed, (i, _) :: rest => (Region.ready .any ops listed == [i]) && !tl.contains i && !F.contains i && !pu.contains i && planF ops F tl pu (listed.setIfInBounds i true) rest
def listAll (listed : Array Bool) (pl : List (Nat × Nat)) : Array Bool := pl.foldl (fun l x => l.setIfInBounds x.1 true) listed
/-- How far the floats have come up. -/
structure Rel (fs : List FL) (listed lF : Array Bool) (β : Nat → Option Nat) : Prop where
  size : listed.size = lF.size
  main : ∀ j, j ∉ fs.map (·.1) → listed[j]? = lF[j]?
  done : ∀ x ∈ fs, listed[x.1]? = some (β x.1).isSome ∧ lF[x.1]? = some true
theorem Rel.step {fs : List FL} {listed lF : Array Bool} {β : Nat → Option Nat} (h : Rel fs listed lF β) {i : Nat} (hi : i ∉ fs.map (·.1)) : Rel fs (listed.setIfInBounds i true) (lF.setIfInBounds i true) β := by
  refine ⟨by simp [h.size], fun j hj => ?_, fun x hx => ?_⟩
  · rw [Array.getElem?_setIfInBounds, Array.getElem?_setIfInBounds, h.size, h.main j hj]
  · have hne : i ≠ x.1 := fun e => hi (by rw [e]; exact List.mem_map.2 ⟨x, hx, rfl⟩)
    rw [Array.getElem?_setIfInBounds_ne hne, Array.getElem?_setIfInBounds_ne hne]
    exact h.done x hx
theorem Rel.float {fs : List FL} {listed lF : Array Bool} {β : Nat → Option Nat} (h : Rel fs listed lF β) {x : FL} (hx : x ∈ fs) (b : Nat) : Rel fs (listed.setIfInBounds x.1 true) lF (setB β x.1 b) := by
  refine ⟨by simp [h.size], fun j hj => ?_, fun y hy => ?_⟩
  · rw [Array.getElem?_setIfInBounds_ne (fun e => hj (by rw [← e]; exact List.mem_map.2 ⟨x, hx, rfl⟩))]; exact h.main j hj
  · refine ⟨?_, (h.done y hy).2⟩
    have hl := (h.done y hy).1
    by_cases hxy : x.1 = y.1
    · rw [← hxy, Array.getElem?_setIfInBounds_self]
      have : x.1 < listed.size := by rw [hxy]; exact (Array.getElem?_eq_some_iff.1 hl).1
      simp [this, setB]
    · rw [Array.getElem?_setIfInBounds_ne hxy, hl]
      unfold setB; rw [if_neg (fun e => hxy e.symm)]
theorem getD_of {l : Array Bool} {j : Nat} {b d : Bool} (h : l[j]? = some b) : l.getD j d = b := by simp [h]
theorem getD_same {l l' : Array Bool} {j : Nat} {d : Bool} (h : l[j]? = l'[j]?) : l.getD j d = l'.getD j d := by simp [h]
theorem dep_of {fs : List FL} {listed lF : Array Bool} {β : Nat → Option Nat} (hR : Rel fs listed lF β) {i : Nat} : ∀ (n k : Nat), depB ops (fs.map (·.1)) lF i n k = true → dep ops listed i n k
  | 0, k, h => by show k = i; simpa [depB] using h
  | n + 1, k, h => by
    simp only [depB, Bool.or_eq_true, beq_iff_eq, Bool.and_eq_true, Bool.not_eq_true'] at h
    rcases h with h | ⟨⟨hF, hun⟩, h⟩
    · exact .inl h
    · right
      refine ⟨by rw [getD_same (hR.main k (by simpa using hF))]; exact hun, ?_⟩
      cases hom : ops[k]? with
      | none => rw [hom] at h; cases h
      | some om =>
        rw [hom] at h
        obtain ⟨e', he', hb'⟩ := Array.any_eq_true'.1 h
        simp only [Bool.and_eq_true] at hb'
        exact ⟨om, rfl, e', he', hb'.1, dep_of hR n _ hb'.2⟩
/-- What floatsOk says. -/
structure FOk (ops : Array Oper) (fs : List FL) (tl : List Nat) : Prop where
  fl : ∀ x ∈ fs, ∃ o, ops[x.1]? = some o ∧ o.guard = none ∧ o.dst = some x.2.1 ∧ (∀ e ∈ o.after, Region.binds .any e = false) ∧ tl.contains x.1 = false
  n1 : (fs.map (·.1)).Nodup
  n2 : (fs.map (·.2.1)).Nodup
  tail : ∀ j oj, ops[j]? = some oj → j ∉ fs.map (·.1) → tl.contains j = true → ∀ x ∈ fs, ∃ e ∈ oj.after, Region.binds .any e = true ∧ e.on = x.1
  main : ∀ j oj, ops[j]? = some oj → j ∉ fs.map (·.1) → tl.contains j = false → (∀ e ∈ oj.after, Region.binds .any e = true → e.on ∉ fs.map (·.1)) ∧ ∀ x ∈ fs, x.2.1 ∉ oj.looksAt ops ∧ oj.dst ≠ some x.2.1 ∧ ∀ o, ops[x.1]? = some o → oj.apart ops o = true
theorem FOk.of {fs : List FL} (h : floatsOk ops fs tl = true) : FOk ops fs tl := by
  simp only [floatsOk, Bool.and_eq_true, decide_eq_true_eq, List.all_eq_true] at h
  obtain ⟨⟨⟨h1, h2⟩, h3⟩, h4⟩ := h
  refine ⟨fun x hx => ?_, h2, h3, fun j oj hj hn ht x hx => ?_, fun j oj hj hn ht => ?_⟩
  · have := h1 x hx
    cases ho : ops[x.1]? with
    | none => rw [ho] at this; cases this
    | some o =>
      rw [ho] at this
      simp only [Bool.and_eq_true, Bool.not_eq_true', Option.isNone_iff_eq_none, beq_iff_eq, Array.all_eq_true_iff_forall_mem] at this
      exact ⟨o, rfl, this.1.1.1, this.1.1.2, this.1.2, this.2⟩
  · have := h4 j (List.mem_range.2 (Array.getElem?_eq_some_iff.1 hj).1)
    rw [show (fs.map (·.1)).contains j = false by simpa using hn, hj] at this
    simp only [Bool.false_or, ht, if_true, List.all_eq_true] at this
    obtain ⟨e, he, hb⟩ := Array.any_eq_true'.1 (this x hx)
    simp only [Bool.and_eq_true, beq_iff_eq] at hb
    exact ⟨e, he, hb⟩
  · have := h4 j (List.mem_range.2 (Array.getElem?_eq_some_iff.1 hj).1)
    rw [show (fs.map (·.1)).contains j = false by simpa using hn, hj] at this
    simp only [Bool.false_or, ht, Bool.false_eq_true, if_false, Bool.and_eq_true, List.all_eq_true, Array.all_eq_true_iff_forall_mem] at this
    refine ⟨fun e he hb hin => ?_, fun x hx => ?_⟩
    · have := this.1 e he
      rw [hb] at this
      simp only [Bool.not_true, Bool.false_or, Bool.not_eq_true'] at this
      exact absurd hin (by simpa using this)
    · have := this.2 x hx
      obtain ⟨⟨a1, a2⟩, a3⟩ := this
      refine ⟨by simpa using a1, by simpa using a2, fun o ho => ?_⟩
      rw [ho] at a3
      exact a3
theorem wpFp_sound {W0 : World} {fs : List FL} {tp pu : List Nat} (hok : FOk ops fs tl) (hsel : Region.noSelect ops = true) (hQ : ∀ c a d v w, Q (.panic c) (a.put d v) w → Q (.panic c) a w) (hQ' : ∀ c a d v w, Q (.panic c) a w → Q (.panic c) (a.put d v) w)
    (hob : ∀ x ∈ fs, ∀ o, ops[x.1]? = some o → ∀ (a : Act) (w : World), (execOp a.eval o).run P w = .ok (.value (ptrB w.heap.size)) (w.alloc x.2.2)) :
    ∀ (m : Nat) (pl : List (Nat × Nat)) (listed lF : Array Bool) (β : Nat → Option Nat) (a : Act) (E : World → Prop) (w : World), pl.length + np fs β = m → Rel fs listed lF β →
      planF ops (fs.map (·.1)) tl pu lF pl = true → tailOk ops tl (listAll lF pl) tp = true → Ext W0 w → (∀ w1 w2, Ext w1 w2 → E w1 → E w2) → E w →
      (∀ x ∈ fs, ∀ b, β x.1 = some b → w.heap[b]? = some x.2.2 ∧ W0.heap.size ≤ b) → (∀ x ∈ fs, ∀ y ∈ fs, ∀ b, β x.1 = some b → β y.1 = some b → x.1 = y.1) →
      wpFp P ops Q W0 fs tp pl a E → wpAnyU P ops Q (Ext W0) tl pu (m + tp.length) listed (putF fs β a) w := by
  intro m
  induction m with
  | zero =>
    intro pl listed lF β a E w hm hR hpl htp hX hst hE hbl hinj h
    obtain rfl : pl = [] := List.eq_nil_of_length_eq_zero (by omega)
    have hz : np fs β = 0 := by simpa using hm
    have hdone := np_zero hz
    have hl : listed = lF := by
      apply Array.ext_getElem?
      intro j
      by_cases hj : j ∈ fs.map (·.1)
      · obtain ⟨x, hx, rfl⟩ := List.mem_map.1 hj
        obtain ⟨b, hb⟩ := hdone x hx
        rw [(hR.done x hx).1, (hR.done x hx).2, hb]; rfl
      · exact hR.main j hj
    subst hl
    rw [Nat.zero_add]
    exact wpTl_sound tp _ _ _ htp (h β w hX hE (fun x hx => by obtain ⟨b, hb⟩ := hdone x hx; exact ⟨b, hb, hbl x hx b hb⟩) hinj)
  | succ m ih =>
    intro pl listed lF β a E w hm hR hpl htp hX hst hE hbl hinj h
    have hal : ∀ x ∈ fs, β x.1 = none → wpOp P ops Q x.1 (fun a' w' => (tl.contains x.1 = false → (pu.contains x.1 = true → Ext W0 w) → Ext W0 w') ∧ wpAnyU P ops Q (Ext W0) tl pu (m + tp.length) (listed.setIfInBounds x.1 true) a' w') (putF fs β a) w := by
      intro x hx hb
      obtain ⟨o, ho, hg, hd, _, _⟩ := hok.fl x hx
      unfold wpOp
      simp only [ho]
      rw [if_pos (by simp [Region.wanted, hg])]
      refine .inl ?_
      unfold Oper.wp
      rw [hob x hx o ho]
      have hnp := np_set (b := w.heap.size) hx hok.n1 hb
      have hXa : Ext w (w.alloc x.2.2) := (Ext.refl w).alloc _
      have key := ih pl (listed.setIfInBounds x.1 true) lF (setB β x.1 w.heap.size) a E (w.alloc x.2.2) (by omega) (hR.float hx _) hpl htp (hX.trans hXa) hst (hst _ _ hXa hE) ?_ ?_ h
      · rw [putF_set hx hok.n1 hok.n2 hb] at key
        simp only [Oper.upon, hd]
        exact ⟨fun _ _ => hX.trans hXa, key⟩
      · intro y hy b hyb
        by_cases hxy : y.1 = x.1
        · have hyx : y = x := by
            have := hok.n1
            exact nodup_inj this hy hx hxy
          subst hyx
          simp only [setB, if_true, Option.some.injEq] at hyb
          subst hyb
          exact ⟨heap_alloc_new _ _, hX.size⟩
        · simp only [setB, hxy, if_false] at hyb
          obtain ⟨h1, h2⟩ := hbl y hy b hyb
          have hlt : b < w.heap.size := by
            rcases Nat.lt_or_ge b w.heap.size with hl | hl
            · exact hl
            · rw [Array.getElem?_eq_none hl] at h1; cases h1
          exact ⟨by rw [hXa.block hlt]; exact h1, h2⟩
      · intro y hy z hz b hyb hzb
        have hlt : ∀ u ∈ fs, β u.1 = some b → b < w.heap.size := fun u hu hub => by
          obtain ⟨h1, _⟩ := hbl u hu b hub
          rcases Nat.lt_or_ge b w.heap.size with hl | hl
          · exact hl
          · rw [Array.getElem?_eq_none hl] at h1; cases h1
        unfold setB at hyb hzb
        split at hyb
        · rename_i e1
          split at hzb
          · rename_i e2; rw [e1, e2]
          · have := hlt z hz hzb
            simp only [Option.some.injEq] at hyb
            omega
        · split at hzb
          · have := hlt y hy hyb
            simp only [Option.some.injEq] at hzb
            omega
          · exact hinj y hy z hz b hyb hzb
    have hfr : ∀ x ∈ fs, β x.1 = none → x.1 ∈ Region.ready .any ops listed := by
      intro x hx hb
      obtain ⟨o, ho, _, _, ha, _⟩ := hok.fl x hx
      refine mem_ready.2 ⟨?_, o, ho, fun e he hbi => ?_⟩
      · rw [getD_of (hR.done x hx).1, hb]; rfl
      · rw [ha e he] at hbi; cases hbi
    have hfl : ∀ x ∈ fs, x.1 ∈ Region.ready .any ops listed → β x.1 = none := by
      intro x hx hr
      have h0 := (mem_ready.1 hr).1
      rw [getD_of (hR.done x hx).1] at h0
      cases hb : β x.1 with
      | none => rfl
      | some b => rw [hb] at h0; cases h0
    have hto : ∀ j, j ∉ fs.map (·.1) → j ∈ Region.ready .any ops listed → j ∈ Region.ready .any ops lF := by
      intro j hj hr
      obtain ⟨h0, o, ho, ha⟩ := mem_ready.1 hr
      refine mem_ready.2 ⟨by rw [← getD_same (hR.main j hj)]; exact h0, o, ho, fun e he hb => ?_⟩
      have h1 := ha e he hb
      by_cases hin : e.on ∈ fs.map (·.1)
      · obtain ⟨x, hx, hxe⟩ := List.mem_map.1 hin
        rw [← hxe, getD_of (hR.done x hx).2]
      · rw [← getD_same (hR.main _ hin)]; exact h1
    have hfrom : ∀ j oj, ops[j]? = some oj → j ∉ fs.map (·.1) → tl.contains j = false → j ∈ Region.ready .any ops lF → j ∈ Region.ready .any ops listed := by
      intro j oj hoj hj ht hr
      obtain ⟨h0, o, ho, ha⟩ := mem_ready.1 hr
      obtain rfl : oj = o := by rw [hoj] at ho; exact Option.some.inj ho
      refine mem_ready.2 ⟨by rw [getD_same (hR.main j hj)]; exact h0, oj, hoj, fun e he hb => ?_⟩
      rw [getD_same (hR.main _ ((hok.main j oj hoj hj ht).1 e he hb))]
      exact ha e he hb
    match pl, hm, hpl, htp, h with
    | [], hm, hpl, htp, h =>
      have hnz : np fs β ≠ 0 := by simp at hm; omega
      obtain ⟨x0, hx0, hb0⟩ := np_pos hnz
      rw [show m + 1 + tp.length = (m + tp.length) + 1 by omega]
      refine ⟨fun h0 => (by have := hfr x0 hx0 hb0; rw [h0] at this; cases this), fun j hj => ?_⟩
      by_cases hin : j ∈ fs.map (·.1)
      · obtain ⟨x, hx, rfl⟩ := List.mem_map.1 hin
        exact hal x hx (hfl x hx hj)
      · exfalso
        obtain ⟨h0, oj, hoj, ha⟩ := mem_ready.1 hj
        rw [getD_same (hR.main j hin)] at h0
        simp only [planF, List.all_eq_true] at hpl
        have := hpl j (List.mem_range.2 (Array.getElem?_eq_some_iff.1 hoj).1)
        rw [h0, Bool.false_or] at this
        obtain ⟨e, he, hb, hon⟩ := hok.tail j oj hoj hin this x0 hx0
        have h1 := ha e he hb
        rw [hon, getD_of (hR.done x0 hx0).1, hb0] at h1
        cases h1
    | (i, 0) :: rest, hm, hpl, htp, h =>
      obtain ⟨o, v, hi, hy, h⟩ := h
      simp only [planF, Bool.and_eq_true, Bool.not_eq_true'] at hpl
      obtain ⟨⟨⟨⟨⟨h1, h2⟩, h3⟩, h3'⟩, h4⟩, h5⟩ := hpl
      have hiF : i ∉ fs.map (·.1) := by simpa using h3'
      obtain ⟨hm1, hm2⟩ := hok.main i o hi hiF h3
      have key := ih rest (listed.setIfInBounds i true) (lF.setIfInBounds i true) β (a.put o.dst v) E w (by simp at hm; omega) (hR.step hiF) h5 htp hX hst hE hbl hinj h
      rw [putF_put fun x hx => (hm2 x hx).2.1] at key
      rw [show m + 1 + tp.length = (m + tp.length) + 1 by omega]
      refine wpAnyU_first hi (Region.noSelect_spec hsel) (fun c a w => hQ c a _ _ w) _ _ _ _ ?_ ?_ (hfrom i o hi hiF h3 (by simpa using h2)) (yields_putF (Region.noSelect_spec hsel i o · · hi) hy fun x hx => (hm2 x hx).1) hX key
      · intro j oj hj hji hun hno
        by_cases hin : j ∈ fs.map (·.1)
        · obtain ⟨x, hx, rfl⟩ := List.mem_map.1 hin
          exact (hm2 x hx).2.2 oj hj
        · exact Region.free_spec hi h1 j oj hj hji (by rw [← getD_same (hR.main j hin)]; exact hun) hno
      · intro j oj hj htj hun
        have hjF : j ∉ fs.map (·.1) := fun hin => by
          obtain ⟨x, hx, rfl⟩ := List.mem_map.1 hin
          obtain ⟨_, _, _, _, _, ht⟩ := hok.fl x hx
          rw [ht] at htj; cases htj
        have h6 := List.all_eq_true.1 h4 j (by simpa using htj)
        rw [getD_same (hR.main j hjF)] at hun
        rw [hj] at h6
        simp only [hun, Bool.false_or] at h6
        obtain ⟨e, he, hb⟩ := Array.any_eq_true'.1 h6
        simp only [Bool.and_eq_true] at hb
        exact ⟨e, he, hb.1, dep_of hR _ _ hb.2⟩
    | (i, 2) :: rest, hm, hpl, htp, h =>
      obtain ⟨o, v, hi, hy, h⟩ := h
      simp only [planF, Bool.and_eq_true, Bool.not_eq_true'] at hpl
      obtain ⟨⟨⟨⟨⟨h1, h2⟩, h3⟩, h3'⟩, h4⟩, h5⟩ := hpl
      have hiF : i ∉ fs.map (·.1) := by simpa using h3'
      obtain ⟨hm1, hm2⟩ := hok.main i o hi hiF h3
      have key := ih rest (listed.setIfInBounds i true) (lF.setIfInBounds i true) β (a.put o.dst v) E w (by simp at hm; omega) (hR.step hiF) h5 htp hX hst hE hbl hinj h
      rw [putF_put fun x hx => (hm2 x hx).2.1] at key
      rw [show m + 1 + tp.length = (m + tp.length) + 1 by omega]
      refine wpAnyU_pure hi (Region.noSelect_spec hsel) h4 (fun c a w => hQ c a _ _ w) _ _ _ _ ?_ (hfrom i o hi hiF h3 (by simpa using h2)) (yields_putF (Region.noSelect_spec hsel i o · · hi) hy fun x hx => (hm2 x hx).1) key
      intro j oj hj hji hun hno
      by_cases hin : j ∈ fs.map (·.1)
      · obtain ⟨x, hx, rfl⟩ := List.mem_map.1 hin
        exact (hm2 x hx).2.2 oj hj
      · exact Region.free_spec hi h1 j oj hj hji (by rw [← getD_same (hR.main j hin)]; exact hun) hno
    | (i, 1) :: rest, hm, hpl, htp, h | (i, k + 3) :: rest, hm, hpl, htp, h =>
      simp only [planF, Bool.and_eq_true, Bool.not_eq_true', beq_iff_eq] at hpl
      obtain ⟨⟨⟨⟨h1, h2⟩, h3⟩, h4⟩, h5⟩ := hpl
      have hiF : i ∉ fs.map (·.1) := by simpa using h3
      have hir : i ∈ Region.ready .any ops lF := by rw [h1]; simp
      obtain ⟨_, o, hi, _⟩ := mem_ready.1 hir
      rw [show m + 1 + tp.length = (m + tp.length) + 1 by omega]
      refine ⟨fun h0 => (by have := hfrom i o hi hiF h2 hir; rw [h0] at this; cases this), fun j hj => ?_⟩
      by_cases hin : j ∈ fs.map (·.1)
      · obtain ⟨x, hx, rfl⟩ := List.mem_map.1 hin
        exact hal x hx (hfl x hx hj)
      · have hjr := hto j hin hj
        rw [h1] at hjr
        obtain rfl : j = i := by simpa using hjr
        obtain ⟨_, hm2⟩ := hok.main j o hi hiF h2
        refine wpOp_mono ?_ (wpOp_putF (β := β) hi (Region.noSelect_spec hsel j o · · hi) hQ' (h w hX hE) (fs := fs) fun x hx => ⟨(hm2 x hx).1, (hm2 x hx).2.1⟩)
        rintro a' w' ⟨a'', rfl, hXw, E', hst', hE', hk⟩
        refine ⟨fun _ _ => hX.trans hXw, ih rest (listed.setIfInBounds j true) (lF.setIfInBounds j true) β a'' E' w' (by simp at hm; omega) (hR.step hiF) h5 htp (hX.trans hXw) hst' hE' ?_ hinj hk⟩
        intro y hy b hyb
        obtain ⟨g1, g2⟩ := hbl y hy b hyb
        have hlt : b < w.heap.size := by
          rcases Nat.lt_or_ge b w.heap.size with hl | hl
          · exact hl
          · rw [Array.getElem?_eq_none hl] at g1; cases g1
        exact ⟨by rw [hXw.block hlt]; exact g1, g2⟩
/-- **The region, by a plan, with new variables at any time.** -/
theorem wp_float {id : Nat} {a : Act} {w : World} (fs : List FL) (pl : List (Nat × Nat)) (tp tl pu : List Nat) (hm : P.follows .mixedOrders = true) (hsel : Region.noSelect ops = true)
    (hok : (floatsOk ops fs tl && planF ops (fs.map (·.1)) tl pu (fs.foldl (fun l x => l.setIfInBounds x.1 true) (Array.replicate ops.size false)) pl && tailOk ops tl (listAll (fs.foldl (fun l x => l.setIfInBounds x.1 true) (Array.replicate ops.size false)) pl) tp && pl.length + fs.length + tp.length == ops.size) = true)
    (hQ : ∀ c a d v w, Q (.panic c) (a.put d v) w → Q (.panic c) a w) (hQ' : ∀ c a d v w, Q (.panic c) a w → Q (.panic c) (a.put d v) w)
    (hob : ∀ x ∈ fs, ∀ o, ops[x.1]? = some o → ∀ (a : Act) (w : World), (execOp a.eval o).run P w = .ok (.value (ptrB w.heap.size)) (w.alloc x.2.2))
    (h : wpFp P ops Q w.drew fs tp pl a (fun _ => True)) : (Code.region id ops true).wp P Q a w := by
  simp only [Bool.and_eq_true, beq_iff_eq] at hok
  obtain ⟨⟨⟨h1, h2⟩, h3⟩, h4⟩ := hok
  have hF := FOk.of h1
  refine wp_region_any hm (wpAny_of_U (S := Ext w.drew) (tl := tl) (pu := pu) _ _ _ _ ?_)
  have hnone : ∀ (fs' : List FL), np fs' (fun _ => none) = fs'.length := fun fs' => by
    unfold np; rw [List.countP_eq_length.2]; intro x hx; rfl
  have hput : ∀ (fs' : List FL) (a : Act), putF fs' (fun _ => none) a = a := fun fs' a => by
    induction fs' with
    | nil => rfl
    | cons x fs' ih => unfold putF; exact ih
  have hlF : ∀ (fs' : List FL) (l : Array Bool), l.size = ops.size → (∀ x ∈ fs', x.1 < ops.size) → (fs'.foldl (fun l x => l.setIfInBounds x.1 true) l).size = ops.size ∧ (∀ j : Nat, j ∉ fs'.map (·.1) → (fs'.foldl (fun l x => l.setIfInBounds x.1 true) l)[j]? = l[j]?) ∧
      (∀ x ∈ fs', (fs'.foldl (fun l x => l.setIfInBounds x.1 true) l)[x.1]? = some true) ∧ (∀ j : Nat, l[j]? = some true → (fs'.foldl (fun l x => l.setIfInBounds x.1 true) l)[j]? = some true) := by
    intro fs'
    induction fs' with
    | nil => intro l hl _; exact ⟨hl, fun _ _ => rfl, fun x hx => (by cases hx), fun _ h => h⟩
    | cons y fs' ih =>
      intro l hl hlt
      obtain ⟨i1, i2, i3, i4⟩ := ih (l.setIfInBounds y.1 true) (by simp [hl]) (fun x hx => hlt x (by simp [hx]))
      have hy : (l.setIfInBounds y.1 true)[y.1]? = some true := by
        have := hlt y (by simp)
        simp [hl, this]
      refine ⟨i1, fun j hj => ?_, fun x hx => ?_, fun j hj => ?_⟩
      · simp only [List.map_cons, List.mem_cons, not_or] at hj
        rw [List.foldl_cons, i2 j hj.2, Array.getElem?_setIfInBounds_ne (fun e => hj.1 e.symm)]
      · rcases List.mem_cons.1 hx with rfl | hx'
        · exact i4 _ hy
        · exact i3 x hx'
      · refine i4 j ?_
        by_cases e : y.1 = j
        · rw [← e]; exact hy
        · rw [Array.getElem?_setIfInBounds_ne e]; exact hj
  obtain ⟨l1, l2, l3, _⟩ := hlF fs (Array.replicate ops.size false) (by simp) (fun x hx => by
    obtain ⟨o, ho, _⟩ := hF.fl x hx
    exact (Array.getElem?_eq_some_iff.1 ho).1)
  have key := wpFp_sound (P := P) (Q := Q) (W0 := w.drew) (tp := tp) (pu := pu) hF hsel hQ hQ' hob (pl.length + fs.length) pl (Array.replicate ops.size false) _ (fun _ => none) a (fun _ => True) w.drew (by rw [hnone]) ⟨by rw [l1]; simp, fun j hj => (l2 j hj).symm, fun x hx => ⟨?_, l3 x hx⟩⟩ h2 h3 (Ext.refl _) (fun _ _ _ _ => trivial) trivial (fun x _ b hb => by cases hb) (fun x _ y _ b hb => by cases hb) h
  · rw [hput, h4] at key
    exact key
  · obtain ⟨o, ho, _⟩ := hF.fl x hx
    have := (Array.getElem?_eq_some_iff.1 ho).1
    simp [this]
variable {W0 : World} {fs : List FL} {tp : List Nat} {a : Act} {E : World → Prop} {i : Nat} {rest : List (Nat × Nat)} {o : Oper}
theorem wpFp_read {v : Value} (hi : ops.toList[i]? = some o) (hw : Region.wanted o (yielded ops a.tmps) = true) (h : ∀ w, Ext W0 w → (execOp a.eval o).run P w = .ok (.value v) w) (k : wpFp P ops Q W0 fs tp rest (a.put o.dst v) E) :
    wpFp P ops Q W0 fs tp ((i, 0) :: rest) a E := ⟨o, v, by simpa using hi, .inl ⟨hw, h⟩, k⟩
theorem wpFp_eff (hi : ops.toList[i]? = some o) (hw : Region.wanted o (yielded ops a.tmps) = true)
    (h : ∀ w, Ext W0 w → E w → ∀ K : Act → World → Prop, (∀ a' w' (E' : World → Prop), Ext w w' → (∀ w1 w2, Ext w1 w2 → E' w1 → E' w2) → E' w' → wpFp P ops Q W0 fs tp rest a' E' → K a' w') → o.wp P a w K Q) :
    wpFp P ops Q W0 fs tp ((i, 1) :: rest) a E := by
  have hi' : ops[i]? = some o := by simpa using hi
  intro w hX hE
  unfold wpOp
  simp only [hi', hw, if_true]
  exact .inl (h w hX hE _ fun a' w' E' h1 h2 h3 h4 => ⟨h1, E', h2, h3, h4⟩)
/-- No new variable. -/
theorem wpFp_zero (h : ∀ os d, E (more W0 os d) → wpTl P ops Q tp a (more W0 os d)) : wpFp P ops Q W0 [] tp [] a E := by
  intro β w hX hE hb _
  obtain ⟨os, d, rfl⟩ := hX.more
  exact h os d hE
end
end Go.Proofs.YteigcfflljoioaaGreatDoor
namespace Go.Proofs.YteigcfflljoioaaGreatDoor
open Go.RowKit NM
theorem z64 : I64 0 := by unfold I64; omega
set_option maxHeartbeats 800000 in
theorem beside_any (k m ex f k' m' ex' f' : Int) (t t' : ByteArray) (b b' : Bool) (w : World) (y : Val) (hy : besideV ⟨k, m, ex, t, b, f⟩ ⟨k', m', ex', t', b', f'⟩ = y) :
    Calls Tryz.prog 167 #[VV k m ex t b f, VV k' m' ex' t' b' f'] w fun e w' => e = .returned (VV y.kind y.mant y.exp y.text y.truth y.fault) ∧ Ext w w' := by
  by_cases h0 : k = 0
  · have q0 : (k != 0) = false := by simp [h0]
    by_cases h1 : k' = 1 ∨ k' = 2 ∨ k' = 3
    · have e : y = Val.only k' := by rw [← hy]; simp [besideV, h0, h1]
      subst e
      clear hy
      rcases h1 with rfl | rfl | rfl
      · go_enter Tryz.func167, Tryz.ntmps167
        go_wp2_with fail
        exact bodyPost_ret (v := VV 1 0 0 ⟨#[]⟩ false 0) (by simp [results, Tryz.results167, go_sem]) rfl ⟨rfl, by with_reducible repeat (first | exact Ext.refl _ | apply Ext.drew | apply Ext.alloc | apply Ext.more_)⟩
      · go_enter Tryz.func167, Tryz.ntmps167
        go_wp2_with fail
        exact bodyPost_ret (v := VV 2 0 0 ⟨#[]⟩ false 0) (by simp [results, Tryz.results167, go_sem]) rfl ⟨rfl, by with_reducible repeat (first | exact Ext.refl _ | apply Ext.drew | apply Ext.alloc | apply Ext.more_)⟩
      · go_enter Tryz.func167, Tryz.ntmps167
        go_wp2_with fail
        exact bodyPost_ret (v := VV 3 0 0 ⟨#[]⟩ false 0) (by simp [results, Tryz.results167, go_sem]) rfl ⟨rfl, by with_reducible repeat (first | exact Ext.refl _ | apply Ext.drew | apply Ext.alloc | apply Ext.more_)⟩
    · have e : y = ⟨k, m, ex, t, b, f⟩ := by rw [← hy]; simp [besideV, h0, h1]
      subst e
      have q1 : (k' == 1) = false := by simp; omega
      have q2 : (k' == 2) = false := by simp; omega
      have q3 : (k' == 3) = false := by simp; omega
      subst h0
      clear hy h1
      go_enter Tryz.func167, Tryz.ntmps167
      go_wp2_with fail
      exact bodyPost_ret (v := VV 0 m ex t b f) (by simp [results, Tryz.results167, go_sem]) rfl ⟨rfl, by with_reducible repeat (first | exact Ext.refl _ | apply Ext.drew | apply Ext.alloc | apply Ext.more_)⟩
  · have e : y = ⟨k, m, ex, t, b, f⟩ := by rw [← hy]; simp [besideV, h0]
    subst e
    have q0 : (k != 0) = true := by simp [h0]
    clear hy
    go_enter Tryz.func167, Tryz.ntmps167
    go_wp2_with fail
    exact bodyPost_ret (v := VV k m ex t b f) (by simp [results, Tryz.results167, go_sem]) rfl ⟨rfl, by with_reducible repeat (first | exact Ext.refl _ | apply Ext.drew | apply Ext.alloc | apply Ext.more_)⟩
theorem truthOrder_any (a b : Bool) (w : World) :
    Calls Tryz.prog 170 #[.bool a, .bool b] w fun e w' => e = .returned (.int .i64 (sgB a b)) ∧ Ext w w' := by
  cases a <;> cases b
  all_goals
    go_enter Tryz.func170, Tryz.ntmps170
    go_wp2_with fail
    go_ret
    exact ⟨rfl, Ext.refl _⟩
theorem compare_any (a b : ByteArray) (w : World) :
    Calls Tryz.prog 169 #[.string a, .string b] w fun e w' => e = .returned (.int .i64 (Lib.compareBytes (tl a) (tl b))) ∧ Ext w w' :=
  (Tryz.strings_Compare a b w).mono fun e w' ⟨h1, h2⟩ => ⟨h1, by rw [h2]; exact Ext.refl _⟩
set_option maxHeartbeats 1000000 in
theorem vcmp_any (a b : Val) (w : World) (ha : a.ok) (hb : b.ok) :
    Calls Tryz.prog 143 #[VV a.kind a.mant a.exp a.text a.truth a.fault, VV b.kind b.mant b.exp b.text b.truth b.fault] w fun e w' => e = .returned (.int .i64 (cmpV a b)) ∧ Ext w w' := by
  have hA : (besideV a b).ok := by
    unfold besideV
    split
    · exact ha
    · split
      · exact ⟨hb.1, z64, z64, Nat.zero_le _, z64⟩
      · exact ha
  have hB : (besideV b a).ok := by
    unfold besideV
    split
    · exact hb
    · split
      · exact ⟨ha.1, z64, z64, Nat.zero_le _, z64⟩
      · exact hb
  have h1 := fun W => beside_any a.kind a.mant a.exp a.fault b.kind b.mant b.exp b.fault a.text b.text a.truth b.truth W (besideV a b) rfl
  have h2 := fun W => beside_any b.kind b.mant b.exp b.fault a.kind a.mant a.exp a.fault b.text a.text b.truth a.truth W (besideV b a) rfl
  unfold cmpV
  generalize besideV a b = A at *
  generalize besideV b a = B at *
  obtain ⟨k, m, ex, t, u, f⟩ := A
  obtain ⟨k', m', ex', t', u', f'⟩ := B
  obtain ⟨_, hm, _, ht, _⟩ := hA
  obtain ⟨_, hm', _, ht', _⟩ := hB
  simp only at h1 h2 hm ht hm' ht'
  unfold cmpK
  simp only
  clear ha hb
  by_cases hk : k = k'
  · subst hk
    rw [if_neg (show ¬ (k ≠ k) from fun h => h rfl)]
    have q0 : (k != k) = false := by simp
    by_cases k1 : k = 1
    · rw [if_pos k1]
      subst k1
      go_enter Tryz.func143, Tryz.ntmps143
      go_upto_region 1 with fail
      refine wp_float [] [(0, 0), (1, 0), (3, 0), (4, 0), (2, 1), (5, 1)] [6, 7] [6, 7] [] (by kernel_rfl) (by kernel_rfl) (by kernel_rfl) (fun _ _ d _ _ h => by cases d <;> exact h) (fun _ _ d _ _ h => by cases d <;> exact h) (fun x hx => by cases hx) ?_
      iterate 4 ((refine wpFp_read (v := ?_) rfl ?_ (fun w1 h1 => ?_) ?_; rotate_left 1; rfl; (obtain ⟨os1, d1, rfl⟩ := h1.more; go_simp; first | done | rfl)); try simp only [Act.put, zqA, zqB, zqC])
      (refine wpFp_eff rfl ?_ (fun wf hXf hE K hK => ?_); rfl; obtain ⟨osf, df, rfl⟩ := hXf.more; go_simp; refine (h1 _).mono ?_; rintro e w' ⟨rfl, hb⟩; refine hK _ _ (fun _ => True) (by (try simp only [more_drew, more_more]); exact hb) (fun _ _ _ _ => trivial) trivial ?_)
      try simp only [Act.put, zqA, zqB, zqC]
      (refine wpFp_eff rfl ?_ (fun wf hXf hE K hK => ?_); rfl; obtain ⟨osf, df, rfl⟩ := hXf.more; go_simp; refine (h2 _).mono ?_; rintro e w' ⟨rfl, hb⟩; refine hK _ _ (fun _ => True) (by (try simp only [more_drew, more_more]); exact hb) (fun _ _ _ _ => trivial) trivial ?_)
      try simp only [Act.put, zqA, zqB, zqC]
      refine wpFp_zero fun osa da hE => ?_
      try simp only [Act.put, zqA, zqB, zqC]
      iterate 2 ((refine wpTl_op rfl ?_ (fun K hK => ?_); rfl; go_simp; refine hK _ _ ?_); try simp only [Act.put, zqA, zqB, zqC])
      refine wpTl_nil ?_
      go_wp2_with (go_at_call 168; refine (cmp_any _ _ _ _ _ (by assumption) (by assumption)).mono ?_; rintro e w' ⟨rfl, hb⟩; obtain ⟨os5, d5, rfl⟩ := hb.more; clear hb)
      go_ret
      exact ⟨rfl, by with_reducible repeat (first | exact Ext.refl _ | apply Ext.drew | apply Ext.alloc | apply Ext.more_)⟩
    · rw [if_neg k1]
      by_cases k2 : k = 2
      · rw [if_pos k2]
        subst k2
        go_enter Tryz.func143, Tryz.ntmps143
        go_upto_region 1 with fail
        refine wp_float [] [(0, 0), (1, 0), (3, 0), (4, 0), (2, 1), (5, 1)] [6, 7] [6, 7] [] (by kernel_rfl) (by kernel_rfl) (by kernel_rfl) (fun _ _ d _ _ h => by cases d <;> exact h) (fun _ _ d _ _ h => by cases d <;> exact h) (fun x hx => by cases hx) ?_
        iterate 4 ((refine wpFp_read (v := ?_) rfl ?_ (fun w1 h1 => ?_) ?_; rotate_left 1; rfl; (obtain ⟨os1, d1, rfl⟩ := h1.more; go_simp; first | done | rfl)); try simp only [Act.put, zqA, zqB, zqC])
        (refine wpFp_eff rfl ?_ (fun wf hXf hE K hK => ?_); rfl; obtain ⟨osf, df, rfl⟩ := hXf.more; go_simp; refine (h1 _).mono ?_; rintro e w' ⟨rfl, hb⟩; refine hK _ _ (fun _ => True) (by (try simp only [more_drew, more_more]); exact hb) (fun _ _ _ _ => trivial) trivial ?_)
        try simp only [Act.put, zqA, zqB, zqC]
        (refine wpFp_eff rfl ?_ (fun wf hXf hE K hK => ?_); rfl; obtain ⟨osf, df, rfl⟩ := hXf.more; go_simp; refine (h2 _).mono ?_; rintro e w' ⟨rfl, hb⟩; refine hK _ _ (fun _ => True) (by (try simp only [more_drew, more_more]); exact hb) (fun _ _ _ _ => trivial) trivial ?_)
        try simp only [Act.put, zqA, zqB, zqC]
        refine wpFp_zero fun osa da hE => ?_
        try simp only [Act.put, zqA, zqB, zqC]
        iterate 2 ((refine wpTl_op rfl ?_ (fun K hK => ?_); rfl; go_simp; refine hK _ _ ?_); try simp only [Act.put, zqA, zqB, zqC])
        refine wpTl_nil ?_
        go_upto_region 10 with fail
        refine wp_plan (S := Ext _) [(0, 0), (1, 0), (3, 0), (4, 0), (2, 1), (5, 1), (6, 1), (7, 0)] [] (by kernel_rfl) (by kernel_rfl) (by kernel_rfl) (fun _ _ d _ _ h => by cases d <;> exact h) (Ext.drew (Ext.refl _)) ?_
        iterate 4 ((refine wpPl_read (v := ?_) rfl ?_ (fun _ h => ?_) ?_; rotate_left 1; rfl; (obtain ⟨_, _, rfl⟩ := h.more; go_simp; try rfl)); try simp only [Act.put, zqA, zqB, zqC])
        (refine wpPl_eff rfl ?_ (fun K hK => ?_); rfl; go_simp; refine (fold_any _ _ (by assumption)).mono ?_; rintro e w' ⟨rfl, hb⟩; obtain ⟨os5, d5, rfl⟩ := hb.more; clear hb; refine hK _ _ ?_ ?_; (repeat (first | (with_reducible (first | exact Ext.refl _ | exact ext_d _ _ _ _ | exact ext_app _ _ _ _ _ | exact ext_app2 _ _ _ _ _ _ | exact ext_app3 _ _ _ _ _ _ _ | exact ext_app4 _ _ _ _ _ _ _ _ | exact ext_app5 _ _ _ _ _ _ _ _ _)) | ((with_reducible refine ext_suffix ⟨_, ?_⟩); (try simp only [Array.append_assoc]); rfl) | (with_reducible (first | apply Ext.drew | apply Ext.alloc | apply Ext.more_)) | apply Ext.drew | apply Ext.alloc | apply Ext.more_)))
        try simp only [Act.put, zqA, zqB, zqC]
        (refine wpPl_eff rfl ?_ (fun K hK => ?_); rfl; go_simp; refine (fold_any _ _ (by assumption)).mono ?_; rintro e w' ⟨rfl, hb⟩; obtain ⟨os6, d6, rfl⟩ := hb.more; clear hb; refine hK _ _ ?_ ?_; (repeat (first | (with_reducible (first | exact Ext.refl _ | exact ext_d _ _ _ _ | exact ext_app _ _ _ _ _ | exact ext_app2 _ _ _ _ _ _ | exact ext_app3 _ _ _ _ _ _ _ | exact ext_app4 _ _ _ _ _ _ _ _ | exact ext_app5 _ _ _ _ _ _ _ _ _)) | ((with_reducible refine ext_suffix ⟨_, ?_⟩); (try simp only [Array.append_assoc]); rfl) | (with_reducible (first | apply Ext.drew | apply Ext.alloc | apply Ext.more_)) | apply Ext.drew | apply Ext.alloc | apply Ext.more_)))
        try simp only [Act.put, zqA, zqB, zqC]
        (refine wpPl_eff rfl ?_ (fun K hK => ?_); rfl; go_simp; refine (compare_any _ _ _).mono ?_; rintro e w' ⟨rfl, hb⟩; obtain ⟨os7, d7, rfl⟩ := hb.more; clear hb; refine hK _ _ ?_ ?_; (repeat (first | (with_reducible (first | exact Ext.refl _ | exact ext_d _ _ _ _ | exact ext_app _ _ _ _ _ | exact ext_app2 _ _ _ _ _ _ | exact ext_app3 _ _ _ _ _ _ _ | exact ext_app4 _ _ _ _ _ _ _ _ | exact ext_app5 _ _ _ _ _ _ _ _ _)) | ((with_reducible refine ext_suffix ⟨_, ?_⟩); (try simp only [Array.append_assoc]); rfl) | (with_reducible (first | apply Ext.drew | apply Ext.alloc | apply Ext.more_)) | apply Ext.drew | apply Ext.alloc | apply Ext.more_)))
        try simp only [Act.put, zqA, zqB, zqC]
        (refine wpPl_read (v := ?_) rfl ?_ (fun _ h => ?_) ?_; rotate_left 1; rfl; (obtain ⟨_, _, rfl⟩ := h.more; go_simp; try rfl))
        try simp only [Act.put, zqA, zqB, zqC]
        refine wpPl_nil ?_
        go_wp2_with fail
        go_ret
        exact ⟨rfl, by with_reducible repeat (first | exact Ext.refl _ | apply Ext.drew | apply Ext.alloc | apply Ext.more_)⟩
      · rw [if_neg k2]
        by_cases k3 : k = 3
        · rw [if_pos k3]
          subst k3
          go_enter Tryz.func143, Tryz.ntmps143
          go_upto_region 1 with fail
          refine wp_float [] [(0, 0), (1, 0), (3, 0), (4, 0), (2, 1), (5, 1)] [6, 7] [6, 7] [] (by kernel_rfl) (by kernel_rfl) (by kernel_rfl) (fun _ _ d _ _ h => by cases d <;> exact h) (fun _ _ d _ _ h => by cases d <;> exact h) (fun x hx => by cases hx) ?_
          iterate 4 ((refine wpFp_read (v := ?_) rfl ?_ (fun w1 h1 => ?_) ?_; rotate_left 1; rfl; (obtain ⟨os1, d1, rfl⟩ := h1.more; go_simp; first | done | rfl)); try simp only [Act.put, zqA, zqB, zqC])
          (refine wpFp_eff rfl ?_ (fun wf hXf hE K hK => ?_); rfl; obtain ⟨osf, df, rfl⟩ := hXf.more; go_simp; refine (h1 _).mono ?_; rintro e w' ⟨rfl, hb⟩; refine hK _ _ (fun _ => True) (by (try simp only [more_drew, more_more]); exact hb) (fun _ _ _ _ => trivial) trivial ?_)
          try simp only [Act.put, zqA, zqB, zqC]
          (refine wpFp_eff rfl ?_ (fun wf hXf hE K hK => ?_); rfl; obtain ⟨osf, df, rfl⟩ := hXf.more; go_simp; refine (h2 _).mono ?_; rintro e w' ⟨rfl, hb⟩; refine hK _ _ (fun _ => True) (by (try simp only [more_drew, more_more]); exact hb) (fun _ _ _ _ => trivial) trivial ?_)
          try simp only [Act.put, zqA, zqB, zqC]
          refine wpFp_zero fun osa da hE => ?_
          try simp only [Act.put, zqA, zqB, zqC]
          iterate 2 ((refine wpTl_op rfl ?_ (fun K hK => ?_); rfl; go_simp; refine hK _ _ ?_); try simp only [Act.put, zqA, zqB, zqC])
          refine wpTl_nil ?_
          go_wp2_with (go_at_call 170; refine (truthOrder_any _ _ _).mono ?_; rintro e w' ⟨rfl, hb⟩; obtain ⟨os5, d5, rfl⟩ := hb.more; clear hb)
          go_ret
          exact ⟨rfl, by with_reducible repeat (first | exact Ext.refl _ | apply Ext.drew | apply Ext.alloc | apply Ext.more_)⟩
        · rw [if_neg k3]
          by_cases k4 : k = 4
          · rw [if_pos k4]
            subst k4
            unfold sgI
            by_cases hl : f < f'
            · rw [if_pos hl]
              go_enter Tryz.func143, Tryz.ntmps143
              go_upto_region 1 with fail
              refine wp_float [] [(0, 0), (1, 0), (3, 0), (4, 0), (2, 1), (5, 1)] [6, 7] [6, 7] [] (by kernel_rfl) (by kernel_rfl) (by kernel_rfl) (fun _ _ d _ _ h => by cases d <;> exact h) (fun _ _ d _ _ h => by cases d <;> exact h) (fun x hx => by cases hx) ?_
              iterate 4 ((refine wpFp_read (v := ?_) rfl ?_ (fun w1 h1 => ?_) ?_; rotate_left 1; rfl; (obtain ⟨os1, d1, rfl⟩ := h1.more; go_simp; first | done | rfl)); try simp only [Act.put, zqA, zqB, zqC])
              (refine wpFp_eff rfl ?_ (fun wf hXf hE K hK => ?_); rfl; obtain ⟨osf, df, rfl⟩ := hXf.more; go_simp; refine (h1 _).mono ?_; rintro e w' ⟨rfl, hb⟩; refine hK _ _ (fun _ => True) (by (try simp only [more_drew, more_more]); exact hb) (fun _ _ _ _ => trivial) trivial ?_)
              try simp only [Act.put, zqA, zqB, zqC]
              (refine wpFp_eff rfl ?_ (fun wf hXf hE K hK => ?_); rfl; obtain ⟨osf, df, rfl⟩ := hXf.more; go_simp; refine (h2 _).mono ?_; rintro e w' ⟨rfl, hb⟩; refine hK _ _ (fun _ => True) (by (try simp only [more_drew, more_more]); exact hb) (fun _ _ _ _ => trivial) trivial ?_)
              try simp only [Act.put, zqA, zqB, zqC]
              refine wpFp_zero fun osa da hE => ?_
              try simp only [Act.put, zqA, zqB, zqC]
              iterate 2 ((refine wpTl_op rfl ?_ (fun K hK => ?_); rfl; go_simp; refine hK _ _ ?_); try simp only [Act.put, zqA, zqB, zqC])
              refine wpTl_nil ?_
              go_wp2_with fail
              go_ret
              exact ⟨rfl, by with_reducible repeat (first | exact Ext.refl _ | apply Ext.drew | apply Ext.alloc | apply Ext.more_)⟩
            · rw [if_neg hl]
              by_cases hg : f' < f
              · rw [if_pos hg]
                go_enter Tryz.func143, Tryz.ntmps143
                go_upto_region 1 with fail
                refine wp_float [] [(0, 0), (1, 0), (3, 0), (4, 0), (2, 1), (5, 1)] [6, 7] [6, 7] [] (by kernel_rfl) (by kernel_rfl) (by kernel_rfl) (fun _ _ d _ _ h => by cases d <;> exact h) (fun _ _ d _ _ h => by cases d <;> exact h) (fun x hx => by cases hx) ?_
                iterate 4 ((refine wpFp_read (v := ?_) rfl ?_ (fun w1 h1 => ?_) ?_; rotate_left 1; rfl; (obtain ⟨os1, d1, rfl⟩ := h1.more; go_simp; first | done | rfl)); try simp only [Act.put, zqA, zqB, zqC])
                (refine wpFp_eff rfl ?_ (fun wf hXf hE K hK => ?_); rfl; obtain ⟨osf, df, rfl⟩ := hXf.more; go_simp; refine (h1 _).mono ?_; rintro e w' ⟨rfl, hb⟩; refine hK _ _ (fun _ => True) (by (try simp only [more_drew, more_more]); exact hb) (fun _ _ _ _ => trivial) trivial ?_)
                try simp only [Act.put, zqA, zqB, zqC]
                (refine wpFp_eff rfl ?_ (fun wf hXf hE K hK => ?_); rfl; obtain ⟨osf, df, rfl⟩ := hXf.more; go_simp; refine (h2 _).mono ?_; rintro e w' ⟨rfl, hb⟩; refine hK _ _ (fun _ => True) (by (try simp only [more_drew, more_more]); exact hb) (fun _ _ _ _ => trivial) trivial ?_)
                try simp only [Act.put, zqA, zqB, zqC]
                refine wpFp_zero fun osa da hE => ?_
                try simp only [Act.put, zqA, zqB, zqC]
                iterate 2 ((refine wpTl_op rfl ?_ (fun K hK => ?_); rfl; go_simp; refine hK _ _ ?_); try simp only [Act.put, zqA, zqB, zqC])
                refine wpTl_nil ?_
                go_wp2_with fail
                go_ret
                exact ⟨rfl, by with_reducible repeat (first | exact Ext.refl _ | apply Ext.drew | apply Ext.alloc | apply Ext.more_)⟩
              · rw [if_neg hg]
                go_enter Tryz.func143, Tryz.ntmps143
                go_upto_region 1 with fail
                refine wp_float [] [(0, 0), (1, 0), (3, 0), (4, 0), (2, 1), (5, 1)] [6, 7] [6, 7] [] (by kernel_rfl) (by kernel_rfl) (by kernel_rfl) (fun _ _ d _ _ h => by cases d <;> exact h) (fun _ _ d _ _ h => by cases d <;> exact h) (fun x hx => by cases hx) ?_
                iterate 4 ((refine wpFp_read (v := ?_) rfl ?_ (fun w1 h1 => ?_) ?_; rotate_left 1; rfl; (obtain ⟨os1, d1, rfl⟩ := h1.more; go_simp; first | done | rfl)); try simp only [Act.put, zqA, zqB, zqC])
                (refine wpFp_eff rfl ?_ (fun wf hXf hE K hK => ?_); rfl; obtain ⟨osf, df, rfl⟩ := hXf.more; go_simp; refine (h1 _).mono ?_; rintro e w' ⟨rfl, hb⟩; refine hK _ _ (fun _ => True) (by (try simp only [more_drew, more_more]); exact hb) (fun _ _ _ _ => trivial) trivial ?_)
                try simp only [Act.put, zqA, zqB, zqC]
                (refine wpFp_eff rfl ?_ (fun wf hXf hE K hK => ?_); rfl; obtain ⟨osf, df, rfl⟩ := hXf.more; go_simp; refine (h2 _).mono ?_; rintro e w' ⟨rfl, hb⟩; refine hK _ _ (fun _ => True) (by (try simp only [more_drew, more_more]); exact hb) (fun _ _ _ _ => trivial) trivial ?_)
                try simp only [Act.put, zqA, zqB, zqC]
                refine wpFp_zero fun osa da hE => ?_
                try simp only [Act.put, zqA, zqB, zqC]
                iterate 2 ((refine wpTl_op rfl ?_ (fun K hK => ?_); rfl; go_simp; refine hK _ _ ?_); try simp only [Act.put, zqA, zqB, zqC])
                refine wpTl_nil ?_
                go_wp2_with fail
                go_ret
                exact ⟨rfl, by with_reducible repeat (first | exact Ext.refl _ | apply Ext.drew | apply Ext.alloc | apply Ext.more_)⟩
          · rw [if_neg k4]
            have q1 : (k == 1) = false := by simp [k1]
            have q2 : (k == 2) = false := by simp [k2]
            have q3 : (k == 3) = false := by simp [k3]
            have q4 : (k == 4) = false := by simp [k4]
            clear k1 k2 k3 k4
            go_enter Tryz.func143, Tryz.ntmps143
            go_upto_region 1 with fail
            refine wp_float [] [(0, 0), (1, 0), (3, 0), (4, 0), (2, 1), (5, 1)] [6, 7] [6, 7] [] (by kernel_rfl) (by kernel_rfl) (by kernel_rfl) (fun _ _ d _ _ h => by cases d <;> exact h) (fun _ _ d _ _ h => by cases d <;> exact h) (fun x hx => by cases hx) ?_
            iterate 4 ((refine wpFp_read (v := ?_) rfl ?_ (fun w1 h1 => ?_) ?_; rotate_left 1; rfl; (obtain ⟨os1, d1, rfl⟩ := h1.more; go_simp; first | done | rfl)); try simp only [Act.put, zqA, zqB, zqC])
            (refine wpFp_eff rfl ?_ (fun wf hXf hE K hK => ?_); rfl; obtain ⟨osf, df, rfl⟩ := hXf.more; go_simp; refine (h1 _).mono ?_; rintro e w' ⟨rfl, hb⟩; refine hK _ _ (fun _ => True) (by (try simp only [more_drew, more_more]); exact hb) (fun _ _ _ _ => trivial) trivial ?_)
            try simp only [Act.put, zqA, zqB, zqC]
            (refine wpFp_eff rfl ?_ (fun wf hXf hE K hK => ?_); rfl; obtain ⟨osf, df, rfl⟩ := hXf.more; go_simp; refine (h2 _).mono ?_; rintro e w' ⟨rfl, hb⟩; refine hK _ _ (fun _ => True) (by (try simp only [more_drew, more_more]); exact hb) (fun _ _ _ _ => trivial) trivial ?_)
            try simp only [Act.put, zqA, zqB, zqC]
            refine wpFp_zero fun osa da hE => ?_
            try simp only [Act.put, zqA, zqB, zqC]
            iterate 2 ((refine wpTl_op rfl ?_ (fun K hK => ?_); rfl; go_simp; refine hK _ _ ?_); try simp only [Act.put, zqA, zqB, zqC])
            refine wpTl_nil ?_
            go_wp2_with fail
            go_ret
            exact ⟨rfl, by with_reducible repeat (first | exact Ext.refl _ | apply Ext.drew | apply Ext.alloc | apply Ext.more_)⟩
  · rw [if_pos (show k ≠ k' from hk)]
    have q0 : (k != k') = true := by simpa using hk
    by_cases hl : k < k'
    · rw [if_pos hl]
      go_enter Tryz.func143, Tryz.ntmps143
      go_upto_region 1 with fail
      refine wp_float [] [(0, 0), (1, 0), (3, 0), (4, 0), (2, 1), (5, 1)] [6, 7] [6, 7] [] (by kernel_rfl) (by kernel_rfl) (by kernel_rfl) (fun _ _ d _ _ h => by cases d <;> exact h) (fun _ _ d _ _ h => by cases d <;> exact h) (fun x hx => by cases hx) ?_
      iterate 4 ((refine wpFp_read (v := ?_) rfl ?_ (fun w1 h1 => ?_) ?_; rotate_left 1; rfl; (obtain ⟨os1, d1, rfl⟩ := h1.more; go_simp; first | done | rfl)); try simp only [Act.put, zqA, zqB, zqC])
      (refine wpFp_eff rfl ?_ (fun wf hXf hE K hK => ?_); rfl; obtain ⟨osf, df, rfl⟩ := hXf.more; go_simp; refine (h1 _).mono ?_; rintro e w' ⟨rfl, hb⟩; refine hK _ _ (fun _ => True) (by (try simp only [more_drew, more_more]); exact hb) (fun _ _ _ _ => trivial) trivial ?_)
      try simp only [Act.put, zqA, zqB, zqC]
      (refine wpFp_eff rfl ?_ (fun wf hXf hE K hK => ?_); rfl; obtain ⟨osf, df, rfl⟩ := hXf.more; go_simp; refine (h2 _).mono ?_; rintro e w' ⟨rfl, hb⟩; refine hK _ _ (fun _ => True) (by (try simp only [more_drew, more_more]); exact hb) (fun _ _ _ _ => trivial) trivial ?_)
      try simp only [Act.put, zqA, zqB, zqC]
      refine wpFp_zero fun osa da hE => ?_
      try simp only [Act.put, zqA, zqB, zqC]
      iterate 2 ((refine wpTl_op rfl ?_ (fun K hK => ?_); rfl; go_simp; refine hK _ _ ?_); try simp only [Act.put, zqA, zqB, zqC])
      refine wpTl_nil ?_
      go_wp2_with fail
      go_ret
      exact ⟨rfl, by with_reducible repeat (first | exact Ext.refl _ | apply Ext.drew | apply Ext.alloc | apply Ext.more_)⟩
    · rw [if_neg hl]
      go_enter Tryz.func143, Tryz.ntmps143
      go_upto_region 1 with fail
      refine wp_float [] [(0, 0), (1, 0), (3, 0), (4, 0), (2, 1), (5, 1)] [6, 7] [6, 7] [] (by kernel_rfl) (by kernel_rfl) (by kernel_rfl) (fun _ _ d _ _ h => by cases d <;> exact h) (fun _ _ d _ _ h => by cases d <;> exact h) (fun x hx => by cases hx) ?_
      iterate 4 ((refine wpFp_read (v := ?_) rfl ?_ (fun w1 h1 => ?_) ?_; rotate_left 1; rfl; (obtain ⟨os1, d1, rfl⟩ := h1.more; go_simp; first | done | rfl)); try simp only [Act.put, zqA, zqB, zqC])
      (refine wpFp_eff rfl ?_ (fun wf hXf hE K hK => ?_); rfl; obtain ⟨osf, df, rfl⟩ := hXf.more; go_simp; refine (h1 _).mono ?_; rintro e w' ⟨rfl, hb⟩; refine hK _ _ (fun _ => True) (by (try simp only [more_drew, more_more]); exact hb) (fun _ _ _ _ => trivial) trivial ?_)
      try simp only [Act.put, zqA, zqB, zqC]
      (refine wpFp_eff rfl ?_ (fun wf hXf hE K hK => ?_); rfl; obtain ⟨osf, df, rfl⟩ := hXf.more; go_simp; refine (h2 _).mono ?_; rintro e w' ⟨rfl, hb⟩; refine hK _ _ (fun _ => True) (by (try simp only [more_drew, more_more]); exact hb) (fun _ _ _ _ => trivial) trivial ?_)
      try simp only [Act.put, zqA, zqB, zqC]
      refine wpFp_zero fun osa da hE => ?_
      try simp only [Act.put, zqA, zqB, zqC]
      iterate 2 ((refine wpTl_op rfl ?_ (fun K hK => ?_); rfl; go_simp; refine hK _ _ ?_); try simp only [Act.put, zqA, zqB, zqC])
      refine wpTl_nil ?_
      go_wp2_with fail
      go_ret
      exact ⟨rfl, by with_reducible repeat (first | exact Ext.refl _ | apply Ext.drew | apply Ext.alloc | apply Ext.more_)⟩
end Go.Proofs.YteigcfflljoioaaGreatDoor
namespace Go.Proofs.YteigcfflljoioaaGreatDoor
open Go.RowKit NM
abbrev tnV (x : Val) : Value := .tuple #[NV (tnP x).1 (tnP x).2, .int .i64 (tnF x)]
abbrev ttV (x : Val) : Value := .tuple #[.string (ttS x), .int .i64 (ttF x)]
theorem tn_blank : tnV (Val.only 0) = .tuple #[NV 0 0, .int .i64 0] := rfl
theorem tn_num (m e : Int) : tnV ⟨1, m, e, ⟨#[]⟩, false, 0⟩ = .tuple #[NV m e, .int .i64 0] := rfl
theorem tn_true : tnV (truthV true) = .tuple #[NV 1 0, .int .i64 0] := rfl
theorem tn_false : tnV (truthV false) = .tuple #[NV 0 0, .int .i64 0] := rfl
theorem tn_bad (f : Int) : tnV (badV f) = .tuple #[NV 0 0, .int .i64 f] := rfl
theorem tn_text_no {t : ByteArray} (h : parS t = none) : tnV ⟨2, 0, 0, t, false, 0⟩ = .tuple #[NV 0 0, .int .i64 2] := by unfold tnV tnP tnF; simp [h]
theorem tn_text_yes {t : ByteArray} {p : Int × Int} (h : parS t = some p) : tnV ⟨2, 0, 0, t, false, 0⟩ = .tuple #[NV p.1 p.2, .int .i64 0] := by unfold tnV tnP tnF; simp [h]
theorem parR_S (t : ByteArray) : (if 255 < t.size then none else parR (bl t)) = parS t := by
  unfold parS
  by_cases h : 255 < t.size
  · rw [if_pos h, if_pos h]
  · rw [if_neg h, if_neg h, parse_law _ (by rw [bl_length]; omega)]
set_option maxHeartbeats 1000000 in
theorem toNum_any (x : Val) (w : World) (hx : x.right) :
    Calls Tryz.prog 149 #[VV x.kind x.mant x.exp x.text x.truth x.fault] w fun e w' => e = .returned (tnV x) ∧ Ext w w' := by
  rcases hx.form with rfl | ⟨m, e, rfl, hr⟩ | ⟨t, rfl, ht⟩ | ⟨b, rfl⟩ | ⟨f, rfl, hf⟩
  · rw [tn_blank]
    simp only [Val.only]
    go_enter Tryz.func149, Tryz.ntmps149
    go_wp2_with fail
    exact bodyPost_ret (v := .tuple #[NV 0 0, .int .i64 0]) (by simp [results, Tryz.results149, go_sem]) rfl ⟨rfl, by with_reducible repeat (first | exact Ext.refl _ | apply Ext.drew | apply Ext.alloc | apply Ext.more_)⟩
  · rw [tn_num]
    clear hx hr
    simp only
    go_enter Tryz.func149, Tryz.ntmps149
    go_wp2_with fail
    exact bodyPost_ret (v := .tuple #[NV m e, .int .i64 0]) (by simp [results, Tryz.results149, go_sem]) rfl ⟨rfl, by with_reducible repeat (first | exact Ext.refl _ | apply Ext.drew | apply Ext.alloc | apply Ext.more_)⟩
  · have hp := fun W => parse_any t W (by omega)
    simp only
    cases h : parS t with
    | none =>
      rw [tn_text_no h]
      rw [h] at hp
      simp only [rnV, rm, re, Option.getD_none, Option.isSome_none] at hp
      clear h hx
      go_enter Tryz.func149, Tryz.ntmps149
      go_wp2_with (go_at_call 171; (with_reducible refine (hp _).mono ?_); rintro e w' ⟨rfl, hb⟩; obtain ⟨os, d, rfl⟩ := hb.more; clear hb)
      exact bodyPost_ret (v := .tuple #[NV 0 0, .int .i64 2]) (by simp [results, Tryz.results149, go_sem]) rfl ⟨rfl, by with_reducible repeat (first | exact Ext.refl _ | apply Ext.drew | apply Ext.alloc | apply Ext.more_)⟩
    | some p =>
      rw [tn_text_yes h]
      rw [h] at hp
      simp only [rnV, rm, re, Option.getD_some, Option.isSome_some] at hp
      clear h hx
      go_enter Tryz.func149, Tryz.ntmps149
      go_wp2_with (go_at_call 171; (with_reducible refine (hp _).mono ?_); rintro e w' ⟨rfl, hb⟩; obtain ⟨os, d, rfl⟩ := hb.more; clear hb)
      exact bodyPost_ret (v := .tuple #[NV p.1 p.2, .int .i64 0]) (by simp [results, Tryz.results149, go_sem]) rfl ⟨rfl, by with_reducible repeat (first | exact Ext.refl _ | apply Ext.drew | apply Ext.alloc | apply Ext.more_)⟩
  · cases b
    · rw [tn_false]
      simp only [truthV]
      clear hx
      go_enter Tryz.func149, Tryz.ntmps149
      go_wp2_with fail
      exact bodyPost_ret (v := .tuple #[NV 0 0, .int .i64 0]) (by simp [results, Tryz.results149, go_sem]) rfl ⟨rfl, by with_reducible repeat (first | exact Ext.refl _ | apply Ext.drew | apply Ext.alloc | apply Ext.more_)⟩
    · rw [tn_true]
      simp only [truthV]
      clear hx
      go_enter Tryz.func149, Tryz.ntmps149
      go_wp2_with fail
      exact bodyPost_ret (v := .tuple #[NV 1 0, .int .i64 0]) (by simp [results, Tryz.results149, go_sem]) rfl ⟨rfl, by with_reducible repeat (first | exact Ext.refl _ | apply Ext.drew | apply Ext.alloc | apply Ext.more_)⟩
  · rw [tn_bad]
    simp only [badV]
    clear hx hf
    go_enter Tryz.func149, Tryz.ntmps149
    go_upto_region 13 with fail
    go_region
    all_goals
      go_wp2_with fail
      exact bodyPost_ret (v := .tuple #[NV 0 0, .int .i64 f]) (by simp [results, Tryz.results149, go_sem]) rfl ⟨rfl, by with_reducible repeat (first | exact Ext.refl _ | apply Ext.drew | apply Ext.alloc | apply Ext.more_)⟩
set_option maxHeartbeats 1000000 in
theorem rtoNum_any (x : Val) (w : World) (hx : x.right) :
    Calls Tryz.prog 26 #[VV x.kind x.mant x.exp x.text x.truth x.fault] w fun e w' => e = .returned (tnV x) ∧ Ext w w' := by
  rcases hx.form with rfl | ⟨m, e, rfl, hr⟩ | ⟨t, rfl, ht⟩ | ⟨b, rfl⟩ | ⟨f, rfl, hf⟩
  · rw [tn_blank]
    simp only [Val.only]
    go_enter Tryz.func26, Tryz.ntmps26
    go_wp2_with fail
    exact bodyPost_ret (v := .tuple #[NV 0 0, .int .i64 0]) (by simp [results, Tryz.results26, go_sem]) rfl ⟨rfl, by with_reducible repeat (first | exact Ext.refl _ | apply Ext.drew | apply Ext.alloc | apply Ext.more_)⟩
  · rw [tn_num]
    clear hx hr
    simp only
    go_enter Tryz.func26, Tryz.ntmps26
    go_wp2_with fail
    exact bodyPost_ret (v := .tuple #[NV m e, .int .i64 0]) (by simp [results, Tryz.results26, go_sem]) rfl ⟨rfl, by with_reducible repeat (first | exact Ext.refl _ | apply Ext.drew | apply Ext.alloc | apply Ext.more_)⟩
  · have hp := fun W => rparse_any t W (by omega)
    rw [parR_S] at hp
    simp only
    cases h : parS t with
    | none =>
      rw [tn_text_no h]
      rw [h] at hp
      simp only [rnV, rm, re, Option.getD_none, Option.isSome_none] at hp
      clear h hx
      go_enter Tryz.func26, Tryz.ntmps26
      go_wp2_with (go_at_call 48; (with_reducible refine (hp _).mono ?_); rintro e w' ⟨rfl, hb⟩; obtain ⟨os, d, rfl⟩ := hb.more; clear hb)
      exact bodyPost_ret (v := .tuple #[NV 0 0, .int .i64 2]) (by simp [results, Tryz.results26, go_sem]) rfl ⟨rfl, by with_reducible repeat (first | exact Ext.refl _ | apply Ext.drew | apply Ext.alloc | apply Ext.more_)⟩
    | some p =>
      rw [tn_text_yes h]
      rw [h] at hp
      simp only [rnV, rm, re, Option.getD_some, Option.isSome_some] at hp
      clear h hx
      go_enter Tryz.func26, Tryz.ntmps26
      go_wp2_with (go_at_call 48; (with_reducible refine (hp _).mono ?_); rintro e w' ⟨rfl, hb⟩; obtain ⟨os, d, rfl⟩ := hb.more; clear hb)
      exact bodyPost_ret (v := .tuple #[NV p.1 p.2, .int .i64 0]) (by simp [results, Tryz.results26, go_sem]) rfl ⟨rfl, by with_reducible repeat (first | exact Ext.refl _ | apply Ext.drew | apply Ext.alloc | apply Ext.more_)⟩
  · cases b
    · rw [tn_false]
      simp only [truthV]
      clear hx
      go_enter Tryz.func26, Tryz.ntmps26
      go_wp2_with fail
      exact bodyPost_ret (v := .tuple #[NV 0 0, .int .i64 0]) (by simp [results, Tryz.results26, go_sem]) rfl ⟨rfl, by with_reducible repeat (first | exact Ext.refl _ | apply Ext.drew | apply Ext.alloc | apply Ext.more_)⟩
    · rw [tn_true]
      simp only [truthV]
      clear hx
      go_enter Tryz.func26, Tryz.ntmps26
      go_wp2_with fail
      exact bodyPost_ret (v := .tuple #[NV 1 0, .int .i64 0]) (by simp [results, Tryz.results26, go_sem]) rfl ⟨rfl, by with_reducible repeat (first | exact Ext.refl _ | apply Ext.drew | apply Ext.alloc | apply Ext.more_)⟩
  · rw [tn_bad]
    simp only [badV]
    clear hx hf
    go_enter Tryz.func26, Tryz.ntmps26
    go_upto_region 2 with fail
    go_region
    all_goals
      go_wp2_with fail
      exact bodyPost_ret (v := .tuple #[NV 0 0, .int .i64 f]) (by simp [results, Tryz.results26, go_sem]) rfl ⟨rfl, by with_reducible repeat (first | exact Ext.refl _ | apply Ext.drew | apply Ext.alloc | apply Ext.more_)⟩
theorem tt_blank : ttV (Val.only 0) = .tuple #[.string ⟨#[]⟩, .int .i64 0] := rfl
theorem tt_num (m e : Int) : ttV ⟨1, m, e, ⟨#[]⟩, false, 0⟩ = .tuple #[.string (textS m e), .int .i64 0] := rfl
theorem tt_text (t : ByteArray) : ttV ⟨2, 0, 0, t, false, 0⟩ = .tuple #[.string t, .int .i64 0] := rfl
theorem tt_true : ttV (truthV true) = .tuple #[.string trueB, .int .i64 0] := rfl
theorem tt_false : ttV (truthV false) = .tuple #[.string falseB, .int .i64 0] := rfl
theorem tt_bad (f : Int) : ttV (badV f) = .tuple #[.string ⟨#[]⟩, .int .i64 f] := rfl
set_option maxHeartbeats 1000000 in
theorem toText_any (x : Val) (w : World) (htab : Tab w) (hx : x.right) :
    Calls Tryz.prog 141 #[VV x.kind x.mant x.exp x.text x.truth x.fault] w fun e w' => e = .returned (ttV x) ∧ Ext w w' := by
  rcases hx.form with rfl | ⟨m, e, rfl, hr⟩ | ⟨t, rfl, ht⟩ | ⟨b, rfl⟩ | ⟨f, rfl, hf⟩
  · rw [tt_blank]
    simp only [Val.only]
    go_enter Tryz.func141, Tryz.ntmps141
    go_wp2_with fail
    exact bodyPost_ret (v := .tuple #[.string ⟨#[]⟩, .int .i64 0]) (by simp [results, Tryz.results141, go_sem]) rfl ⟨rfl, by with_reducible repeat (first | exact Ext.refl _ | apply Ext.drew | apply Ext.alloc | apply Ext.more_)⟩
  · rw [tt_num]
    have hm := (Rt_i64 hr).1
    have htx := fun W hW => ntext_any m e W hW hm
    have HT := Lib.hid htab
    clear htab
    clear hx hr
    simp only
    generalize textS m e = T at *
    go_enter Tryz.func141, Tryz.ntmps141
    go_wp2_with (go_at_call 166; (with_reducible refine (htx _ (HT.out.ext (by with_reducible repeat (first | exact Ext.refl _ | apply Ext.drew | apply Ext.alloc | apply Ext.more_)))).mono ?_); rintro e w' ⟨rfl, hb⟩; obtain ⟨os, d, rfl⟩ := hb.more; clear hb)
    exact bodyPost_ret (v := .tuple #[.string T, .int .i64 0]) (by simp [results, Tryz.results141, go_sem]) rfl ⟨rfl, by with_reducible repeat (first | exact Ext.refl _ | apply Ext.drew | apply Ext.alloc | apply Ext.more_)⟩
  · rw [tt_text]
    simp only
    clear hx
    go_enter Tryz.func141, Tryz.ntmps141
    go_wp2_with fail
    exact bodyPost_ret (v := .tuple #[.string t, .int .i64 0]) (by simp [results, Tryz.results141, go_sem]) rfl ⟨rfl, by with_reducible repeat (first | exact Ext.refl _ | apply Ext.drew | apply Ext.alloc | apply Ext.more_)⟩
  · cases b
    · rw [tt_false]
      simp only [truthV]
      clear hx
      go_enter Tryz.func141, Tryz.ntmps141
      go_wp2_with fail
      exact bodyPost_ret (v := .tuple #[.string ⟨#[70, 65, 76, 83, 69]⟩, .int .i64 0]) (by simp [results, Tryz.results141, go_sem]) rfl ⟨rfl, by with_reducible repeat (first | exact Ext.refl _ | apply Ext.drew | apply Ext.alloc | apply Ext.more_)⟩
    · rw [tt_true]
      simp only [truthV]
      clear hx
      go_enter Tryz.func141, Tryz.ntmps141
      go_wp2_with fail
      exact bodyPost_ret (v := .tuple #[.string ⟨#[84, 82, 85, 69]⟩, .int .i64 0]) (by simp [results, Tryz.results141, go_sem]) rfl ⟨rfl, by with_reducible repeat (first | exact Ext.refl _ | apply Ext.drew | apply Ext.alloc | apply Ext.more_)⟩
  · rw [tt_bad]
    simp only [badV]
    clear hx hf
    go_enter Tryz.func141, Tryz.ntmps141
    go_upto_region 11 with fail
    go_region
    all_goals
      go_wp2_with fail
      exact bodyPost_ret (v := .tuple #[.string ⟨#[]⟩, .int .i64 f]) (by simp [results, Tryz.results141, go_sem]) rfl ⟨rfl, by with_reducible repeat (first | exact Ext.refl _ | apply Ext.drew | apply Ext.alloc | apply Ext.more_)⟩
set_option maxHeartbeats 1000000 in
theorem rtoText_any (x : Val) (w : World) (hx : x.right) :
    Calls Tryz.prog 100 #[VV x.kind x.mant x.exp x.text x.truth x.fault] w fun e w' => e = .returned (ttV x) ∧ Ext w w' := by
  rcases hx.form with rfl | ⟨m, e, rfl, hr⟩ | ⟨t, rfl, ht⟩ | ⟨b, rfl⟩ | ⟨f, rfl, hf⟩
  · rw [tt_blank]
    simp only [Val.only]
    go_enter Tryz.func100, Tryz.ntmps100
    go_wp2_with fail
    exact bodyPost_ret (v := .tuple #[.string ⟨#[]⟩, .int .i64 0]) (by simp [results, Tryz.results100, go_sem]) rfl ⟨rfl, by with_reducible repeat (first | exact Ext.refl _ | apply Ext.drew | apply Ext.alloc | apply Ext.more_)⟩
  · rw [tt_num]
    have hm := (Rt_i64 hr).1
    have htx := fun W => rtext_any m e W hm
    clear hx hr
    simp only
    generalize textS m e = T at *
    go_enter Tryz.func100, Tryz.ntmps100
    go_wp2_with (go_at_call 146; (with_reducible refine (htx _).mono ?_); rintro e w' ⟨rfl, hb⟩; obtain ⟨os, d, rfl⟩ := hb.more; clear hb)
    exact bodyPost_ret (v := .tuple #[.string T, .int .i64 0]) (by simp [results, Tryz.results100, go_sem]) rfl ⟨rfl, by with_reducible repeat (first | exact Ext.refl _ | apply Ext.drew | apply Ext.alloc | apply Ext.more_)⟩
  · rw [tt_text]
    simp only
    clear hx
    go_enter Tryz.func100, Tryz.ntmps100
    go_wp2_with fail
    exact bodyPost_ret (v := .tuple #[.string t, .int .i64 0]) (by simp [results, Tryz.results100, go_sem]) rfl ⟨rfl, by with_reducible repeat (first | exact Ext.refl _ | apply Ext.drew | apply Ext.alloc | apply Ext.more_)⟩
  · cases b
    · rw [tt_false]
      simp only [truthV]
      clear hx
      go_enter Tryz.func100, Tryz.ntmps100
      go_wp2_with fail
      exact bodyPost_ret (v := .tuple #[.string ⟨#[70, 65, 76, 83, 69]⟩, .int .i64 0]) (by simp [results, Tryz.results100, go_sem]) rfl ⟨rfl, by with_reducible repeat (first | exact Ext.refl _ | apply Ext.drew | apply Ext.alloc | apply Ext.more_)⟩
    · rw [tt_true]
      simp only [truthV]
      clear hx
      go_enter Tryz.func100, Tryz.ntmps100
      go_wp2_with fail
      exact bodyPost_ret (v := .tuple #[.string ⟨#[84, 82, 85, 69]⟩, .int .i64 0]) (by simp [results, Tryz.results100, go_sem]) rfl ⟨rfl, by with_reducible repeat (first | exact Ext.refl _ | apply Ext.drew | apply Ext.alloc | apply Ext.more_)⟩
  · rw [tt_bad]
    simp only [badV]
    clear hx hf
    go_enter Tryz.func100, Tryz.ntmps100
    go_upto_region 2 with fail
    go_region
    all_goals
      go_wp2_with fail
      exact bodyPost_ret (v := .tuple #[.string ⟨#[]⟩, .int .i64 f]) (by simp [results, Tryz.results100, go_sem]) rfl ⟨rfl, by with_reducible repeat (first | exact Ext.refl _ | apply Ext.drew | apply Ext.alloc | apply Ext.more_)⟩
end Go.Proofs.YteigcfflljoioaaGreatDoor
namespace Go.Proofs.YteigcfflljoioaaGreatDoor
open Go.RowKit NM
/-- oper.numbers. -/
def nbV (x y : Val) : Value :=
  if tnF x ≠ 0 then .tuple #[NV 0 0, NV 0 0, .int .i64 (tnF x)] else if tnF y ≠ 0 then .tuple #[NV 0 0, NV 0 0, .int .i64 (tnF y)] else .tuple #[NV (tnP x).1 (tnP x).2, NV (tnP y).1 (tnP y).2, .int .i64 0]
set_option maxHeartbeats 1000000 in
theorem numbers_any (x y : Val) (w : World) (hx : x.right) (hy : y.right) :
    Calls Tryz.prog 109 #[VV x.kind x.mant x.exp x.text x.truth x.fault, VV y.kind y.mant y.exp y.text y.truth y.fault] w fun e w' => e = .returned (nbV x y) ∧ Ext w w' := by
  have h1 := fun W => toNum_any x W hx
  have h2 := fun W => toNum_any y W hy
  unfold nbV
  simp only [tnV] at h1 h2
  generalize tnP x = p at *
  generalize tnP y = q at *
  generalize tnF x = f at *
  generalize tnF y = g at *
  obtain ⟨p1, p2⟩ := p
  obtain ⟨q1, q2⟩ := q
  simp only at h1 h2 ⊢
  generalize x.kind = k at *
  generalize x.mant = m at *
  generalize x.exp = ex at *
  generalize x.text = t at *
  generalize x.truth = b at *
  generalize x.fault = fl at *
  generalize y.kind = k' at *
  generalize y.mant = m' at *
  generalize y.exp = ex' at *
  generalize y.text = t' at *
  generalize y.truth = b' at *
  generalize y.fault = fl' at *
  clear hx hy
  by_cases hf : f = 0
  · subst hf
    rw [if_neg (show ¬ ((0 : Int) ≠ 0) from fun h => h rfl)]
    by_cases hg : g = 0
    · subst hg
      rw [if_neg (show ¬ ((0 : Int) ≠ 0) from fun h => h rfl)]
      go_enter Tryz.func109, Tryz.ntmps109
      go_upto_region 7 with (go_at_call 149; first | ((with_reducible refine (h1 _).mono ?_); rintro e w' ⟨rfl, hb⟩; obtain ⟨os1, d1, rfl⟩ := hb.more; clear hb) | ((with_reducible refine (h2 _).mono ?_); rintro e w' ⟨rfl, hb⟩; obtain ⟨os2, d2, rfl⟩ := hb.more; clear hb))
      go_region
      all_goals
        go_wp2_with fail
        exact bodyPost_ret (v := .tuple #[NV p1 p2, NV q1 q2, .int .i64 0]) (by simp [results, Tryz.results109, go_sem]) rfl ⟨rfl, by with_reducible repeat (first | exact Ext.refl _ | apply Ext.drew | apply Ext.alloc | apply Ext.more_)⟩
    · rw [if_pos hg]
      have q0 : (g != 0) = true := by simpa using hg
      go_enter Tryz.func109, Tryz.ntmps109
      go_wp2_with (go_at_call 149; first | ((with_reducible refine (h1 _).mono ?_); rintro e w' ⟨rfl, hb⟩; obtain ⟨os1, d1, rfl⟩ := hb.more; clear hb) | ((with_reducible refine (h2 _).mono ?_); rintro e w' ⟨rfl, hb⟩; obtain ⟨os2, d2, rfl⟩ := hb.more; clear hb))
      exact bodyPost_ret (v := .tuple #[NV 0 0, NV 0 0, .int .i64 g]) (by simp [results, Tryz.results109, go_sem]) rfl ⟨rfl, by with_reducible repeat (first | exact Ext.refl _ | apply Ext.drew | apply Ext.alloc | apply Ext.more_)⟩
  · rw [if_pos hf]
    have q0 : (f != 0) = true := by simpa using hf
    go_enter Tryz.func109, Tryz.ntmps109
    go_wp2_with (go_at_call 149; ((with_reducible refine (h1 _).mono ?_); rintro e w' ⟨rfl, hb⟩; obtain ⟨os1, d1, rfl⟩ := hb.more; clear hb))
    exact bodyPost_ret (v := .tuple #[NV 0 0, NV 0 0, .int .i64 f]) (by simp [results, Tryz.results109, go_sem]) rfl ⟨rfl, by with_reducible repeat (first | exact Ext.refl _ | apply Ext.drew | apply Ext.alloc | apply Ext.more_)⟩
theorem told_no (m e : Int) (w : World) :
    Calls Tryz.prog 110 #[NV m e, .bool false] w fun r w' => r = .returned (VV 4 0 0 ⟨#[]⟩ false 5) ∧ Ext w w' := by
  have hbad := fun W => bad_any 5 W
  rw [show badF 5 = 5 by decide] at hbad
  go_enter Tryz.func110, Tryz.ntmps110
  go_wp2_with (go_at_call 74; (with_reducible refine (hbad _).mono ?_); rintro e w' ⟨rfl, hb⟩; obtain ⟨os, d, rfl⟩ := hb.more; clear hb)
  exact bodyPost_ret (v := VV 4 0 0 ⟨#[]⟩ false 5) (by simp [results, Tryz.results110, go_sem]) rfl ⟨rfl, by with_reducible repeat (first | exact Ext.refl _ | apply Ext.drew | apply Ext.alloc | apply Ext.more_)⟩
theorem told_yes (m e : Int) (w : World) :
    Calls Tryz.prog 110 #[NV m e, .bool true] w fun r w' => r = .returned (VV 1 m e ⟨#[]⟩ false 0) ∧ Ext w w' := by
  have hof := fun W => of_any m e W
  go_enter Tryz.func110, Tryz.ntmps110
  go_wp2_with (go_at_call 57; (with_reducible refine (hof _).mono ?_); rintro e w' ⟨rfl, hb⟩; obtain ⟨os, d, rfl⟩ := hb.more; clear hb)
  exact bodyPost_ret (v := VV 1 m e ⟨#[]⟩ false 0) (by simp [results, Tryz.results110, go_sem]) rfl ⟨rfl, by with_reducible repeat (first | exact Ext.refl _ | apply Ext.drew | apply Ext.alloc | apply Ext.more_)⟩
theorem oper_told_any (r : Option (Int × Int)) (w : World) :
    Calls Tryz.prog 110 #[NV (rm r) (re r), .bool r.isSome] w fun e w' => e = .returned (VV (numRes r).kind (numRes r).mant (numRes r).exp (numRes r).text (numRes r).truth (numRes r).fault) ∧ Ext w w' := by
  cases r with
  | none => exact told_no _ _ w
  | some p => exact told_yes _ _ w
/-- What a function on two numbers tells. -/
def NumFn (fid : FuncId) (F : Int → Int → Int → Int → Option (Int × Int)) : Prop :=
  ∀ a b c d W, Tab W → I64 a → I64 c → Calls Tryz.prog fid #[NV a b, NV c d] W fun e W' => e = .returned (rnV (F a b c d)) ∧ Ext W W'
theorem fn_add : NumFn 78 addS := fun a b c d W h h1 h2 => add_any a b c d W h h1 h2
theorem fn_sub : NumFn 58 subS := fun a b c d W h h1 h2 => sub_any a b c d W h h1 h2
theorem fn_mul : NumFn 79 mulS := fun a b c d W h h1 h2 => mul_any a b c d W h h1 h2
theorem fn_div : NumFn 60 divS := fun a b c d W h h1 h2 => div_any a b c d W h h1 h2
theorem reck_cases (F : Int → Int → Int → Int → Option (Int × Int)) (x y : Val) : (tnF x ≠ 0 ∧ nbV x y = .tuple #[NV 0 0, NV 0 0, .int .i64 (tnF x)] ∧ reckV F x y = bad_ (tnF x)) ∨ (tnF x = 0 ∧ tnF y ≠ 0 ∧ nbV x y = .tuple #[NV 0 0, NV 0 0, .int .i64 (tnF y)] ∧ reckV F x y = bad_ (tnF y)) ∨ (tnF x = 0 ∧ tnF y = 0 ∧ nbV x y = .tuple #[NV (tnP x).1 (tnP x).2, NV (tnP y).1 (tnP y).2, .int .i64 0] ∧ reckV F x y = numRes (F (tnP x).1 (tnP x).2 (tnP y).1 (tnP y).2)) := by
  unfold nbV reckV
  by_cases h1 : tnF x = 0
  · by_cases h2 : tnF y = 0
    · exact Or.inr (Or.inr ⟨h1, h2, by simp [h1, h2], by simp [h1, h2]⟩)
    · exact Or.inr (Or.inl ⟨h1, h2, by simp [h1, h2], by simp [h1, h2]⟩)
  · exact Or.inl ⟨h1, by simp [h1], by simp [h1]⟩
set_option maxHeartbeats 1000000 in
theorem reckoned_add (x y : Val) (w : World) (htab : Tab w) (hx : x.right) (hy : y.right) :
    Calls Tryz.prog 56 #[VV x.kind x.mant x.exp x.text x.truth x.fault, VV y.kind y.mant y.exp y.text y.truth y.fault, .func (.func 78) #[] #[]] w fun e w' => e = .returned (VV (reckV addS x y).kind (reckV addS x y).mant (reckV addS x y).exp (reckV addS x y).text (reckV addS x y).truth (reckV addS x y).fault) ∧ Ext w w' := by
  have hnb := fun W => numbers_any x y W hx hy
  have HT := Lib.hid htab
  clear htab
  rcases reck_cases addS x y with ⟨h1, h2, h3⟩ | ⟨h0, h1, h2, h3⟩ | ⟨h0, h1, h2, h3⟩
  · rw [h3]
    rw [h2] at hnb
    have hbad := fun W => bad_any (tnF x) W
    have q0 : (tnF x != 0) = true := by simpa using h1
    generalize tnF x = f at *
    simp only [bad_, badV]
    clear h1 h2 h3 hx hy
    generalize x.kind = xk at *; generalize x.mant = xm at *; generalize x.exp = xe at *; generalize x.text = xt at *; generalize x.truth = xb at *; generalize x.fault = xf at *
    generalize y.kind = yk at *; generalize y.mant = ym at *; generalize y.exp = ye at *; generalize y.text = yt at *; generalize y.truth = yb at *; generalize y.fault = yf at *
    go_enter Tryz.func56, Tryz.ntmps56
    go_wp2_with (first | (go_at_call 109; (with_reducible refine (hnb _).mono ?_); rintro e w' ⟨rfl, hb⟩; obtain ⟨os, d, rfl⟩ := hb.more; clear hb) | (go_at_call 74; (with_reducible refine (hbad _).mono ?_); rintro e w' ⟨rfl, hb⟩; obtain ⟨os, d, rfl⟩ := hb.more; clear hb))
    exact bodyPost_ret (v := VV 4 0 0 ⟨#[]⟩ false (badF f)) (by simp [results, Tryz.results56, go_sem]) rfl ⟨rfl, by with_reducible repeat (first | exact Ext.refl _ | apply Ext.drew | apply Ext.alloc | apply Ext.more_)⟩
  · rw [h3]
    rw [h2] at hnb
    have hbad := fun W => bad_any (tnF y) W
    have q0 : (tnF y != 0) = true := by simpa using h1
    generalize tnF y = f at *
    simp only [bad_, badV]
    clear h0 h1 h2 h3 hx hy
    generalize x.kind = xk at *; generalize x.mant = xm at *; generalize x.exp = xe at *; generalize x.text = xt at *; generalize x.truth = xb at *; generalize x.fault = xf at *
    generalize y.kind = yk at *; generalize y.mant = ym at *; generalize y.exp = ye at *; generalize y.text = yt at *; generalize y.truth = yb at *; generalize y.fault = yf at *
    go_enter Tryz.func56, Tryz.ntmps56
    go_wp2_with (first | (go_at_call 109; (with_reducible refine (hnb _).mono ?_); rintro e w' ⟨rfl, hb⟩; obtain ⟨os, d, rfl⟩ := hb.more; clear hb) | (go_at_call 74; (with_reducible refine (hbad _).mono ?_); rintro e w' ⟨rfl, hb⟩; obtain ⟨os, d, rfl⟩ := hb.more; clear hb))
    exact bodyPost_ret (v := VV 4 0 0 ⟨#[]⟩ false (badF f)) (by simp [results, Tryz.results56, go_sem]) rfl ⟨rfl, by with_reducible repeat (first | exact Ext.refl _ | apply Ext.drew | apply Ext.alloc | apply Ext.more_)⟩
  · rw [h3]
    rw [h2] at hnb
    have hfn := fun W hW => fn_add (tnP x).1 (tnP x).2 (tnP y).1 (tnP y).2 W hW (Rt_i64 (tn_rt hx)).1 (Rt_i64 (tn_rt hy)).1
    have htd := fun W => oper_told_any (addS (tnP x).1 (tnP x).2 (tnP y).1 (tnP y).2) W
    generalize addS (tnP x).1 (tnP x).2 (tnP y).1 (tnP y).2 = R at *
    generalize (tnP x).1 = a at *
    generalize (tnP x).2 = b at *
    generalize (tnP y).1 = c at *
    generalize (tnP y).2 = d at *
    generalize numRes R = z at *
    simp only [rnV] at hfn
    clear h0 h1 h2 h3 hx hy
    generalize x.kind = xk at *; generalize x.mant = xm at *; generalize x.exp = xe at *; generalize x.text = xt at *; generalize x.truth = xb at *; generalize x.fault = xf at *
    generalize y.kind = yk at *; generalize y.mant = ym at *; generalize y.exp = ye at *; generalize y.text = yt at *; generalize y.truth = yb at *; generalize y.fault = yf at *
    generalize z.kind = zk at *; generalize z.mant = zm at *; generalize z.exp = ze at *; generalize z.text = zt at *; generalize z.truth = zb at *; generalize z.fault = zf at *
    go_enter Tryz.func56, Tryz.ntmps56
    go_wp2_with (first | (go_at_call 109; (with_reducible refine (hnb _).mono ?_); rintro e w' ⟨rfl, hb⟩; obtain ⟨os, d, rfl⟩ := hb.more; clear hb) | (go_at_call 78; (with_reducible refine (hfn _ (HT.out.ext (by with_reducible repeat (first | exact Ext.refl _ | apply Ext.drew | apply Ext.alloc | apply Ext.more_)))).mono ?_); rintro e w' ⟨rfl, hb⟩; obtain ⟨os, d, rfl⟩ := hb.more; clear hb) | (go_at_call 110; (with_reducible refine (htd _).mono ?_); rintro e w' ⟨rfl, hb⟩; obtain ⟨os, d, rfl⟩ := hb.more; clear hb))
    exact bodyPost_ret (v := VV zk zm ze zt zb zf) (by simp [results, Tryz.results56, go_sem]) rfl ⟨rfl, by with_reducible repeat (first | exact Ext.refl _ | apply Ext.drew | apply Ext.alloc | apply Ext.more_)⟩
set_option maxHeartbeats 1000000 in
theorem reckoned_sub (x y : Val) (w : World) (htab : Tab w) (hx : x.right) (hy : y.right) :
    Calls Tryz.prog 56 #[VV x.kind x.mant x.exp x.text x.truth x.fault, VV y.kind y.mant y.exp y.text y.truth y.fault, .func (.func 58) #[] #[]] w fun e w' => e = .returned (VV (reckV subS x y).kind (reckV subS x y).mant (reckV subS x y).exp (reckV subS x y).text (reckV subS x y).truth (reckV subS x y).fault) ∧ Ext w w' := by
  have hnb := fun W => numbers_any x y W hx hy
  have HT := Lib.hid htab
  clear htab
  rcases reck_cases subS x y with ⟨h1, h2, h3⟩ | ⟨h0, h1, h2, h3⟩ | ⟨h0, h1, h2, h3⟩
  · rw [h3]
    rw [h2] at hnb
    have hbad := fun W => bad_any (tnF x) W
    have q0 : (tnF x != 0) = true := by simpa using h1
    generalize tnF x = f at *
    simp only [bad_, badV]
    clear h1 h2 h3 hx hy
    generalize x.kind = xk at *; generalize x.mant = xm at *; generalize x.exp = xe at *; generalize x.text = xt at *; generalize x.truth = xb at *; generalize x.fault = xf at *
    generalize y.kind = yk at *; generalize y.mant = ym at *; generalize y.exp = ye at *; generalize y.text = yt at *; generalize y.truth = yb at *; generalize y.fault = yf at *
    go_enter Tryz.func56, Tryz.ntmps56
    go_wp2_with (first | (go_at_call 109; (with_reducible refine (hnb _).mono ?_); rintro e w' ⟨rfl, hb⟩; obtain ⟨os, d, rfl⟩ := hb.more; clear hb) | (go_at_call 74; (with_reducible refine (hbad _).mono ?_); rintro e w' ⟨rfl, hb⟩; obtain ⟨os, d, rfl⟩ := hb.more; clear hb))
    exact bodyPost_ret (v := VV 4 0 0 ⟨#[]⟩ false (badF f)) (by simp [results, Tryz.results56, go_sem]) rfl ⟨rfl, by with_reducible repeat (first | exact Ext.refl _ | apply Ext.drew | apply Ext.alloc | apply Ext.more_)⟩
  · rw [h3]
    rw [h2] at hnb
    have hbad := fun W => bad_any (tnF y) W
    have q0 : (tnF y != 0) = true := by simpa using h1
    generalize tnF y = f at *
    simp only [bad_, badV]
    clear h0 h1 h2 h3 hx hy
    generalize x.kind = xk at *; generalize x.mant = xm at *; generalize x.exp = xe at *; generalize x.text = xt at *; generalize x.truth = xb at *; generalize x.fault = xf at *
    generalize y.kind = yk at *; generalize y.mant = ym at *; generalize y.exp = ye at *; generalize y.text = yt at *; generalize y.truth = yb at *; generalize y.fault = yf at *
    go_enter Tryz.func56, Tryz.ntmps56
    go_wp2_with (first | (go_at_call 109; (with_reducible refine (hnb _).mono ?_); rintro e w' ⟨rfl, hb⟩; obtain ⟨os, d, rfl⟩ := hb.more; clear hb) | (go_at_call 74; (with_reducible refine (hbad _).mono ?_); rintro e w' ⟨rfl, hb⟩; obtain ⟨os, d, rfl⟩ := hb.more; clear hb))
    exact bodyPost_ret (v := VV 4 0 0 ⟨#[]⟩ false (badF f)) (by simp [results, Tryz.results56, go_sem]) rfl ⟨rfl, by with_reducible repeat (first | exact Ext.refl _ | apply Ext.drew | apply Ext.alloc | apply Ext.more_)⟩
  · rw [h3]
    rw [h2] at hnb
    have hfn := fun W hW => fn_sub (tnP x).1 (tnP x).2 (tnP y).1 (tnP y).2 W hW (Rt_i64 (tn_rt hx)).1 (Rt_i64 (tn_rt hy)).1
    have htd := fun W => oper_told_any (subS (tnP x).1 (tnP x).2 (tnP y).1 (tnP y).2) W
    generalize subS (tnP x).1 (tnP x).2 (tnP y).1 (tnP y).2 = R at *
    generalize (tnP x).1 = a at *
    generalize (tnP x).2 = b at *
    generalize (tnP y).1 = c at *
    generalize (tnP y).2 = d at *
    generalize numRes R = z at *
    simp only [rnV] at hfn
    clear h0 h1 h2 h3 hx hy
    generalize x.kind = xk at *; generalize x.mant = xm at *; generalize x.exp = xe at *; generalize x.text = xt at *; generalize x.truth = xb at *; generalize x.fault = xf at *
    generalize y.kind = yk at *; generalize y.mant = ym at *; generalize y.exp = ye at *; generalize y.text = yt at *; generalize y.truth = yb at *; generalize y.fault = yf at *
    generalize z.kind = zk at *; generalize z.mant = zm at *; generalize z.exp = ze at *; generalize z.text = zt at *; generalize z.truth = zb at *; generalize z.fault = zf at *
    go_enter Tryz.func56, Tryz.ntmps56
    go_wp2_with (first | (go_at_call 109; (with_reducible refine (hnb _).mono ?_); rintro e w' ⟨rfl, hb⟩; obtain ⟨os, d, rfl⟩ := hb.more; clear hb) | (go_at_call 58; (with_reducible refine (hfn _ (HT.out.ext (by with_reducible repeat (first | exact Ext.refl _ | apply Ext.drew | apply Ext.alloc | apply Ext.more_)))).mono ?_); rintro e w' ⟨rfl, hb⟩; obtain ⟨os, d, rfl⟩ := hb.more; clear hb) | (go_at_call 110; (with_reducible refine (htd _).mono ?_); rintro e w' ⟨rfl, hb⟩; obtain ⟨os, d, rfl⟩ := hb.more; clear hb))
    exact bodyPost_ret (v := VV zk zm ze zt zb zf) (by simp [results, Tryz.results56, go_sem]) rfl ⟨rfl, by with_reducible repeat (first | exact Ext.refl _ | apply Ext.drew | apply Ext.alloc | apply Ext.more_)⟩
set_option maxHeartbeats 1000000 in
theorem reckoned_mul (x y : Val) (w : World) (htab : Tab w) (hx : x.right) (hy : y.right) :
    Calls Tryz.prog 56 #[VV x.kind x.mant x.exp x.text x.truth x.fault, VV y.kind y.mant y.exp y.text y.truth y.fault, .func (.func 79) #[] #[]] w fun e w' => e = .returned (VV (reckV mulS x y).kind (reckV mulS x y).mant (reckV mulS x y).exp (reckV mulS x y).text (reckV mulS x y).truth (reckV mulS x y).fault) ∧ Ext w w' := by
  have hnb := fun W => numbers_any x y W hx hy
  have HT := Lib.hid htab
  clear htab
  rcases reck_cases mulS x y with ⟨h1, h2, h3⟩ | ⟨h0, h1, h2, h3⟩ | ⟨h0, h1, h2, h3⟩
  · rw [h3]
    rw [h2] at hnb
    have hbad := fun W => bad_any (tnF x) W
    have q0 : (tnF x != 0) = true := by simpa using h1
    generalize tnF x = f at *
    simp only [bad_, badV]
    clear h1 h2 h3 hx hy
    generalize x.kind = xk at *; generalize x.mant = xm at *; generalize x.exp = xe at *; generalize x.text = xt at *; generalize x.truth = xb at *; generalize x.fault = xf at *
    generalize y.kind = yk at *; generalize y.mant = ym at *; generalize y.exp = ye at *; generalize y.text = yt at *; generalize y.truth = yb at *; generalize y.fault = yf at *
    go_enter Tryz.func56, Tryz.ntmps56
    go_wp2_with (first | (go_at_call 109; (with_reducible refine (hnb _).mono ?_); rintro e w' ⟨rfl, hb⟩; obtain ⟨os, d, rfl⟩ := hb.more; clear hb) | (go_at_call 74; (with_reducible refine (hbad _).mono ?_); rintro e w' ⟨rfl, hb⟩; obtain ⟨os, d, rfl⟩ := hb.more; clear hb))
    exact bodyPost_ret (v := VV 4 0 0 ⟨#[]⟩ false (badF f)) (by simp [results, Tryz.results56, go_sem]) rfl ⟨rfl, by with_reducible repeat (first | exact Ext.refl _ | apply Ext.drew | apply Ext.alloc | apply Ext.more_)⟩
  · rw [h3]
    rw [h2] at hnb
    have hbad := fun W => bad_any (tnF y) W
    have q0 : (tnF y != 0) = true := by simpa using h1
    generalize tnF y = f at *
    simp only [bad_, badV]
    clear h0 h1 h2 h3 hx hy
    generalize x.kind = xk at *; generalize x.mant = xm at *; generalize x.exp = xe at *; generalize x.text = xt at *; generalize x.truth = xb at *; generalize x.fault = xf at *
    generalize y.kind = yk at *; generalize y.mant = ym at *; generalize y.exp = ye at *; generalize y.text = yt at *; generalize y.truth = yb at *; generalize y.fault = yf at *
    go_enter Tryz.func56, Tryz.ntmps56
    go_wp2_with (first | (go_at_call 109; (with_reducible refine (hnb _).mono ?_); rintro e w' ⟨rfl, hb⟩; obtain ⟨os, d, rfl⟩ := hb.more; clear hb) | (go_at_call 74; (with_reducible refine (hbad _).mono ?_); rintro e w' ⟨rfl, hb⟩; obtain ⟨os, d, rfl⟩ := hb.more; clear hb))
    exact bodyPost_ret (v := VV 4 0 0 ⟨#[]⟩ false (badF f)) (by simp [results, Tryz.results56, go_sem]) rfl ⟨rfl, by with_reducible repeat (first | exact Ext.refl _ | apply Ext.drew | apply Ext.alloc | apply Ext.more_)⟩
  · rw [h3]
    rw [h2] at hnb
    have hfn := fun W hW => fn_mul (tnP x).1 (tnP x).2 (tnP y).1 (tnP y).2 W hW (Rt_i64 (tn_rt hx)).1 (Rt_i64 (tn_rt hy)).1
    have htd := fun W => oper_told_any (mulS (tnP x).1 (tnP x).2 (tnP y).1 (tnP y).2) W
    generalize mulS (tnP x).1 (tnP x).2 (tnP y).1 (tnP y).2 = R at *
    generalize (tnP x).1 = a at *
    generalize (tnP x).2 = b at *
    generalize (tnP y).1 = c at *
    generalize (tnP y).2 = d at *
    generalize numRes R = z at *
    simp only [rnV] at hfn
    clear h0 h1 h2 h3 hx hy
    generalize x.kind = xk at *; generalize x.mant = xm at *; generalize x.exp = xe at *; generalize x.text = xt at *; generalize x.truth = xb at *; generalize x.fault = xf at *
    generalize y.kind = yk at *; generalize y.mant = ym at *; generalize y.exp = ye at *; generalize y.text = yt at *; generalize y.truth = yb at *; generalize y.fault = yf at *
    generalize z.kind = zk at *; generalize z.mant = zm at *; generalize z.exp = ze at *; generalize z.text = zt at *; generalize z.truth = zb at *; generalize z.fault = zf at *
    go_enter Tryz.func56, Tryz.ntmps56
    go_wp2_with (first | (go_at_call 109; (with_reducible refine (hnb _).mono ?_); rintro e w' ⟨rfl, hb⟩; obtain ⟨os, d, rfl⟩ := hb.more; clear hb) | (go_at_call 79; (with_reducible refine (hfn _ (HT.out.ext (by with_reducible repeat (first | exact Ext.refl _ | apply Ext.drew | apply Ext.alloc | apply Ext.more_)))).mono ?_); rintro e w' ⟨rfl, hb⟩; obtain ⟨os, d, rfl⟩ := hb.more; clear hb) | (go_at_call 110; (with_reducible refine (htd _).mono ?_); rintro e w' ⟨rfl, hb⟩; obtain ⟨os, d, rfl⟩ := hb.more; clear hb))
    exact bodyPost_ret (v := VV zk zm ze zt zb zf) (by simp [results, Tryz.results56, go_sem]) rfl ⟨rfl, by with_reducible repeat (first | exact Ext.refl _ | apply Ext.drew | apply Ext.alloc | apply Ext.more_)⟩
set_option maxHeartbeats 1000000 in
theorem reckoned_div (x y : Val) (w : World) (htab : Tab w) (hx : x.right) (hy : y.right) :
    Calls Tryz.prog 56 #[VV x.kind x.mant x.exp x.text x.truth x.fault, VV y.kind y.mant y.exp y.text y.truth y.fault, .func (.func 60) #[] #[]] w fun e w' => e = .returned (VV (reckV divS x y).kind (reckV divS x y).mant (reckV divS x y).exp (reckV divS x y).text (reckV divS x y).truth (reckV divS x y).fault) ∧ Ext w w' := by
  have hnb := fun W => numbers_any x y W hx hy
  have HT := Lib.hid htab
  clear htab
  rcases reck_cases divS x y with ⟨h1, h2, h3⟩ | ⟨h0, h1, h2, h3⟩ | ⟨h0, h1, h2, h3⟩
  · rw [h3]
    rw [h2] at hnb
    have hbad := fun W => bad_any (tnF x) W
    have q0 : (tnF x != 0) = true := by simpa using h1
    generalize tnF x = f at *
    simp only [bad_, badV]
    clear h1 h2 h3 hx hy
    generalize x.kind = xk at *; generalize x.mant = xm at *; generalize x.exp = xe at *; generalize x.text = xt at *; generalize x.truth = xb at *; generalize x.fault = xf at *
    generalize y.kind = yk at *; generalize y.mant = ym at *; generalize y.exp = ye at *; generalize y.text = yt at *; generalize y.truth = yb at *; generalize y.fault = yf at *
    go_enter Tryz.func56, Tryz.ntmps56
    go_wp2_with (first | (go_at_call 109; (with_reducible refine (hnb _).mono ?_); rintro e w' ⟨rfl, hb⟩; obtain ⟨os, d, rfl⟩ := hb.more; clear hb) | (go_at_call 74; (with_reducible refine (hbad _).mono ?_); rintro e w' ⟨rfl, hb⟩; obtain ⟨os, d, rfl⟩ := hb.more; clear hb))
    exact bodyPost_ret (v := VV 4 0 0 ⟨#[]⟩ false (badF f)) (by simp [results, Tryz.results56, go_sem]) rfl ⟨rfl, by with_reducible repeat (first | exact Ext.refl _ | apply Ext.drew | apply Ext.alloc | apply Ext.more_)⟩
  · rw [h3]
    rw [h2] at hnb
    have hbad := fun W => bad_any (tnF y) W
    have q0 : (tnF y != 0) = true := by simpa using h1
    generalize tnF y = f at *
    simp only [bad_, badV]
    clear h0 h1 h2 h3 hx hy
    generalize x.kind = xk at *; generalize x.mant = xm at *; generalize x.exp = xe at *; generalize x.text = xt at *; generalize x.truth = xb at *; generalize x.fault = xf at *
    generalize y.kind = yk at *; generalize y.mant = ym at *; generalize y.exp = ye at *; generalize y.text = yt at *; generalize y.truth = yb at *; generalize y.fault = yf at *
    go_enter Tryz.func56, Tryz.ntmps56
    go_wp2_with (first | (go_at_call 109; (with_reducible refine (hnb _).mono ?_); rintro e w' ⟨rfl, hb⟩; obtain ⟨os, d, rfl⟩ := hb.more; clear hb) | (go_at_call 74; (with_reducible refine (hbad _).mono ?_); rintro e w' ⟨rfl, hb⟩; obtain ⟨os, d, rfl⟩ := hb.more; clear hb))
    exact bodyPost_ret (v := VV 4 0 0 ⟨#[]⟩ false (badF f)) (by simp [results, Tryz.results56, go_sem]) rfl ⟨rfl, by with_reducible repeat (first | exact Ext.refl _ | apply Ext.drew | apply Ext.alloc | apply Ext.more_)⟩
  · rw [h3]
    rw [h2] at hnb
    have hfn := fun W hW => fn_div (tnP x).1 (tnP x).2 (tnP y).1 (tnP y).2 W hW (Rt_i64 (tn_rt hx)).1 (Rt_i64 (tn_rt hy)).1
    have htd := fun W => oper_told_any (divS (tnP x).1 (tnP x).2 (tnP y).1 (tnP y).2) W
    generalize divS (tnP x).1 (tnP x).2 (tnP y).1 (tnP y).2 = R at *
    generalize (tnP x).1 = a at *
    generalize (tnP x).2 = b at *
    generalize (tnP y).1 = c at *
    generalize (tnP y).2 = d at *
    generalize numRes R = z at *
    simp only [rnV] at hfn
    clear h0 h1 h2 h3 hx hy
    generalize x.kind = xk at *; generalize x.mant = xm at *; generalize x.exp = xe at *; generalize x.text = xt at *; generalize x.truth = xb at *; generalize x.fault = xf at *
    generalize y.kind = yk at *; generalize y.mant = ym at *; generalize y.exp = ye at *; generalize y.text = yt at *; generalize y.truth = yb at *; generalize y.fault = yf at *
    generalize z.kind = zk at *; generalize z.mant = zm at *; generalize z.exp = ze at *; generalize z.text = zt at *; generalize z.truth = zb at *; generalize z.fault = zf at *
    go_enter Tryz.func56, Tryz.ntmps56
    go_wp2_with (first | (go_at_call 109; (with_reducible refine (hnb _).mono ?_); rintro e w' ⟨rfl, hb⟩; obtain ⟨os, d, rfl⟩ := hb.more; clear hb) | (go_at_call 60; (with_reducible refine (hfn _ (HT.out.ext (by with_reducible repeat (first | exact Ext.refl _ | apply Ext.drew | apply Ext.alloc | apply Ext.more_)))).mono ?_); rintro e w' ⟨rfl, hb⟩; obtain ⟨os, d, rfl⟩ := hb.more; clear hb) | (go_at_call 110; (with_reducible refine (htd _).mono ?_); rintro e w' ⟨rfl, hb⟩; obtain ⟨os, d, rfl⟩ := hb.more; clear hb))
    exact bodyPost_ret (v := VV zk zm ze zt zb zf) (by simp [results, Tryz.results56, go_sem]) rfl ⟨rfl, by with_reducible repeat (first | exact Ext.refl _ | apply Ext.drew | apply Ext.alloc | apply Ext.more_)⟩
end Go.Proofs.YteigcfflljoioaaGreatDoor
namespace Go.Proofs.YteigcfflljoioaaGreatDoor
open Go.RowKit NM
theorem textL_len {m e : Int} (h : Rt m e) : (textL m e).length ≤ 100 := by
  obtain ⟨b1, b2, b3⟩ := Rt_bd h
  have hn : (Lib.decDigits m.natAbs).length ≤ 15 := by
    have := decB_size m.natAbs
    have h1 : (decB m.natAbs).size = (Lib.decDigits m.natAbs).length := rfl
    have hnd : nd m.natAbs ≤ 15 := (nd_le_iff _ _).2 (by have : T 15 = 1000000000000000 := by decide
                                                         omega)
    omega
  unfold textL
  rw [List.length_append]
  have h1 : (if m < 0 then [(45 : UInt8)] else []).length ≤ 1 := by split <;> simp
  generalize (if m < 0 then [(45 : UInt8)] else []) = sg at *
  split
  · simp; omega
  · split
    · simp; omega
    · simp; omega
theorem textS_size {m e : Int} (h : Rt m e) : (textS m e).size ≤ 100 := by
  unfold textS
  rw [if_pos h]
  exact textL_len h
end Go.Proofs.YteigcfflljoioaaGreatDoor
namespace Go.Proofs.YteigcfflljoioaaGreatDoor
open Go.RowKit NM
set_option maxHeartbeats 1000000 in
theorem quotient_any (x y : Val) (w : World) (htab : Tab w) (hx : x.right) (hy : y.right) (z : Val) (hz : quotV x y = z) :
    Calls Tryz.prog 80 #[VV x.kind x.mant x.exp x.text x.truth x.fault, VV y.kind y.mant y.exp y.text y.truth y.fault] w fun e w' => e = .returned (VV z.kind z.mant z.exp z.text z.truth z.fault) ∧ Ext w w' := by
  have hnb := fun W => numbers_any x y W hx hy
  have HT := Lib.hid htab
  clear htab
  by_cases h1 : tnF x = 0
  · by_cases h2 : tnF y = 0
    · have hnv : nbV x y = .tuple #[NV (tnP x).1 (tnP x).2, NV (tnP y).1 (tnP y).2, .int .i64 0] := by unfold nbV; simp [h1, h2]
      rw [hnv] at hnb
      have rx := tn_rt hx
      have ry := tn_rt hy
      by_cases h0 : (tnP y).1 = 0
      · obtain rfl : z = badV 1 := by rw [← hz]; unfold quotV; simp [h1, h2, h0]
        have hbad := fun W => bad_any 1 W
        rw [show badF 1 = 1 by decide] at hbad
        have q1 : ((tnP y).1 == 0) = true := by simp [h0]
        simp only [badV]
        clear h1 h2 hnv hz hx hy rx ry h0
        generalize (tnP x).1 = a at *
        generalize (tnP x).2 = b at *
        generalize (tnP y).1 = c at *
        generalize (tnP y).2 = d at *
        generalize x.kind = xk at *; generalize x.mant = xm at *; generalize x.exp = xe at *; generalize x.text = xt at *; generalize x.truth = xb at *; generalize x.fault = xf at *
        generalize y.kind = yk at *; generalize y.mant = ym at *; generalize y.exp = ye at *; generalize y.text = yt at *; generalize y.truth = yb at *; generalize y.fault = yf at *
        go_enter Tryz.func80, Tryz.ntmps80
        go_wp2_with (first | (go_at_call 109; (with_reducible refine (hnb _).mono ?_); rintro e w' ⟨rfl, hb⟩; obtain ⟨os, d, rfl⟩ := hb.more; clear hb) | (go_at_call 74; (with_reducible refine (hbad _).mono ?_); rintro e w' ⟨rfl, hb⟩; obtain ⟨os, d, rfl⟩ := hb.more; clear hb))
        exact bodyPost_ret (v := VV 4 0 0 ⟨#[]⟩ false 1) (by simp [results, Tryz.results80, go_sem]) rfl ⟨rfl, by with_reducible repeat (first | exact Ext.refl _ | apply Ext.drew | apply Ext.alloc | apply Ext.more_)⟩
      · have hzz : z = numRes (divS (tnP x).1 (tnP x).2 (tnP y).1 (tnP y).2) := by rw [← hz]; unfold quotV; simp [h1, h2, h0]
        have hfn := fun W hW => fn_div (tnP x).1 (tnP x).2 (tnP y).1 (tnP y).2 W hW (Rt_i64 rx).1 (Rt_i64 ry).1
        have htd := fun W => oper_told_any (divS (tnP x).1 (tnP x).2 (tnP y).1 (tnP y).2) W
        rw [← hzz] at htd
        have q1 : ((tnP y).1 == 0) = false := by simp [h0]
        clear h1 h2 hnv hz hx hy rx ry h0 hzz
        generalize divS (tnP x).1 (tnP x).2 (tnP y).1 (tnP y).2 = R at *
        generalize (tnP x).1 = a at *
        generalize (tnP x).2 = b at *
        generalize (tnP y).1 = c at *
        generalize (tnP y).2 = d at *
        simp only [rnV] at hfn
        generalize x.kind = xk at *; generalize x.mant = xm at *; generalize x.exp = xe at *; generalize x.text = xt at *; generalize x.truth = xb at *; generalize x.fault = xf at *
        generalize y.kind = yk at *; generalize y.mant = ym at *; generalize y.exp = ye at *; generalize y.text = yt at *; generalize y.truth = yb at *; generalize y.fault = yf at *
        generalize z.kind = zk at *; generalize z.mant = zm at *; generalize z.exp = ze at *; generalize z.text = zt at *; generalize z.truth = zb at *; generalize z.fault = zf at *
        go_enter Tryz.func80, Tryz.ntmps80
        go_wp2_with (first | (go_at_call 109; (with_reducible refine (hnb _).mono ?_); rintro e w' ⟨rfl, hb⟩; obtain ⟨os, d, rfl⟩ := hb.more; clear hb) | (go_at_call 60; (with_reducible refine (hfn _ (HT.out.ext (by with_reducible repeat (first | exact Ext.refl _ | apply Ext.drew | apply Ext.alloc | apply Ext.more_)))).mono ?_); rintro e w' ⟨rfl, hb⟩; obtain ⟨os, d, rfl⟩ := hb.more; clear hb) | (go_at_call 110; (with_reducible refine (htd _).mono ?_); rintro e w' ⟨rfl, hb⟩; obtain ⟨os, d, rfl⟩ := hb.more; clear hb))
        exact bodyPost_ret (v := VV zk zm ze zt zb zf) (by simp [results, Tryz.results80, go_sem]) rfl ⟨rfl, by with_reducible repeat (first | exact Ext.refl _ | apply Ext.drew | apply Ext.alloc | apply Ext.more_)⟩
    · have hnv : nbV x y = .tuple #[NV 0 0, NV 0 0, .int .i64 (tnF y)] := by unfold nbV; simp [h1, h2]
      rw [hnv] at hnb
      obtain rfl : z = bad_ (tnF y) := by rw [← hz]; unfold quotV; simp [h1, h2]
      have h1' := h1
      clear h1
      have h1 : tnF y ≠ 0 := h2
      have hbad := fun W => bad_any (tnF y) W
      have q0 : (tnF y != 0) = true := by simpa using h1
      generalize tnF y = f at *
      simp only [bad_, badV]
      clear h1 h1' h2 hnv hz hx hy
      generalize x.kind = xk at *; generalize x.mant = xm at *; generalize x.exp = xe at *; generalize x.text = xt at *; generalize x.truth = xb at *; generalize x.fault = xf at *
      generalize y.kind = yk at *; generalize y.mant = ym at *; generalize y.exp = ye at *; generalize y.text = yt at *; generalize y.truth = yb at *; generalize y.fault = yf at *
      go_enter Tryz.func80, Tryz.ntmps80
      go_wp2_with (first | (go_at_call 109; (with_reducible refine (hnb _).mono ?_); rintro e w' ⟨rfl, hb⟩; obtain ⟨os, d, rfl⟩ := hb.more; clear hb) | (go_at_call 74; (with_reducible refine (hbad _).mono ?_); rintro e w' ⟨rfl, hb⟩; obtain ⟨os, d, rfl⟩ := hb.more; clear hb))
      exact bodyPost_ret (v := VV 4 0 0 ⟨#[]⟩ false (badF f)) (by simp [results, Tryz.results80, go_sem]) rfl ⟨rfl, by with_reducible repeat (first | exact Ext.refl _ | apply Ext.drew | apply Ext.alloc | apply Ext.more_)⟩
  · have hnv : nbV x y = .tuple #[NV 0 0, NV 0 0, .int .i64 (tnF x)] := by unfold nbV; simp [h1]
    rw [hnv] at hnb
    obtain rfl : z = bad_ (tnF x) := by rw [← hz]; unfold quotV; simp [h1]
    have hbad := fun W => bad_any (tnF x) W
    have q0 : (tnF x != 0) = true := by simpa using h1
    generalize tnF x = f at *
    simp only [bad_, badV]
    clear h1 hnv hz hx hy
    generalize x.kind = xk at *; generalize x.mant = xm at *; generalize x.exp = xe at *; generalize x.text = xt at *; generalize x.truth = xb at *; generalize x.fault = xf at *
    generalize y.kind = yk at *; generalize y.mant = ym at *; generalize y.exp = ye at *; generalize y.text = yt at *; generalize y.truth = yb at *; generalize y.fault = yf at *
    go_enter Tryz.func80, Tryz.ntmps80
    go_wp2_with (first | (go_at_call 109; (with_reducible refine (hnb _).mono ?_); rintro e w' ⟨rfl, hb⟩; obtain ⟨os, d, rfl⟩ := hb.more; clear hb) | (go_at_call 74; (with_reducible refine (hbad _).mono ?_); rintro e w' ⟨rfl, hb⟩; obtain ⟨os, d, rfl⟩ := hb.more; clear hb))
    exact bodyPost_ret (v := VV 4 0 0 ⟨#[]⟩ false (badF f)) (by simp [results, Tryz.results80, go_sem]) rfl ⟨rfl, by with_reducible repeat (first | exact Ext.refl _ | apply Ext.drew | apply Ext.alloc | apply Ext.more_)⟩
theorem intGo_i64 : ∀ (k : Nat) (n m : Int), I64 n → intGo n k = some m → I64 m
  | 0, n, m, h, e => by cases e; exact h
  | k + 1, n, m, h, e => by
    unfold intGo at e
    split at e
    · cases e
    · exact intGo_i64 k (n * 10) m (by unfold I64; omega) e
theorem intS_i64 {m e n : Int} (h : intS m e = some n) : I64 n := by
  unfold intS at h
  split at h
  · cases h
  · rename_i h1
    refine intGo_i64 _ m n ?_ h
    have : Rt m e := Decidable.byContradiction fun h2 => h1 (Or.inl h2)
    exact (Rt_i64 this).1
set_option maxHeartbeats 1000000 in
theorem power_op_any (x y : Val) (w : World) (htab : Tab w) (hx : x.right) (hy : y.right) (z : Val) (hz : powV x y = z) :
    Calls Tryz.prog 81 #[VV x.kind x.mant x.exp x.text x.truth x.fault, VV y.kind y.mant y.exp y.text y.truth y.fault] w fun e w' => e = .returned (VV z.kind z.mant z.exp z.text z.truth z.fault) ∧ Ext w w' := by
  have hnb := fun W => numbers_any x y W hx hy
  have HT := Lib.hid htab
  clear htab
  by_cases h1 : tnF x = 0
  · by_cases h2 : tnF y = 0
    · have hnv : nbV x y = .tuple #[NV (tnP x).1 (tnP x).2, NV (tnP y).1 (tnP y).2, .int .i64 0] := by unfold nbV; simp [h1, h2]
      rw [hnv] at hnb
      have rx := tn_rt hx
      have ry := tn_rt hy
      have hfl := fun W => floor_any (tnP y).1 (tnP y).2 W (Rt_i64 ry).1
      have hbad5 := fun W => bad_any 5 W
      rw [show badF 5 = 5 by decide] at hbad5
      by_cases h0 : floorS (tnP y).1 (tnP y).2 = tnP y
      · rw [h0] at hfl
        by_cases h3 : (tnP x).1 = 0 ∧ (tnP y).1 < 0
        · obtain rfl : z = badV 1 := by rw [← hz]; unfold powV; simp [h1, h2, h0, h3]
          have hbad := fun W => bad_any 1 W
          rw [show badF 1 = 1 by decide] at hbad
          simp only [badV]
          obtain ⟨h3, h4⟩ := h3
          have q1 : ((tnP x).1 == 0) = true := by simp [h3]
          clear h1 h2 hnv hz hx hy rx ry h0 h3
          generalize (tnP x).1 = a at *
          generalize (tnP x).2 = b at *
          generalize (tnP y).1 = c at *
          generalize (tnP y).2 = d at *
          generalize x.kind = xk at *; generalize x.mant = xm at *; generalize x.exp = xe at *; generalize x.text = xt at *; generalize x.truth = xb at *; generalize x.fault = xf at *
          generalize y.kind = yk at *; generalize y.mant = ym at *; generalize y.exp = ye at *; generalize y.text = yt at *; generalize y.truth = yb at *; generalize y.fault = yf at *
          go_enter Tryz.func81, Tryz.ntmps81
          go_upto_region 4 with (go_at_call 109; (with_reducible refine (hnb _).mono ?_); rintro e w' ⟨rfl, hb⟩; obtain ⟨os, d, rfl⟩ := hb.more; clear hb)
          refine wp_plan (S := Ext _) [(0, 0), (2, 0), (1, 1), (3, 0), (4, 0)] [] (by kernel_rfl) (by kernel_rfl) (by kernel_rfl) (fun _ _ d _ _ h => by cases d <;> exact h) (Ext.drew (Ext.refl _)) ?_
          iterate 2 ((refine wpPl_read (v := ?_) rfl ?_ (fun _ h => ?_) ?_; rotate_left 1; rfl; (obtain ⟨_, _, rfl⟩ := h.more; go_simp; try rfl)); try simp only [Act.put, zqA, zqB, zqC])
          (refine wpPl_eff rfl ?_ (fun K hK => ?_); rfl; go_simp; refine (hfl _).mono ?_; rintro e w' ⟨rfl, hb⟩; obtain ⟨os4, d4, rfl⟩ := hb.more; clear hb; refine hK _ _ ?_ ?_; (repeat (first | (with_reducible (first | exact Ext.refl _ | exact ext_d _ _ _ _ | exact ext_app _ _ _ _ _ | exact ext_app2 _ _ _ _ _ _ | exact ext_app3 _ _ _ _ _ _ _ | exact ext_app4 _ _ _ _ _ _ _ _ | exact ext_app5 _ _ _ _ _ _ _ _ _)) | ((with_reducible refine ext_suffix ⟨_, ?_⟩); (try simp only [Array.append_assoc]); rfl) | (with_reducible (first | apply Ext.drew | apply Ext.alloc | apply Ext.more_)) | apply Ext.drew | apply Ext.alloc | apply Ext.more_)))
          try simp only [Act.put, zqA, zqB, zqC]
          iterate 2 ((refine wpPl_read (v := ?_) rfl ?_ (fun _ h => ?_) ?_; rotate_left 1; rfl; (obtain ⟨_, _, rfl⟩ := h.more; go_simp; try rfl)); try simp only [Act.put, zqA, zqB, zqC])
          refine wpPl_nil ?_
          go_wp2_with (go_at_call 74; (with_reducible refine (hbad _).mono ?_); rintro e w' ⟨rfl, hb⟩; obtain ⟨os, d, rfl⟩ := hb.more; clear hb)
          exact bodyPost_ret (v := VV 4 0 0 ⟨#[]⟩ false 1) (by simp [results, Tryz.results81, go_sem]) rfl ⟨rfl, by with_reducible repeat (first | exact Ext.refl _ | apply Ext.drew | apply Ext.alloc | apply Ext.more_)⟩
        · have hin := fun W => int_any (tnP y).1 (tnP y).2 W (Rt_i64 ry).1
          have q2 : ((tnP x).1 == 0) = false ∨ ((tnP x).1 == 0) = true ∧ ¬ (tnP y).1 < 0 := by
            by_cases h4 : (tnP x).1 = 0
            · exact Or.inr ⟨by simp [h4], fun h => h3 ⟨h4, h⟩⟩
            · exact Or.inl (by simp [h4])
          cases hI : intS (tnP y).1 (tnP y).2 with
          | none =>
            obtain rfl : z = badV 5 := by rw [← hz]; unfold powV; simp [h1, h2, h0, h3, hI]
            rw [hI] at hin
            simp only [inV, Option.getD_none, Option.isSome_none] at hin
            simp only [badV]
            clear h1 h2 hnv hz hx hy rx ry h0 h3 hI
            generalize (tnP x).1 = a at *
            generalize (tnP x).2 = b at *
            generalize (tnP y).1 = c at *
            generalize (tnP y).2 = d at *
            generalize x.kind = xk at *; generalize x.mant = xm at *; generalize x.exp = xe at *; generalize x.text = xt at *; generalize x.truth = xb at *; generalize x.fault = xf at *
            generalize y.kind = yk at *; generalize y.mant = ym at *; generalize y.exp = ye at *; generalize y.text = yt at *; generalize y.truth = yb at *; generalize y.fault = yf at *
            rcases q2 with q2 | ⟨q2, q3⟩
            · go_enter Tryz.func81, Tryz.ntmps81
              go_upto_region 4 with (go_at_call 109; (with_reducible refine (hnb _).mono ?_); rintro e w' ⟨rfl, hb⟩; obtain ⟨os, d, rfl⟩ := hb.more; clear hb)
              refine wp_plan (S := Ext _) [(0, 0), (2, 0), (1, 1), (3, 0), (4, 0)] [] (by kernel_rfl) (by kernel_rfl) (by kernel_rfl) (fun _ _ d _ _ h => by cases d <;> exact h) (Ext.drew (Ext.refl _)) ?_
              iterate 2 ((refine wpPl_read (v := ?_) rfl ?_ (fun _ h => ?_) ?_; rotate_left 1; rfl; (obtain ⟨_, _, rfl⟩ := h.more; go_simp; try rfl)); try simp only [Act.put, zqA, zqB, zqC])
              (refine wpPl_eff rfl ?_ (fun K hK => ?_); rfl; go_simp; refine (hfl _).mono ?_; rintro e w' ⟨rfl, hb⟩; obtain ⟨os4, d4, rfl⟩ := hb.more; clear hb; refine hK _ _ ?_ ?_; (repeat (first | (with_reducible (first | exact Ext.refl _ | exact ext_d _ _ _ _ | exact ext_app _ _ _ _ _ | exact ext_app2 _ _ _ _ _ _ | exact ext_app3 _ _ _ _ _ _ _ | exact ext_app4 _ _ _ _ _ _ _ _ | exact ext_app5 _ _ _ _ _ _ _ _ _)) | ((with_reducible refine ext_suffix ⟨_, ?_⟩); (try simp only [Array.append_assoc]); rfl) | (with_reducible (first | apply Ext.drew | apply Ext.alloc | apply Ext.more_)) | apply Ext.drew | apply Ext.alloc | apply Ext.more_)))
              try simp only [Act.put, zqA, zqB, zqC]
              iterate 2 ((refine wpPl_read (v := ?_) rfl ?_ (fun _ h => ?_) ?_; rotate_left 1; rfl; (obtain ⟨_, _, rfl⟩ := h.more; go_simp; try rfl)); try simp only [Act.put, zqA, zqB, zqC])
              refine wpPl_nil ?_
              go_wp2_with (first | (go_at_call 74; (with_reducible refine (hbad5 _).mono ?_); rintro e w' ⟨rfl, hb⟩; obtain ⟨os, d, rfl⟩ := hb.more; clear hb) | (go_at_call 139; (with_reducible refine (hin _).mono ?_); rintro e w' ⟨rfl, hb⟩; obtain ⟨os, d, rfl⟩ := hb.more; clear hb))
              exact bodyPost_ret (v := VV 4 0 0 ⟨#[]⟩ false 5) (by simp [results, Tryz.results81, go_sem]) rfl ⟨rfl, by with_reducible repeat (first | exact Ext.refl _ | apply Ext.drew | apply Ext.alloc | apply Ext.more_)⟩
            · go_enter Tryz.func81, Tryz.ntmps81
              go_upto_region 4 with (go_at_call 109; (with_reducible refine (hnb _).mono ?_); rintro e w' ⟨rfl, hb⟩; obtain ⟨os, d, rfl⟩ := hb.more; clear hb)
              refine wp_plan (S := Ext _) [(0, 0), (2, 0), (1, 1), (3, 0), (4, 0)] [] (by kernel_rfl) (by kernel_rfl) (by kernel_rfl) (fun _ _ d _ _ h => by cases d <;> exact h) (Ext.drew (Ext.refl _)) ?_
              iterate 2 ((refine wpPl_read (v := ?_) rfl ?_ (fun _ h => ?_) ?_; rotate_left 1; rfl; (obtain ⟨_, _, rfl⟩ := h.more; go_simp; try rfl)); try simp only [Act.put, zqA, zqB, zqC])
              (refine wpPl_eff rfl ?_ (fun K hK => ?_); rfl; go_simp; refine (hfl _).mono ?_; rintro e w' ⟨rfl, hb⟩; obtain ⟨os4, d4, rfl⟩ := hb.more; clear hb; refine hK _ _ ?_ ?_; (repeat (first | (with_reducible (first | exact Ext.refl _ | exact ext_d _ _ _ _ | exact ext_app _ _ _ _ _ | exact ext_app2 _ _ _ _ _ _ | exact ext_app3 _ _ _ _ _ _ _ | exact ext_app4 _ _ _ _ _ _ _ _ | exact ext_app5 _ _ _ _ _ _ _ _ _)) | ((with_reducible refine ext_suffix ⟨_, ?_⟩); (try simp only [Array.append_assoc]); rfl) | (with_reducible (first | apply Ext.drew | apply Ext.alloc | apply Ext.more_)) | apply Ext.drew | apply Ext.alloc | apply Ext.more_)))
              try simp only [Act.put, zqA, zqB, zqC]
              iterate 2 ((refine wpPl_read (v := ?_) rfl ?_ (fun _ h => ?_) ?_; rotate_left 1; rfl; (obtain ⟨_, _, rfl⟩ := h.more; go_simp; try rfl)); try simp only [Act.put, zqA, zqB, zqC])
              refine wpPl_nil ?_
              go_wp2_with (first | (go_at_call 74; (with_reducible refine (hbad5 _).mono ?_); rintro e w' ⟨rfl, hb⟩; obtain ⟨os, d, rfl⟩ := hb.more; clear hb) | (go_at_call 139; (with_reducible refine (hin _).mono ?_); rintro e w' ⟨rfl, hb⟩; obtain ⟨os, d, rfl⟩ := hb.more; clear hb))
              exact bodyPost_ret (v := VV 4 0 0 ⟨#[]⟩ false 5) (by simp [results, Tryz.results81, go_sem]) rfl ⟨rfl, by with_reducible repeat (first | exact Ext.refl _ | apply Ext.drew | apply Ext.alloc | apply Ext.more_)⟩
          | some n =>
            have hzz : z = numRes (powS (tnP x).1 (tnP x).2 n) := by rw [← hz]; unfold powV; simp [h1, h2, h0, h3, hI]
            rw [hI] at hin
            simp only [inV, Option.getD_some, Option.isSome_some] at hin
            have hn : I64 n := intS_i64 hI
            have hfn := fun W hW => pow_any (tnP x).1 (tnP x).2 n W hW (Rt_i64 rx).1 hn
            have htd := fun W => oper_told_any (powS (tnP x).1 (tnP x).2 n) W
            rw [← hzz] at htd
            clear h1 h2 hnv hz hx hy rx ry h0 h3 hI hzz hn
            generalize powS (tnP x).1 (tnP x).2 n = R at *
            simp only [rnV] at hfn
            generalize (tnP x).1 = a at *
            generalize (tnP x).2 = b at *
            generalize (tnP y).1 = c at *
            generalize (tnP y).2 = d at *
            generalize x.kind = xk at *; generalize x.mant = xm at *; generalize x.exp = xe at *; generalize x.text = xt at *; generalize x.truth = xb at *; generalize x.fault = xf at *
            generalize y.kind = yk at *; generalize y.mant = ym at *; generalize y.exp = ye at *; generalize y.text = yt at *; generalize y.truth = yb at *; generalize y.fault = yf at *
            generalize z.kind = zk at *; generalize z.mant = zm at *; generalize z.exp = ze at *; generalize z.text = zt at *; generalize z.truth = zb at *; generalize z.fault = zf at *
            rcases q2 with q2 | ⟨q2, q3⟩
            · go_enter Tryz.func81, Tryz.ntmps81
              go_upto_region 4 with (go_at_call 109; (with_reducible refine (hnb _).mono ?_); rintro e w' ⟨rfl, hb⟩; obtain ⟨os, d, rfl⟩ := hb.more; clear hb)
              refine wp_plan (S := Ext _) [(0, 0), (2, 0), (1, 1), (3, 0), (4, 0)] [] (by kernel_rfl) (by kernel_rfl) (by kernel_rfl) (fun _ _ d _ _ h => by cases d <;> exact h) (Ext.drew (Ext.refl _)) ?_
              iterate 2 ((refine wpPl_read (v := ?_) rfl ?_ (fun _ h => ?_) ?_; rotate_left 1; rfl; (obtain ⟨_, _, rfl⟩ := h.more; go_simp; try rfl)); try simp only [Act.put, zqA, zqB, zqC])
              (refine wpPl_eff rfl ?_ (fun K hK => ?_); rfl; go_simp; refine (hfl _).mono ?_; rintro e w' ⟨rfl, hb⟩; obtain ⟨os4, d4, rfl⟩ := hb.more; clear hb; refine hK _ _ ?_ ?_; (repeat (first | (with_reducible (first | exact Ext.refl _ | exact ext_d _ _ _ _ | exact ext_app _ _ _ _ _ | exact ext_app2 _ _ _ _ _ _ | exact ext_app3 _ _ _ _ _ _ _ | exact ext_app4 _ _ _ _ _ _ _ _ | exact ext_app5 _ _ _ _ _ _ _ _ _)) | ((with_reducible refine ext_suffix ⟨_, ?_⟩); (try simp only [Array.append_assoc]); rfl) | (with_reducible (first | apply Ext.drew | apply Ext.alloc | apply Ext.more_)) | apply Ext.drew | apply Ext.alloc | apply Ext.more_)))
              try simp only [Act.put, zqA, zqB, zqC]
              iterate 2 ((refine wpPl_read (v := ?_) rfl ?_ (fun _ h => ?_) ?_; rotate_left 1; rfl; (obtain ⟨_, _, rfl⟩ := h.more; go_simp; try rfl)); try simp only [Act.put, zqA, zqB, zqC])
              refine wpPl_nil ?_
              go_wp2_with (first | (go_at_call 139; (with_reducible refine (hin _).mono ?_); rintro e w' ⟨rfl, hb⟩; obtain ⟨os, d, rfl⟩ := hb.more; clear hb) | (go_at_call 140; (with_reducible refine (hfn _ (HT.out.ext (by with_reducible repeat (first | exact Ext.refl _ | apply Ext.drew | apply Ext.alloc | apply Ext.more_)))).mono ?_); rintro e w' ⟨rfl, hb⟩; obtain ⟨os, d, rfl⟩ := hb.more; clear hb) | (go_at_call 110; (with_reducible refine (htd _).mono ?_); rintro e w' ⟨rfl, hb⟩; obtain ⟨os, d, rfl⟩ := hb.more; clear hb))
              exact bodyPost_ret (v := VV zk zm ze zt zb zf) (by simp [results, Tryz.results81, go_sem]) rfl ⟨rfl, by with_reducible repeat (first | exact Ext.refl _ | apply Ext.drew | apply Ext.alloc | apply Ext.more_)⟩
            · go_enter Tryz.func81, Tryz.ntmps81
              go_upto_region 4 with (go_at_call 109; (with_reducible refine (hnb _).mono ?_); rintro e w' ⟨rfl, hb⟩; obtain ⟨os, d, rfl⟩ := hb.more; clear hb)
              refine wp_plan (S := Ext _) [(0, 0), (2, 0), (1, 1), (3, 0), (4, 0)] [] (by kernel_rfl) (by kernel_rfl) (by kernel_rfl) (fun _ _ d _ _ h => by cases d <;> exact h) (Ext.drew (Ext.refl _)) ?_
              iterate 2 ((refine wpPl_read (v := ?_) rfl ?_ (fun _ h => ?_) ?_; rotate_left 1; rfl; (obtain ⟨_, _, rfl⟩ := h.more; go_simp; try rfl)); try simp only [Act.put, zqA, zqB, zqC])
              (refine wpPl_eff rfl ?_ (fun K hK => ?_); rfl; go_simp; refine (hfl _).mono ?_; rintro e w' ⟨rfl, hb⟩; obtain ⟨os4, d4, rfl⟩ := hb.more; clear hb; refine hK _ _ ?_ ?_; (repeat (first | (with_reducible (first | exact Ext.refl _ | exact ext_d _ _ _ _ | exact ext_app _ _ _ _ _ | exact ext_app2 _ _ _ _ _ _ | exact ext_app3 _ _ _ _ _ _ _ | exact ext_app4 _ _ _ _ _ _ _ _ | exact ext_app5 _ _ _ _ _ _ _ _ _)) | ((with_reducible refine ext_suffix ⟨_, ?_⟩); (try simp only [Array.append_assoc]); rfl) | (with_reducible (first | apply Ext.drew | apply Ext.alloc | apply Ext.more_)) | apply Ext.drew | apply Ext.alloc | apply Ext.more_)))
              try simp only [Act.put, zqA, zqB, zqC]
              iterate 2 ((refine wpPl_read (v := ?_) rfl ?_ (fun _ h => ?_) ?_; rotate_left 1; rfl; (obtain ⟨_, _, rfl⟩ := h.more; go_simp; try rfl)); try simp only [Act.put, zqA, zqB, zqC])
              refine wpPl_nil ?_
              go_wp2_with (first | (go_at_call 139; (with_reducible refine (hin _).mono ?_); rintro e w' ⟨rfl, hb⟩; obtain ⟨os, d, rfl⟩ := hb.more; clear hb) | (go_at_call 140; (with_reducible refine (hfn _ (HT.out.ext (by with_reducible repeat (first | exact Ext.refl _ | apply Ext.drew | apply Ext.alloc | apply Ext.more_)))).mono ?_); rintro e w' ⟨rfl, hb⟩; obtain ⟨os, d, rfl⟩ := hb.more; clear hb) | (go_at_call 110; (with_reducible refine (htd _).mono ?_); rintro e w' ⟨rfl, hb⟩; obtain ⟨os, d, rfl⟩ := hb.more; clear hb))
              exact bodyPost_ret (v := VV zk zm ze zt zb zf) (by simp [results, Tryz.results81, go_sem]) rfl ⟨rfl, by with_reducible repeat (first | exact Ext.refl _ | apply Ext.drew | apply Ext.alloc | apply Ext.more_)⟩
      · obtain rfl : z = badV 5 := by rw [← hz]; unfold powV; simp [h1, h2, h0]
        simp only [badV]
        have hne : ¬ ((floorS (tnP y).1 (tnP y).2).1 = (tnP y).1 ∧ (floorS (tnP y).1 (tnP y).2).2 = (tnP y).2) := fun h => h0 (Prod.ext h.1 h.2)
        generalize (floorS (tnP y).1 (tnP y).2).1 = u at *
        generalize (floorS (tnP y).1 (tnP y).2).2 = v at *
        clear h1 h2 hnv hz hx hy rx ry h0
        generalize (tnP x).1 = a at *
        generalize (tnP x).2 = b at *
        generalize (tnP y).1 = c at *
        generalize (tnP y).2 = d at *
        generalize x.kind = xk at *; generalize x.mant = xm at *; generalize x.exp = xe at *; generalize x.text = xt at *; generalize x.truth = xb at *; generalize x.fault = xf at *
        generalize y.kind = yk at *; generalize y.mant = ym at *; generalize y.exp = ye at *; generalize y.text = yt at *; generalize y.truth = yb at *; generalize y.fault = yf at *
        by_cases hu : u = c
        · have hv : ¬ v = d := fun h => hne ⟨hu, h⟩
          subst hu
          clear hne
          go_enter Tryz.func81, Tryz.ntmps81
          go_upto_region 4 with (go_at_call 109; (with_reducible refine (hnb _).mono ?_); rintro e w' ⟨rfl, hb⟩; obtain ⟨os, d, rfl⟩ := hb.more; clear hb)
          refine wp_plan (S := Ext _) [(0, 0), (2, 0), (1, 1), (3, 0), (4, 0)] [] (by kernel_rfl) (by kernel_rfl) (by kernel_rfl) (fun _ _ d _ _ h => by cases d <;> exact h) (Ext.drew (Ext.refl _)) ?_
          iterate 2 ((refine wpPl_read (v := ?_) rfl ?_ (fun _ h => ?_) ?_; rotate_left 1; rfl; (obtain ⟨_, _, rfl⟩ := h.more; go_simp; try rfl)); try simp only [Act.put, zqA, zqB, zqC])
          (refine wpPl_eff rfl ?_ (fun K hK => ?_); rfl; go_simp; refine (hfl _).mono ?_; rintro e w' ⟨rfl, hb⟩; obtain ⟨os4, d4, rfl⟩ := hb.more; clear hb; refine hK _ _ ?_ ?_; (repeat (first | (with_reducible (first | exact Ext.refl _ | exact ext_d _ _ _ _ | exact ext_app _ _ _ _ _ | exact ext_app2 _ _ _ _ _ _ | exact ext_app3 _ _ _ _ _ _ _ | exact ext_app4 _ _ _ _ _ _ _ _ | exact ext_app5 _ _ _ _ _ _ _ _ _)) | ((with_reducible refine ext_suffix ⟨_, ?_⟩); (try simp only [Array.append_assoc]); rfl) | (with_reducible (first | apply Ext.drew | apply Ext.alloc | apply Ext.more_)) | apply Ext.drew | apply Ext.alloc | apply Ext.more_)))
          try simp only [Act.put, zqA, zqB, zqC]
          iterate 2 ((refine wpPl_read (v := ?_) rfl ?_ (fun _ h => ?_) ?_; rotate_left 1; rfl; (obtain ⟨_, _, rfl⟩ := h.more; go_simp; try rfl)); try simp only [Act.put, zqA, zqB, zqC])
          refine wpPl_nil ?_
          go_wp2_with (go_at_call 74; (with_reducible refine (hbad5 _).mono ?_); rintro e w' ⟨rfl, hb⟩; obtain ⟨os, d, rfl⟩ := hb.more; clear hb)
          exact bodyPost_ret (v := VV 4 0 0 ⟨#[]⟩ false 5) (by simp [results, Tryz.results81, go_sem]) rfl ⟨rfl, by with_reducible repeat (first | exact Ext.refl _ | apply Ext.drew | apply Ext.alloc | apply Ext.more_)⟩
        · clear hne
          go_enter Tryz.func81, Tryz.ntmps81
          go_upto_region 4 with (go_at_call 109; (with_reducible refine (hnb _).mono ?_); rintro e w' ⟨rfl, hb⟩; obtain ⟨os, d, rfl⟩ := hb.more; clear hb)
          refine wp_plan (S := Ext _) [(0, 0), (2, 0), (1, 1), (3, 0), (4, 0)] [] (by kernel_rfl) (by kernel_rfl) (by kernel_rfl) (fun _ _ d _ _ h => by cases d <;> exact h) (Ext.drew (Ext.refl _)) ?_
          iterate 2 ((refine wpPl_read (v := ?_) rfl ?_ (fun _ h => ?_) ?_; rotate_left 1; rfl; (obtain ⟨_, _, rfl⟩ := h.more; go_simp; try rfl)); try simp only [Act.put, zqA, zqB, zqC])
          (refine wpPl_eff rfl ?_ (fun K hK => ?_); rfl; go_simp; refine (hfl _).mono ?_; rintro e w' ⟨rfl, hb⟩; obtain ⟨os4, d4, rfl⟩ := hb.more; clear hb; refine hK _ _ ?_ ?_; (repeat (first | (with_reducible (first | exact Ext.refl _ | exact ext_d _ _ _ _ | exact ext_app _ _ _ _ _ | exact ext_app2 _ _ _ _ _ _ | exact ext_app3 _ _ _ _ _ _ _ | exact ext_app4 _ _ _ _ _ _ _ _ | exact ext_app5 _ _ _ _ _ _ _ _ _)) | ((with_reducible refine ext_suffix ⟨_, ?_⟩); (try simp only [Array.append_assoc]); rfl) | (with_reducible (first | apply Ext.drew | apply Ext.alloc | apply Ext.more_)) | apply Ext.drew | apply Ext.alloc | apply Ext.more_)))
          try simp only [Act.put, zqA, zqB, zqC]
          iterate 2 ((refine wpPl_read (v := ?_) rfl ?_ (fun _ h => ?_) ?_; rotate_left 1; rfl; (obtain ⟨_, _, rfl⟩ := h.more; go_simp; try rfl)); try simp only [Act.put, zqA, zqB, zqC])
          refine wpPl_nil ?_
          go_wp2_with (go_at_call 74; (with_reducible refine (hbad5 _).mono ?_); rintro e w' ⟨rfl, hb⟩; obtain ⟨os, d, rfl⟩ := hb.more; clear hb)
          exact bodyPost_ret (v := VV 4 0 0 ⟨#[]⟩ false 5) (by simp [results, Tryz.results81, go_sem]) rfl ⟨rfl, by with_reducible repeat (first | exact Ext.refl _ | apply Ext.drew | apply Ext.alloc | apply Ext.more_)⟩
      
    · have hnv : nbV x y = .tuple #[NV 0 0, NV 0 0, .int .i64 (tnF y)] := by unfold nbV; simp [h1, h2]
      rw [hnv] at hnb
      obtain rfl : z = bad_ (tnF y) := by rw [← hz]; unfold powV; simp [h1, h2]
      have h1' := h1
      clear h1
      have h1 : tnF y ≠ 0 := h2
      have hbad := fun W => bad_any (tnF y) W
      have q0 : (tnF y != 0) = true := by simpa using h1
      generalize tnF y = f at *
      simp only [bad_, badV]
      clear h1 h1' h2 hnv hz hx hy
      generalize x.kind = xk at *; generalize x.mant = xm at *; generalize x.exp = xe at *; generalize x.text = xt at *; generalize x.truth = xb at *; generalize x.fault = xf at *
      generalize y.kind = yk at *; generalize y.mant = ym at *; generalize y.exp = ye at *; generalize y.text = yt at *; generalize y.truth = yb at *; generalize y.fault = yf at *
      go_enter Tryz.func81, Tryz.ntmps81
      go_wp2_with (first | (go_at_call 109; (with_reducible refine (hnb _).mono ?_); rintro e w' ⟨rfl, hb⟩; obtain ⟨os, d, rfl⟩ := hb.more; clear hb) | (go_at_call 74; (with_reducible refine (hbad _).mono ?_); rintro e w' ⟨rfl, hb⟩; obtain ⟨os, d, rfl⟩ := hb.more; clear hb))
      exact bodyPost_ret (v := VV 4 0 0 ⟨#[]⟩ false (badF f)) (by simp [results, Tryz.results81, go_sem]) rfl ⟨rfl, by with_reducible repeat (first | exact Ext.refl _ | apply Ext.drew | apply Ext.alloc | apply Ext.more_)⟩
  · have hnv : nbV x y = .tuple #[NV 0 0, NV 0 0, .int .i64 (tnF x)] := by unfold nbV; simp [h1]
    rw [hnv] at hnb
    obtain rfl : z = bad_ (tnF x) := by rw [← hz]; unfold powV; simp [h1]
    have hbad := fun W => bad_any (tnF x) W
    have q0 : (tnF x != 0) = true := by simpa using h1
    generalize tnF x = f at *
    simp only [bad_, badV]
    clear h1 hnv hz hx hy
    generalize x.kind = xk at *; generalize x.mant = xm at *; generalize x.exp = xe at *; generalize x.text = xt at *; generalize x.truth = xb at *; generalize x.fault = xf at *
    generalize y.kind = yk at *; generalize y.mant = ym at *; generalize y.exp = ye at *; generalize y.text = yt at *; generalize y.truth = yb at *; generalize y.fault = yf at *
    go_enter Tryz.func81, Tryz.ntmps81
    go_wp2_with (first | (go_at_call 109; (with_reducible refine (hnb _).mono ?_); rintro e w' ⟨rfl, hb⟩; obtain ⟨os, d, rfl⟩ := hb.more; clear hb) | (go_at_call 74; (with_reducible refine (hbad _).mono ?_); rintro e w' ⟨rfl, hb⟩; obtain ⟨os, d, rfl⟩ := hb.more; clear hb))
    exact bodyPost_ret (v := VV 4 0 0 ⟨#[]⟩ false (badF f)) (by simp [results, Tryz.results81, go_sem]) rfl ⟨rfl, by with_reducible repeat (first | exact Ext.refl _ | apply Ext.drew | apply Ext.alloc | apply Ext.more_)⟩
theorem tt_size {x : Val} (h : x.right) : (ttS x).size ≤ 255 := by
  rcases h.form with rfl | ⟨m, e, rfl, hr⟩ | ⟨t, rfl, ht⟩ | ⟨b, rfl⟩ | ⟨f, rfl, hf⟩
  · exact Nat.zero_le _
  · show (textS m e).size ≤ 255
    have := textS_size hr
    omega
  · exact ht
  · cases b <;> decide
  · exact Nat.zero_le _
set_option maxHeartbeats 1000000 in
theorem joined_any (x y : Val) (w : World) (htab : Tab w) (hx : x.right) (hy : y.right) (z : Val) (hz : joinV x y = z) :
    Calls Tryz.prog 82 #[VV x.kind x.mant x.exp x.text x.truth x.fault, VV y.kind y.mant y.exp y.text y.truth y.fault] w fun e w' => e = .returned (VV z.kind z.mant z.exp z.text z.truth z.fault) ∧ Ext w w' := by
  have ht1 := fun W hW => toText_any x W hW hx
  have ht2 := fun W hW => toText_any y W hW hy
  simp only [ttV] at ht1 ht2
  have s1 := tt_size hx
  have s2 := tt_size hy
  have HT := Lib.hid htab
  clear htab
  by_cases h1 : ttF x = 0
  · by_cases h2 : ttF y = 0
    · have hzz : z = textV (ttS x ++ ttS y) := by rw [← hz]; unfold joinV; simp [h1, h2]
      rw [h1] at ht1
      rw [h2] at ht2
      have htx := fun W => text_any (ttS x ++ ttS y) W (by rw [ByteArray.size_append]; omega)
      have e1 : (textV (ttS x ++ ttS y)).mant = 0 ∧ (textV (ttS x ++ ttS y)).exp = 0 ∧ (textV (ttS x ++ ttS y)).truth = false := by
        unfold textV
        split <;> exact ⟨rfl, rfl, rfl⟩
      rw [← hzz] at htx e1
      obtain ⟨e1, e2, e3⟩ := e1
      rw [e1, e2, e3]
      generalize ttS x = tx at *
      generalize ttS y = ty at *
      clear h1 h2 hzz hz hx hy e1 e2 e3
      generalize z.kind = zk at *
      generalize z.text = zt at *
      generalize z.fault = zf at *
      generalize x.kind = xk at *; generalize x.mant = xm at *; generalize x.exp = xe at *; generalize x.text = xt at *; generalize x.truth = xb at *; generalize x.fault = xf at *
      generalize y.kind = yk at *; generalize y.mant = ym at *; generalize y.exp = ye at *; generalize y.text = yt at *; generalize y.truth = yb at *; generalize y.fault = yf at *
      go_enter Tryz.func82, Tryz.ntmps82
      go_wp2_with (first | (go_at_call 141; first | ((with_reducible refine (ht1 _ (HT.out.ext (by with_reducible repeat (first | exact Ext.refl _ | apply Ext.drew | apply Ext.alloc | apply Ext.more_)))).mono ?_); rintro e w' ⟨rfl, hb⟩; obtain ⟨os1, d1, rfl⟩ := hb.more; clear hb) | ((with_reducible refine (ht2 _ (HT.out.ext (by with_reducible repeat (first | exact Ext.refl _ | apply Ext.drew | apply Ext.alloc | apply Ext.more_)))).mono ?_); rintro e w' ⟨rfl, hb⟩; obtain ⟨os2, d2, rfl⟩ := hb.more; clear hb)) | (go_at_call 130; (with_reducible refine (htx _).mono ?_); rintro e w' ⟨rfl, hb⟩; obtain ⟨os, d, rfl⟩ := hb.more; clear hb))
      exact bodyPost_ret (v := VV zk 0 0 zt false zf) (by simp [results, Tryz.results82, go_sem]) rfl ⟨rfl, by with_reducible repeat (first | exact Ext.refl _ | apply Ext.drew | apply Ext.alloc | apply Ext.more_)⟩
    · obtain rfl : z = bad_ (ttF y) := by rw [← hz]; unfold joinV; simp [h1, h2]
      rw [h1] at ht1
      clear h1
      have h1 : ttF y ≠ 0 := h2
      have hbad := fun W => bad_any (ttF y) W
      have q0 : (ttF y != 0) = true := by simpa using h1
      generalize ttF y = f at *
      generalize ttS x = tx at *
      generalize ttS y = ty at *
      simp only [bad_, badV]
      clear h1 h2 hz hx hy
      generalize x.kind = xk at *; generalize x.mant = xm at *; generalize x.exp = xe at *; generalize x.text = xt at *; generalize x.truth = xb at *; generalize x.fault = xf at *
      generalize y.kind = yk at *; generalize y.mant = ym at *; generalize y.exp = ye at *; generalize y.text = yt at *; generalize y.truth = yb at *; generalize y.fault = yf at *
      go_enter Tryz.func82, Tryz.ntmps82
      go_wp2_with (first | (go_at_call 141; first | ((with_reducible refine (ht1 _ (HT.out.ext (by with_reducible repeat (first | exact Ext.refl _ | apply Ext.drew | apply Ext.alloc | apply Ext.more_)))).mono ?_); rintro e w' ⟨rfl, hb⟩; obtain ⟨os1, d1, rfl⟩ := hb.more; clear hb) | ((with_reducible refine (ht2 _ (HT.out.ext (by with_reducible repeat (first | exact Ext.refl _ | apply Ext.drew | apply Ext.alloc | apply Ext.more_)))).mono ?_); rintro e w' ⟨rfl, hb⟩; obtain ⟨os2, d2, rfl⟩ := hb.more; clear hb)) | (go_at_call 74; (with_reducible refine (hbad _).mono ?_); rintro e w' ⟨rfl, hb⟩; obtain ⟨os, d, rfl⟩ := hb.more; clear hb))
      exact bodyPost_ret (v := VV 4 0 0 ⟨#[]⟩ false (badF f)) (by simp [results, Tryz.results82, go_sem]) rfl ⟨rfl, by with_reducible repeat (first | exact Ext.refl _ | apply Ext.drew | apply Ext.alloc | apply Ext.more_)⟩
  · obtain rfl : z = bad_ (ttF x) := by rw [← hz]; unfold joinV; simp [h1]
    have hbad := fun W => bad_any (ttF x) W
    have q0 : (ttF x != 0) = true := by simpa using h1
    generalize ttF x = f at *
    generalize ttS x = tx at *
    generalize ttS y = ty at *
    simp only [bad_, badV]
    clear h1 hz hx hy
    generalize x.kind = xk at *; generalize x.mant = xm at *; generalize x.exp = xe at *; generalize x.text = xt at *; generalize x.truth = xb at *; generalize x.fault = xf at *
    generalize y.kind = yk at *; generalize y.mant = ym at *; generalize y.exp = ye at *; generalize y.text = yt at *; generalize y.truth = yb at *; generalize y.fault = yf at *
    go_enter Tryz.func82, Tryz.ntmps82
    go_wp2_with (first | (go_at_call 141; first | ((with_reducible refine (ht1 _ (HT.out.ext (by with_reducible repeat (first | exact Ext.refl _ | apply Ext.drew | apply Ext.alloc | apply Ext.more_)))).mono ?_); rintro e w' ⟨rfl, hb⟩; obtain ⟨os1, d1, rfl⟩ := hb.more; clear hb) | ((with_reducible refine (ht2 _ (HT.out.ext (by with_reducible repeat (first | exact Ext.refl _ | apply Ext.drew | apply Ext.alloc | apply Ext.more_)))).mono ?_); rintro e w' ⟨rfl, hb⟩; obtain ⟨os2, d2, rfl⟩ := hb.more; clear hb)) | (go_at_call 74; (with_reducible refine (hbad _).mono ?_); rintro e w' ⟨rfl, hb⟩; obtain ⟨os, d, rfl⟩ := hb.more; clear hb))
    exact bodyPost_ret (v := VV 4 0 0 ⟨#[]⟩ false (badF f)) (by simp [results, Tryz.results82, go_sem]) rfl ⟨rfl, by with_reducible repeat (first | exact Ext.refl _ | apply Ext.drew | apply Ext.alloc | apply Ext.more_)⟩
end Go.Proofs.YteigcfflljoioaaGreatDoor
namespace Go.Proofs.YteigcfflljoioaaGreatDoor
open Go.RowKit
theorem neq_val (k1 m1 e1 f1 k2 m2 e2 f2 : Int) (t1 t2 : ByteArray) (b1 b2 : Bool) (w : World) : (binOp .neq 26 (VV k1 m1 e1 t1 b1 f1) (VV k2 m2 e2 t2 b2 f2)).run Tryz.prog w = .ok (.bool (!eqV ⟨k1, m1, e1, t1, b1, f1⟩ ⟨k2, m2, e2, t2, b2, f2⟩)) w := by
  have ht : (t1.toList = t2.toList) ↔ t1 = t2 := ⟨fun h => by
    cases t1; cases t2
    rename_i a b
    have : a.toList = b.toList := by simpa [ByteArray.toList_eq] using h
    simpa using this, fun h => by rw [h]⟩
  simp only [VV, eqV]
  simp [go_sem, ht]
  by_cases h1 : k1 = k2 <;> simp [h1]
  by_cases h2 : m1 = m2 <;> simp [h2]
  by_cases h3 : e1 = e2 <;> simp [h3]
  by_cases h4 : t1 = t2 <;> simp [h4]
  by_cases h5 : b1 = b2 <;> simp [h5]
  by_cases h6 : f1 = f2 <;> simp [h6]
/-- The first k values are alike. -/
def alike (k : Nat) (l l' : List Val) : Prop := ∀ j x y, j < k → l[j]? = some x → l'[j]? = some y → x = y
theorem alike_all {n : Nat} {l l' : List Val} (h1 : l.length = n) (h2 : l'.length = n) (h : alike n l l') : l = l' := by
  apply List.ext_getElem?
  intro i
  by_cases hi : i < n
  · have := h i l[i] l'[i] hi (List.getElem?_eq_getElem _) (List.getElem?_eq_getElem _)
    rw [List.getElem?_eq_getElem (by omega), List.getElem?_eq_getElem (by omega), this]
  · rw [List.getElem?_eq_none (by omega), List.getElem?_eq_none (by omega)]
theorem alike_succ {k : Nat} {l l' : List Val} {x : Val} (h : alike k l l') (hx : l[k]? = some x) (hy : l'[k]? = some x) : alike (k + 1) l l' := by
  intro j a b hj ha hb
  by_cases hjk : j = k
  · subst hjk
    rw [hx] at ha; rw [hy] at hb
    simp_all
  · exact h j a b (by omega) ha hb
def sameA (r c : Int) (l : List Val) (r' c' : Int) (l' : List Val) : Bool := r == r' && c == c' && decide (l = l')
set_option maxHeartbeats 400000 in
theorem refSame_any (r c r' c' : Int) (A B : Option Addr) (n cap n' cap' : Nat) (l l' : List Val) (w : World) (h : ArrIn w A n cap l) (h' : ArrIn w B n' cap' l') :
    Calls Tryz.prog 20 #[AV r c (.slice A n cap), AV r' c' (.slice B n' cap')] w fun e w' => e = .returned (.bool (sameA r c l r' c' l')) ∧ Ext w w' := by
  have hsm := h.small
  have hsm' := h'.small
  generalize hR : sameA r c l r' c' l' = R
  have HR := Lib.hid hR
  clear hR
  have hneq := neq_val
  go_enter Tryz.func20, Tryz.ntmps20
  go_upto_region 1 with (fail)
  refine wp_region_lit ?_
  iterate 6 ((refine wpL_read (v := ?_) rfl ?_ ?_; rotate_left 1; (go_simp; first | done | rfl)); try simp only [Act.put, zqA, zqB, zqC])
  iterate 5 ((refine wpL_gread (v := ?_) (c := ?_) rfl rfl rfl ?_ (fun hc => ?_) ?_; rotate_left 2; (first | exact gc_t _ | exact gc_f _ | exact gc_gt _ _ | exact gc_gf _ _); ((try simp only [gv_of hc]); (try (have hc1 := and_l hc; (try simp only [gv_of hc1]); (try (have hc2 := and_l hc1; (try simp only [gv_of hc2]))))); go_simp; first | done | rfl)); try simp only [Act.put, zqA, zqB, zqC])
  first | (refine wpL_pick_and rfl rfl rfl rfl rfl ?_) | (refine wpL_pick_or rfl rfl rfl rfl rfl ?_)
  try simp only [Act.put, zqA, zqB, zqC]
  (refine wpL_read (v := ?_) rfl ?_ ?_; rotate_left 1; (go_simp; first | done | rfl))
  try simp only [Act.put, zqA, zqB, zqC]
  iterate 7 ((refine wpL_gread (v := ?_) (c := ?_) rfl rfl rfl ?_ (fun hc => ?_) ?_; rotate_left 2; (first | exact gc_t _ | exact gc_f _ | exact gc_gt _ _ | exact gc_gf _ _); ((try simp only [gv_of hc]); (try (have hc1 := and_l hc; (try simp only [gv_of hc1]); (try (have hc2 := and_l hc1; (try simp only [gv_of hc2]))))); go_simp; first | done | rfl)); try simp only [Act.put, zqA, zqB, zqC])
  first | (refine wpL_pick_and rfl rfl rfl rfl rfl ?_) | (refine wpL_pick_or rfl rfl rfl rfl rfl ?_)
  try simp only [Act.put, zqA, zqB, zqC]
  refine wpList_nil ?_
  try go_simp
  go_wp2
  · rename_i hbad
    go_ret
    refine ⟨ret_bool ?_, by repeat (first | exact Ext.refl _ | apply Ext.drew | apply Ext.alloc | apply Ext.more_)⟩
    rw [← HR.out]
    symm
    simp only [bne_iff_ne, ne_eq] at hbad
    rcases hbad with (hb | hb) | hb
    · simp [sameA, hb]
    · simp [sameA, hb]
    · have : ¬ l = l' := by rintro rfl; exact hb (by rw [← h.len, ← h'.len])
      simp [sameA, this]
  · rename_i hgood _ _
    simp only [bne_eq_false_iff_eq] at hgood
    obtain ⟨⟨g1, g2⟩, g3⟩ := hgood
    obtain rfl : n = n' := by omega
    have HR' : Hid (R = decide (l = l')) := by show _ = _; rw [← HR.out, g1, g2]; simp [sameA]
    clear g1 g2 g3
    go_loopw [5] (fun i wr => ∃ k : Nat, k ≤ n ∧ i = .int .i64 k ∧ Ext ((w.alloc (Obj.cells #[.int .i64 r, .int .i64 c, .slice A n cap] 34)).alloc (Obj.cells #[.int .i64 r', .int .i64 c', .slice B n cap'] 34)) wr ∧ Hid (alike k l l')) (fun i _ => n - (intOf i).toNat)
    case atStart => exact ⟨0, Nat.zero_le _, rfl, Ext.refl _, fun j x y hj => absurd hj (Nat.not_lt_zero _)⟩
    case round =>
      obtain ⟨k, hk, rfl, hX, H⟩ := hrel
      obtain ⟨os, d, rfl⟩ := hX.more
      by_cases hlt : k < n
      · obtain ⟨x, b, off, hx, hxo, rfl, hv⟩ := h.at hlt; obtain ⟨v0, v1, v2, v3, v4, v5⟩ := hv; have hbl : b < w.heap.size := lt_of_cell v0
        obtain ⟨y, b', off', hy, hyo, rfl, hv'⟩ := h'.at hlt; obtain ⟨u0, u1, u2, u3, u4, u5⟩ := hv'; have hbl' : b' < w.heap.size := lt_of_cell u0
        by_cases hxy : eqV x y = true
        · go_wp2
          refine wp_plan (S := Ext _) [(0, 0), (1, 0), (2, 0), (3, 0), (4, 0), (5, 0), (6, 0), (7, 0), (8, 0), (9, 0), (10, 0)] [] (by kernel_rfl) (by kernel_rfl) (by kernel_rfl) (fun _ _ d _ _ h => by cases d <;> exact h) (Ext.drew (Ext.refl _)) ?_
          iterate 11 ((refine wpPl_read (v := ?_) rfl ?_ (fun _ h => ?_) ?_; rotate_left 1; rfl; (obtain ⟨_, _, rfl⟩ := h.more; go_simp; try rfl)); try simp only [Act.put, zqA, zqB, zqC])
          refine wpPl_nil ?_
          go_wp2
          refine ⟨⟨k + 1, by omega, by go_num, by repeat (first | exact Ext.refl _ | apply Ext.drew | apply Ext.alloc | apply Ext.more_), ?_⟩, by simp [intOf]; omega⟩
          obtain rfl : x = y := by simpa [eqV] using hxy
          exact alike_succ H.out hx hy
        · have hxy' : eqV x y = false := by simpa using hxy
          have hR : R = false := by
            rw [HR'.out]
            simp only [decide_eq_false_iff_not]
            rintro rfl
            rw [hx] at hy
            simp [eqV] at hxy
            exact hxy (by simpa using hy)
          have HR2 := Lib.hid hR
          clear hR hxy
          go_wp2
          refine wp_plan (S := Ext _) [(0, 0), (1, 0), (2, 0), (3, 0), (4, 0), (5, 0), (6, 0), (7, 0), (8, 0), (9, 0), (10, 0)] [] (by kernel_rfl) (by kernel_rfl) (by kernel_rfl) (fun _ _ d _ _ h => by cases d <;> exact h) (Ext.drew (Ext.refl _)) ?_
          iterate 11 ((refine wpPl_read (v := ?_) rfl ?_ (fun _ h => ?_) ?_; rotate_left 1; rfl; (obtain ⟨_, _, rfl⟩ := h.more; go_simp; try rfl)); try simp only [Act.put, zqA, zqB, zqC])
          refine wpPl_nil ?_
          go_wp2
          go_ret
          exact ⟨ret_bool HR2.out.symm, by repeat (first | exact Ext.refl _ | apply Ext.drew | apply Ext.alloc | apply Ext.more_)⟩
      · have hR : R = true := by
          rw [HR'.out]
          simp only [decide_eq_true_eq]
          obtain rfl : k = n := by omega
          exact alike_all h.len h'.len H.out
        have HR2 := Lib.hid hR
        clear hR
        go_wp2
        go_ret
        exact ⟨ret_bool HR2.out.symm, by repeat (first | exact Ext.refl _ | apply Ext.drew | apply Ext.alloc | apply Ext.more_)⟩
end Go.Proofs.YteigcfflljoioaaGreatDoor
