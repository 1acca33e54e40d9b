/- The law NumRounds, walked. -/
import Derived.Test.YtihfiegopnjeiaaDoorRFloor
import Derived.Test.YtihfiegopnjeiaaDoorInt
namespace Go.Proofs.YtihfiegopnjeiaaDoor
open Go.RowKit NM
set_option maxRecDepth 100000 in
set_option maxHeartbeats 4000000 in
theorem numRounds_any (m ex p : Int) (w : World) (htab : Tab w) (hm : I64 m) (hp : I64 p) :
    Calls Tryd.prog 5 #[NV m ex, .int .i64 p] w fun e w' => e = .returned (.bool true) ∧ Ext w w' := by
  have h1 := fun W => int_any m ex W hm
  have h2 := fun W => rint_any m ex W hm
  have h3 := fun W => round_all m ex p W hm hp
  have h4 := fun W => rround_any m ex p W hm hp
  have h5 := fun W => floor_any m ex W hm
  have h6 := fun W => rfloor_any m ex W hm
  generalize intS m ex = r at *
  generalize (roundS m ex p).1 = r1 at *
  generalize (roundS m ex p).2 = r2 at *
  generalize (floorS m ex).1 = f1 at *
  generalize (floorS m ex).2 = f2 at *
  have HT := Lib.hid htab
  clear htab
  go_enter Tryd.func5, Tryd.ntmps5
  go_wp2_with (first | (go_at_call 14; (with_reducible refine (awake_any _ (HT.out.ext (by repeat (first | with_reducible exact Ext.refl _ | with_reducible apply Ext.drew | with_reducible apply Ext.alloc | with_reducible apply Ext.more_)))).mono ?_); rintro e w' ⟨rfl, hbx⟩; obtain ⟨osx, dx, rfl⟩ := hbx.more) | (go_at_call 23; (with_reducible refine (h1 _).mono ?_); rintro e w' ⟨rfl, hbx⟩; obtain ⟨osx, dx, rfl⟩ := hbx.more) | (go_at_call 24; (with_reducible refine (h2 _).mono ?_); rintro e w' ⟨rfl, hbx⟩; obtain ⟨osx, dx, rfl⟩ := hbx.more))
  refine wp_plan (S := Ext _) [(0, 0), (1, 0), (3, 0), (4, 0), (2, 1), (5, 1), (6, 0), (7, 0), (8, 0), (10, 0), (9, 1), (11, 1), (12, 0), (13, 0), (14, 0), (15, 0), (16, 0), (17, 0), (18, 0), (19, 0), (20, 0), (21, 0), (22, 0), (23, 0), (24, 0)] [] (by kernel_rfl) (by kernel_rfl) (by kernel_rfl) (fun _ _ d _ _ h => by cases d <;> exact h) (Ext.drew (Ext.refl _)) ?_
  (refine wpPl_read (v := ?_) rfl ?_ (fun w1 h1 => ?_) ?_; rotate_left 1; rfl; (obtain ⟨os1, d1, rfl⟩ := h1.more; go_simp; first | done | rfl))
  try simp only [Act.put, List.setIfInBounds_toArray, List.set_cons_zero, List.set_cons_succ]
  (refine wpPl_read (v := ?_) rfl ?_ (fun w1 h1 => ?_) ?_; rotate_left 1; rfl; (obtain ⟨os1, d1, rfl⟩ := h1.more; go_simp; first | done | rfl))
  try simp only [Act.put, List.setIfInBounds_toArray, List.set_cons_zero, List.set_cons_succ]
  (refine wpPl_read (v := ?_) rfl ?_ (fun w1 h1 => ?_) ?_; rotate_left 1; rfl; (obtain ⟨os1, d1, rfl⟩ := h1.more; go_simp; first | done | rfl))
  try simp only [Act.put, List.setIfInBounds_toArray, List.set_cons_zero, List.set_cons_succ]
  (refine wpPl_read (v := ?_) rfl ?_ (fun w1 h1 => ?_) ?_; rotate_left 1; rfl; (obtain ⟨os1, d1, rfl⟩ := h1.more; go_simp; first | done | rfl))
  try simp only [Act.put, List.setIfInBounds_toArray, List.set_cons_zero, List.set_cons_succ]
  (refine wpPl_eff rfl ?_ (fun K hK => ?_); rfl; go_simp; (go_at_call 25; (with_reducible refine (h3 _).mono ?_); rintro e w' ⟨rfl, hbx⟩; obtain ⟨osx, dx, rfl⟩ := hbx.more); refine hK _ _ ?_ ?_; (repeat (first | with_reducible exact Ext.refl _ | with_reducible exact ext_d _ _ _ _ | with_reducible exact ext_app _ _ _ _ _ | with_reducible exact ext_app2 _ _ _ _ _ _ | with_reducible exact ext_app3 _ _ _ _ _ _ _ | with_reducible exact ext_app4 _ _ _ _ _ _ _ _ | with_reducible exact ext_app5 _ _ _ _ _ _ _ _ _ | ((with_reducible refine ext_suffix ⟨_, ?_⟩); (try simp only [Array.append_assoc]); rfl) | with_reducible apply Ext.drew | with_reducible apply Ext.alloc | with_reducible apply Ext.more_ | apply Ext.drew | apply Ext.alloc | apply Ext.more_)))
  try simp only [Act.put, List.setIfInBounds_toArray, List.set_cons_zero, List.set_cons_succ]
  (refine wpPl_eff rfl ?_ (fun K hK => ?_); rfl; go_simp; (go_at_call 26; (with_reducible refine (h4 _).mono ?_); rintro e w' ⟨rfl, hbx⟩; obtain ⟨osx, dx, rfl⟩ := hbx.more); refine hK _ _ ?_ ?_; (repeat (first | with_reducible exact Ext.refl _ | with_reducible exact ext_d _ _ _ _ | with_reducible exact ext_app _ _ _ _ _ | with_reducible exact ext_app2 _ _ _ _ _ _ | with_reducible exact ext_app3 _ _ _ _ _ _ _ | with_reducible exact ext_app4 _ _ _ _ _ _ _ _ | with_reducible exact ext_app5 _ _ _ _ _ _ _ _ _ | ((with_reducible refine ext_suffix ⟨_, ?_⟩); (try simp only [Array.append_assoc]); rfl) | with_reducible apply Ext.drew | with_reducible apply Ext.alloc | with_reducible apply Ext.more_ | apply Ext.drew | apply Ext.alloc | apply Ext.more_)))
  try simp only [Act.put, List.setIfInBounds_toArray, List.set_cons_zero, List.set_cons_succ]
  (refine wpPl_read (v := ?_) rfl ?_ (fun w1 h1 => ?_) ?_; rotate_left 1; rfl; (obtain ⟨os1, d1, rfl⟩ := h1.more; go_simp; first | done | rfl))
  try simp only [Act.put, List.setIfInBounds_toArray, List.set_cons_zero, List.set_cons_succ]
  (refine wpPl_read (v := ?_) rfl ?_ (fun w1 h1 => ?_) ?_; rotate_left 1; rfl; (obtain ⟨os1, d1, rfl⟩ := h1.more; go_simp; first | done | rfl))
  try simp only [Act.put, List.setIfInBounds_toArray, List.set_cons_zero, List.set_cons_succ]
  first | (refine wpPl_skip rfl rfl ?_) | (refine wpPl_read (v := ?_) rfl ?_ (fun w1 h1 => ?_) ?_; rotate_left 1; rfl; (obtain ⟨os1, d1, rfl⟩ := h1.more; go_simp; first | done | rfl)) | (refine wpPl_gread (v := ?_) (c := ?_) rfl rfl rfl rfl ?_ (fun hc w1 h1 => ?_) ?_; rotate_left 2; (first | exact gc_t _ | exact gc_f _ | exact gc_gt _ _ | exact gc_gf _ _); (obtain ⟨os1, d1, rfl⟩ := h1.more; (try simp only [gv_of hc]); (try (have hc1 := and_l hc; (try simp only [gv_of hc1]); (try (have hc2 := and_l hc1; (try simp only [gv_of hc2]))))); go_simp; first | done | rfl))
  try simp only [Act.put, List.setIfInBounds_toArray, List.set_cons_zero, List.set_cons_succ]
  first | (refine wpPl_skip rfl rfl ?_) | (refine wpPl_read (v := ?_) rfl ?_ (fun w1 h1 => ?_) ?_; rotate_left 1; rfl; (obtain ⟨os1, d1, rfl⟩ := h1.more; go_simp; first | done | rfl)) | (refine wpPl_gread (v := ?_) (c := ?_) rfl rfl rfl rfl ?_ (fun hc w1 h1 => ?_) ?_; rotate_left 2; (first | exact gc_t _ | exact gc_f _ | exact gc_gt _ _ | exact gc_gf _ _); (obtain ⟨os1, d1, rfl⟩ := h1.more; (try simp only [gv_of hc]); (try (have hc1 := and_l hc; (try simp only [gv_of hc1]); (try (have hc2 := and_l hc1; (try simp only [gv_of hc2]))))); go_simp; first | done | rfl))
  try simp only [Act.put, List.setIfInBounds_toArray, List.set_cons_zero, List.set_cons_succ]
  (refine wpPl_eff rfl ?_ (fun K hK => ?_); (first | with_reducible rfl | rfl | (go_simp; done)); go_simp; (go_at_call 27; (with_reducible refine (h5 _).mono ?_); rintro e w' ⟨rfl, hbx⟩; obtain ⟨osx, dx, rfl⟩ := hbx.more); refine hK _ _ ?_ ?_; (repeat (first | with_reducible exact Ext.refl _ | with_reducible exact ext_d _ _ _ _ | with_reducible exact ext_app _ _ _ _ _ | with_reducible exact ext_app2 _ _ _ _ _ _ | with_reducible exact ext_app3 _ _ _ _ _ _ _ | with_reducible exact ext_app4 _ _ _ _ _ _ _ _ | with_reducible exact ext_app5 _ _ _ _ _ _ _ _ _ | ((with_reducible refine ext_suffix ⟨_, ?_⟩); (try simp only [Array.append_assoc]); rfl) | with_reducible apply Ext.drew | with_reducible apply Ext.alloc | with_reducible apply Ext.more_ | apply Ext.drew | apply Ext.alloc | apply Ext.more_)))
  try simp only [Act.put, List.setIfInBounds_toArray, List.set_cons_zero, List.set_cons_succ]
  (refine wpPl_eff rfl ?_ (fun K hK => ?_); (first | with_reducible rfl | rfl | (go_simp; done)); go_simp; (go_at_call 28; (with_reducible refine (h6 _).mono ?_); rintro e w' ⟨rfl, hbx⟩; obtain ⟨osx, dx, rfl⟩ := hbx.more); refine hK _ _ ?_ ?_; (repeat (first | with_reducible exact Ext.refl _ | with_reducible exact ext_d _ _ _ _ | with_reducible exact ext_app _ _ _ _ _ | with_reducible exact ext_app2 _ _ _ _ _ _ | with_reducible exact ext_app3 _ _ _ _ _ _ _ | with_reducible exact ext_app4 _ _ _ _ _ _ _ _ | with_reducible exact ext_app5 _ _ _ _ _ _ _ _ _ | ((with_reducible refine ext_suffix ⟨_, ?_⟩); (try simp only [Array.append_assoc]); rfl) | with_reducible apply Ext.drew | with_reducible apply Ext.alloc | with_reducible apply Ext.more_ | apply Ext.drew | apply Ext.alloc | apply Ext.more_)))
  try simp only [Act.put, List.setIfInBounds_toArray, List.set_cons_zero, List.set_cons_succ]
  first | (refine wpPl_skip rfl rfl ?_) | (refine wpPl_read (v := ?_) rfl ?_ (fun w1 h1 => ?_) ?_; rotate_left 1; rfl; (obtain ⟨os1, d1, rfl⟩ := h1.more; go_simp; first | done | rfl)) | (refine wpPl_gread (v := ?_) (c := ?_) rfl rfl rfl rfl ?_ (fun hc w1 h1 => ?_) ?_; rotate_left 2; (first | exact gc_t _ | exact gc_f _ | exact gc_gt _ _ | exact gc_gf _ _); (obtain ⟨os1, d1, rfl⟩ := h1.more; (try simp only [gv_of hc]); (try (have hc1 := and_l hc; (try simp only [gv_of hc1]); (try (have hc2 := and_l hc1; (try simp only [gv_of hc2]))))); go_simp; first | done | rfl))
  try simp only [Act.put, List.setIfInBounds_toArray, List.set_cons_zero, List.set_cons_succ]
  first | (refine wpPl_pick_and rfl rfl rfl rfl rfl rfl ?_) | (refine wpPl_pick_or rfl rfl rfl rfl rfl rfl ?_) | (refine wpPl_read (v := ?_) rfl ?_ (fun w1 h1 => ?_) ?_; rotate_left 1; rfl; (obtain ⟨os1, d1, rfl⟩ := h1.more; go_simp; first | done | rfl))
  try simp only [Act.put, List.setIfInBounds_toArray, List.set_cons_zero, List.set_cons_succ]
  (refine wpPl_read (v := ?_) rfl ?_ (fun w1 h1 => ?_) ?_; rotate_left 1; rfl; (obtain ⟨os1, d1, rfl⟩ := h1.more; go_simp; first | done | rfl))
  try simp only [Act.put, List.setIfInBounds_toArray, List.set_cons_zero, List.set_cons_succ]
  first | (refine wpPl_skip rfl rfl ?_) | (refine wpPl_read (v := ?_) rfl ?_ (fun w1 h1 => ?_) ?_; rotate_left 1; rfl; (obtain ⟨os1, d1, rfl⟩ := h1.more; go_simp; first | done | rfl)) | (refine wpPl_gread (v := ?_) (c := ?_) rfl rfl rfl rfl ?_ (fun hc w1 h1 => ?_) ?_; rotate_left 2; (first | exact gc_t _ | exact gc_f _ | exact gc_gt _ _ | exact gc_gf _ _); (obtain ⟨os1, d1, rfl⟩ := h1.more; (try simp only [gv_of hc]); (try (have hc1 := and_l hc; (try simp only [gv_of hc1]); (try (have hc2 := and_l hc1; (try simp only [gv_of hc2]))))); go_simp; first | done | rfl))
  try simp only [Act.put, List.setIfInBounds_toArray, List.set_cons_zero, List.set_cons_succ]
  first | (refine wpPl_skip rfl rfl ?_) | (refine wpPl_read (v := ?_) rfl ?_ (fun w1 h1 => ?_) ?_; rotate_left 1; rfl; (obtain ⟨os1, d1, rfl⟩ := h1.more; go_simp; first | done | rfl)) | (refine wpPl_gread (v := ?_) (c := ?_) rfl rfl rfl rfl ?_ (fun hc w1 h1 => ?_) ?_; rotate_left 2; (first | exact gc_t _ | exact gc_f _ | exact gc_gt _ _ | exact gc_gf _ _); (obtain ⟨os1, d1, rfl⟩ := h1.more; (try simp only [gv_of hc]); (try (have hc1 := and_l hc; (try simp only [gv_of hc1]); (try (have hc2 := and_l hc1; (try simp only [gv_of hc2]))))); go_simp; first | done | rfl))
  try simp only [Act.put, List.setIfInBounds_toArray, List.set_cons_zero, List.set_cons_succ]
  first | (refine wpPl_skip rfl rfl ?_) | (refine wpPl_read (v := ?_) rfl ?_ (fun w1 h1 => ?_) ?_; rotate_left 1; rfl; (obtain ⟨os1, d1, rfl⟩ := h1.more; go_simp; first | done | rfl)) | (refine wpPl_gread (v := ?_) (c := ?_) rfl rfl rfl rfl ?_ (fun hc w1 h1 => ?_) ?_; rotate_left 2; (first | exact gc_t _ | exact gc_f _ | exact gc_gt _ _ | exact gc_gf _ _); (obtain ⟨os1, d1, rfl⟩ := h1.more; (try simp only [gv_of hc]); (try (have hc1 := and_l hc; (try simp only [gv_of hc1]); (try (have hc2 := and_l hc1; (try simp only [gv_of hc2]))))); go_simp; first | done | rfl))
  try simp only [Act.put, List.setIfInBounds_toArray, List.set_cons_zero, List.set_cons_succ]
  first | (refine wpPl_pick_and rfl rfl rfl rfl rfl rfl ?_) | (refine wpPl_pick_or rfl rfl rfl rfl rfl rfl ?_) | (refine wpPl_read (v := ?_) rfl ?_ (fun w1 h1 => ?_) ?_; rotate_left 1; rfl; (obtain ⟨os1, d1, rfl⟩ := h1.more; go_simp; first | done | rfl))
  try simp only [Act.put, List.setIfInBounds_toArray, List.set_cons_zero, List.set_cons_succ]
  (refine wpPl_read (v := ?_) rfl ?_ (fun w1 h1 => ?_) ?_; rotate_left 1; rfl; (obtain ⟨os1, d1, rfl⟩ := h1.more; go_simp; first | done | rfl))
  try simp only [Act.put, List.setIfInBounds_toArray, List.set_cons_zero, List.set_cons_succ]
  first | (refine wpPl_skip rfl rfl ?_) | (refine wpPl_read (v := ?_) rfl ?_ (fun w1 h1 => ?_) ?_; rotate_left 1; rfl; (obtain ⟨os1, d1, rfl⟩ := h1.more; go_simp; first | done | rfl)) | (refine wpPl_gread (v := ?_) (c := ?_) rfl rfl rfl rfl ?_ (fun hc w1 h1 => ?_) ?_; rotate_left 2; (first | exact gc_t _ | exact gc_f _ | exact gc_gt _ _ | exact gc_gf _ _); (obtain ⟨os1, d1, rfl⟩ := h1.more; (try simp only [gv_of hc]); (try (have hc1 := and_l hc; (try simp only [gv_of hc1]); (try (have hc2 := and_l hc1; (try simp only [gv_of hc2]))))); go_simp; first | done | rfl))
  try simp only [Act.put, List.setIfInBounds_toArray, List.set_cons_zero, List.set_cons_succ]
  first | (refine wpPl_skip rfl rfl ?_) | (refine wpPl_read (v := ?_) rfl ?_ (fun w1 h1 => ?_) ?_; rotate_left 1; rfl; (obtain ⟨os1, d1, rfl⟩ := h1.more; go_simp; first | done | rfl)) | (refine wpPl_gread (v := ?_) (c := ?_) rfl rfl rfl rfl ?_ (fun hc w1 h1 => ?_) ?_; rotate_left 2; (first | exact gc_t _ | exact gc_f _ | exact gc_gt _ _ | exact gc_gf _ _); (obtain ⟨os1, d1, rfl⟩ := h1.more; (try simp only [gv_of hc]); (try (have hc1 := and_l hc; (try simp only [gv_of hc1]); (try (have hc2 := and_l hc1; (try simp only [gv_of hc2]))))); go_simp; first | done | rfl))
  try simp only [Act.put, List.setIfInBounds_toArray, List.set_cons_zero, List.set_cons_succ]
  first | (refine wpPl_skip rfl rfl ?_) | (refine wpPl_read (v := ?_) rfl ?_ (fun w1 h1 => ?_) ?_; rotate_left 1; rfl; (obtain ⟨os1, d1, rfl⟩ := h1.more; go_simp; first | done | rfl)) | (refine wpPl_gread (v := ?_) (c := ?_) rfl rfl rfl rfl ?_ (fun hc w1 h1 => ?_) ?_; rotate_left 2; (first | exact gc_t _ | exact gc_f _ | exact gc_gt _ _ | exact gc_gf _ _); (obtain ⟨os1, d1, rfl⟩ := h1.more; (try simp only [gv_of hc]); (try (have hc1 := and_l hc; (try simp only [gv_of hc1]); (try (have hc2 := and_l hc1; (try simp only [gv_of hc2]))))); go_simp; first | done | rfl))
  try simp only [Act.put, List.setIfInBounds_toArray, List.set_cons_zero, List.set_cons_succ]
  first | (refine wpPl_pick_and rfl rfl rfl rfl rfl rfl ?_) | (refine wpPl_pick_or rfl rfl rfl rfl rfl rfl ?_) | (refine wpPl_read (v := ?_) rfl ?_ (fun w1 h1 => ?_) ?_; rotate_left 1; rfl; (obtain ⟨os1, d1, rfl⟩ := h1.more; go_simp; first | done | rfl))
  try simp only [Act.put, List.setIfInBounds_toArray, List.set_cons_zero, List.set_cons_succ]
  (refine wpPl_read (v := ?_) rfl ?_ (fun w1 h1 => ?_) ?_; rotate_left 1; rfl; (obtain ⟨os1, d1, rfl⟩ := h1.more; go_simp; first | done | rfl))
  try simp only [Act.put, List.setIfInBounds_toArray, List.set_cons_zero, List.set_cons_succ]
  refine wpPl_nil ?_
  go_wp2
  go_ret
  exact ⟨rfl, by repeat (first | with_reducible exact Ext.refl _ | with_reducible apply Ext.drew | with_reducible apply Ext.alloc | with_reducible apply Ext.more_)⟩
end Go.Proofs.YtihfiegopnjeiaaDoor
