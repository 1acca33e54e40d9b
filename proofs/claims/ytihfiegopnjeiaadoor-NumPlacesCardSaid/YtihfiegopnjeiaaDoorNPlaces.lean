/- The law NumPlaces, walked. -/
import Derived.Test.YtihfiegopnjeiaaDoorNPl
import Derived.Test.YtihfiegopnjeiaaDoorNOrder
import Derived.Test.YtihfiegopnjeiaaDoorFloat
namespace Go.Proofs.YtihfiegopnjeiaaDoor
set_option linter.unusedSimpArgs false
set_option linter.unusedVariables false
open Go.RowKit NM
set_option maxRecDepth 100000 in
set_option maxHeartbeats 8000000 in
theorem places_yes (ma ea mb eb p : Int) (w : World) (htab : Tab w) (h1 : Rt ma ea) (h2 : Rt mb eb) (hp : I64 p) :
    Calls Tryd.prog 7 #[NV ma ea, NV mb eb, .int .i64 p] w fun e w' => e = .returned (.bool true) ∧ Ext w w' := by
  have HT := Lib.hid htab
  have r1 := rtB_yes h1
  have r2 := rtB_yes h2
  have hma := (Rt_i64 h1).1
  have hmb := (Rt_i64 h2).1
  have q1 := round_rt (p := p) h1
  have q2 := round_rt (p := p) h2
  have ra := fun W => round_all ma ea p W hma hp
  have rb := fun W => round_all mb eb p W hmb hp
  have rx := fun W => round_all (roundS ma ea p).1 (roundS ma ea p).2 p W (Rt_i64 q1).1 hp
  have ry := fun W => round_all (roundS mb eb p).1 (roundS mb eb p).2 p W (Rt_i64 q2).1 hp
  rw [round_idem h1] at rx
  rw [round_idem h2] at ry
  have k1 := fun W => cmp_any ma ea mb eb W hma hmb
  have k2 := fun W => cmp_any (roundS ma ea p).1 (roundS ma ea p).2 (roundS mb eb p).1 (roundS mb eb p).2 W (Rt_i64 q1).1 (Rt_i64 q2).1
  have k3 := fun W => cmp_any (roundS mb eb p).1 (roundS mb eb p).2 (roundS ma ea p).1 (roundS ma ea p).2 W (Rt_i64 q2).1 (Rt_i64 q1).1
  have o1 : cmpS ma ea mb eb ≤ 0 → cmpS (roundS ma ea p).1 (roundS ma ea p).2 (roundS mb eb p).1 (roundS mb eb p).2 ≤ 0 := fun h => (cmp_le q1 q2).2 (round_mono h1 h2 ((cmp_le h1 h2).1 h))
  have o2 : ¬ cmpS ma ea mb eb ≤ 0 → cmpS (roundS mb eb p).1 (roundS mb eb p).2 (roundS ma ea p).1 (roundS ma ea p).2 ≤ 0 := fun h => (cmp_le q2 q1).2 (round_mono h2 h1 (by
    have := (cmp_le h1 h2).2
    omega))
  have HO1 := Lib.hid o1
  have HO2 := Lib.hid o2
  generalize cmpS ma ea mb eb = C at *
  generalize cmpS (roundS ma ea p).1 (roundS ma ea p).2 (roundS mb eb p).1 (roundS mb eb p).2 = C2 at *
  generalize cmpS (roundS mb eb p).1 (roundS mb eb p).2 (roundS ma ea p).1 (roundS ma ea p).2 = C3 at *
  generalize (roundS ma ea p).1 = x1 at *
  generalize (roundS ma ea p).2 = x2 at *
  generalize (roundS mb eb p).1 = y1 at *
  generalize (roundS mb eb p).2 = y2 at *
  clear htab h1 h2 q1 q2 o1 o2
  go_enter Tryd.func7, Tryd.ntmps7
  go_upto_region 5 with (first | (go_at_call 14; (with_reducible refine (awake_any _ (HT.out.ext (by repeat (first | with_reducible exact Ext.refl _ | with_reducible apply Ext.drew | with_reducible apply Ext.alloc | with_reducible apply Ext.more_)))).mono ?_); rintro e w' ⟨rfl, hbx⟩; obtain ⟨osx, dx, rfl⟩ := hbx.more) | (go_at_call 18; (with_reducible refine (rright_rt _ _ _ (by assumption)).mono ?_); rintro e w' ⟨rfl, hbr⟩; obtain ⟨osr, dr, rfl⟩ := hbr.more))
  refine wp_world fun W hW => ?_
  have pa : PV W w.heap.size ma ea := by rw [hW]; exact ((PV.new ma ea rfl).ext ((Ext.refl _).alloc _)).ext (ext_more _ _ _)
  have pb : PV W (w.heap.size + 1) mb eb := by rw [hW]; exact (PV.new mb eb (by simp)).ext (ext_more _ _ _)
  have hxW : Ext w W := by rw [hW]; exact by repeat (first | with_reducible exact Ext.refl _ | with_reducible apply Ext.drew | with_reducible apply Ext.alloc | with_reducible apply Ext.more_)
  clear hW
  have c0 := pa.c0
  have c1 := pa.c1
  have c2 := pb.c0
  have c3 := pb.c1
  have l0 := pa.lt
  have l1 := pb.lt
  refine wp_float [(6, 7, (.cells #[.int .i64 0, .int .i64 0] 24)), (7, 8, (.cells #[.int .i64 0, .int .i64 0] 24))] [(0, 0), (1, 0), (3, 0), (4, 0), (2, 1), (5, 1)] [8, 9] [8, 9] [] (by kernel_rfl) (by kernel_rfl) (by kernel_rfl) (fun _ _ d _ _ h => by cases d <;> exact h) (fun _ _ d _ _ h => by cases d <;> exact h) (fun x hx o ho a w => by (rcases List.mem_cons.1 hx with rfl | hx); (focus (obtain rfl := Option.some.inj ho); (first | rfl | (simp [go_sem, ptrB]; done) | (go_simp; rfl))); (obtain rfl := List.mem_singleton.1 hx); (obtain rfl := Option.some.inj ho); (first | rfl | (simp [go_sem, ptrB]; done) | (go_simp; rfl))) ?_
  (refine wpFp_read (v := ?_) rfl ?_ (fun w1 h1 => ?_) ?_; rotate_left 1; rfl; (obtain ⟨os1, d1, rfl⟩ := h1.more; go_simp; first | done | rfl))
  try simp only [Act.put, List.setIfInBounds_toArray, List.set_cons_zero, List.set_cons_succ]
  (refine wpFp_read (v := ?_) rfl ?_ (fun w1 h1 => ?_) ?_; rotate_left 1; rfl; (obtain ⟨os1, d1, rfl⟩ := h1.more; go_simp; first | done | rfl))
  try simp only [Act.put, List.setIfInBounds_toArray, List.set_cons_zero, List.set_cons_succ]
  (refine wpFp_read (v := ?_) rfl ?_ (fun w1 h1 => ?_) ?_; rotate_left 1; rfl; (obtain ⟨os1, d1, rfl⟩ := h1.more; go_simp; first | done | rfl))
  try simp only [Act.put, List.setIfInBounds_toArray, List.set_cons_zero, List.set_cons_succ]
  (refine wpFp_read (v := ?_) rfl ?_ (fun w1 h1 => ?_) ?_; rotate_left 1; rfl; (obtain ⟨os1, d1, rfl⟩ := h1.more; go_simp; first | done | rfl))
  try simp only [Act.put, List.setIfInBounds_toArray, List.set_cons_zero, List.set_cons_succ]
  (refine wpFp_eff rfl ?_ (fun wf hXf hE K hK => ?_); rfl; obtain ⟨osf, df, rfl⟩ := hXf.more; go_simp; refine (ra _).mono ?_; rintro e w' ⟨rfl, hb⟩; refine hK _ _ (fun _ => True) (by (try simp only [more_drew, more_more]); exact hb) (fun _ _ _ _ => trivial) trivial ?_)
  try simp only [Act.put, List.setIfInBounds_toArray, List.set_cons_zero, List.set_cons_succ]
  (refine wpFp_eff rfl ?_ (fun wf hXf hE K hK => ?_); rfl; obtain ⟨osf, df, rfl⟩ := hXf.more; go_simp; refine (rb _).mono ?_; rintro e w' ⟨rfl, hb⟩; refine hK _ _ (fun _ => True) (by (try simp only [more_drew, more_more]); exact hb) (fun _ _ _ _ => trivial) trivial ?_)
  try simp only [Act.put, List.setIfInBounds_toArray, List.set_cons_zero, List.set_cons_succ]
  refine wpFp_two (by decide) fun fb1 fb2 wf hXf hE hf1 hf2 hl1 hl2 hfn => ?_
  try simp only [Act.put, List.setIfInBounds_toArray, List.set_cons_zero, List.set_cons_succ]
  skip
  have u10 := cell_of_row _ _ 0 _ _ _ hf1
  have u11 := cell_of_row _ _ 1 _ _ _ hf1
  have u20 := cell_of_row _ _ 0 _ _ _ hf2
  have u21 := cell_of_row _ _ 1 _ _ _ hf2
  have v10 := frozen_of_row _ _ 0 _ _ hf1
  have v11 := frozen_of_row _ _ 1 _ _ hf1
  have v20 := frozen_of_row _ _ 0 _ _ hf2
  have v21 := frozen_of_row _ _ 1 _ _ hf2
  have hfn2 := Ne.symm hfn
  (refine wpTl_op rfl ?_ (fun K hK => ?_); rfl; go_simp; refine hK _ _ ?_)
  try simp only [Act.put, List.setIfInBounds_toArray, List.set_cons_zero, List.set_cons_succ]
  (refine wpTl_op rfl ?_ (fun K hK => ?_); rfl; go_simp; refine hK _ _ ?_)
  try simp only [Act.put, List.setIfInBounds_toArray, List.set_cons_zero, List.set_cons_succ]
  refine wpTl_nil ?_
  go_upto_region 6 with fail
  refine wp_world fun V hV => ?_
  have px : PV V fb1 x1 x2 := by rw [hV]; exact (PV.set hf1 x1 x2).other _ hfn2 |>.other _ hfn2
  have py : PV V fb2 y1 y2 := by rw [hV]; exact PV.set ((PV.other (m := 0) (e := 0) hf2 _ hfn).other _ hfn) y1 y2
  have hxV : Ext W V := by
    rw [hV]
    have hXf' : Ext W wf := (Ext.drew (Ext.refl W)).trans hXf
    exact (((hXf'.set _ (show W.heap.size ≤ fb1 from hl1)).set _ (show W.heap.size ≤ fb1 from hl1)).set _ (show W.heap.size ≤ fb2 from hl2)).set _ (show W.heap.size ≤ fb2 from hl2)
  have pa := pa.ext hxV
  have pb := pb.ext hxV
  have hxW := hxW.trans hxV
  clear hV hxV u10 u11 u20 u21 v10 v11 v20 v21 hf1 hf2 c0 c1 c2 c3 l0 l1 hXf hl1 hl2 hE
  have c0 := pa.c0
  have c1 := pa.c1
  have c2 := pb.c0
  have c3 := pb.c1
  have l0 := pa.lt
  have l1 := pb.lt
  have u0 := px.c0
  have u1 := px.c1
  have v0 := py.c0
  have v1 := py.c1
  have l2 := px.lt
  have l3 := py.lt
  clear px py pa pb
  refine wp_plan (S := Ext _) [(0, 0), (1, 0), (3, 0), (2, 1), (4, 0), (5, 0), (6, 0), (7, 0), (9, 0), (8, 1), (10, 0), (11, 0)] [] (by kernel_rfl) (by kernel_rfl) (by kernel_rfl) (fun _ _ d _ _ h => by cases d <;> exact h) (Ext.drew (Ext.refl _)) ?_
  (refine wpPl_read (v := ?_) rfl ?_ (fun w1 h1 => ?_) ?_; rotate_left 1; rfl; (obtain ⟨os1, d1, rfl⟩ := h1.more; go_simp; first | done | rfl))
  try simp only [Act.put, List.setIfInBounds_toArray, List.set_cons_zero, List.set_cons_succ]
  (refine wpPl_read (v := ?_) rfl ?_ (fun w1 h1 => ?_) ?_; rotate_left 1; rfl; (obtain ⟨os1, d1, rfl⟩ := h1.more; go_simp; first | done | rfl))
  try simp only [Act.put, List.setIfInBounds_toArray, List.set_cons_zero, List.set_cons_succ]
  (refine wpPl_read (v := ?_) rfl ?_ (fun w1 h1 => ?_) ?_; rotate_left 1; rfl; (obtain ⟨os1, d1, rfl⟩ := h1.more; go_simp; first | done | rfl))
  try simp only [Act.put, List.setIfInBounds_toArray, List.set_cons_zero, List.set_cons_succ]
  (refine wpPl_eff rfl ?_ (fun K hK => ?_); rfl; go_simp; (go_at_call 25; (with_reducible refine (rx _).mono ?_); rintro e w' ⟨rfl, hbx⟩; obtain ⟨osx, dx, rfl⟩ := hbx.more); refine hK _ _ ?_ ?_; (repeat (first | with_reducible exact Ext.refl _ | with_reducible exact ext_d _ _ _ _ | with_reducible exact ext_app _ _ _ _ _ | with_reducible exact ext_app2 _ _ _ _ _ _ | with_reducible exact ext_app3 _ _ _ _ _ _ _ | with_reducible exact ext_app4 _ _ _ _ _ _ _ _ | with_reducible exact ext_app5 _ _ _ _ _ _ _ _ _ | ((with_reducible refine ext_suffix ⟨_, ?_⟩); (try simp only [Array.append_assoc]); rfl) | with_reducible apply Ext.drew | with_reducible apply Ext.alloc | with_reducible apply Ext.more_ | apply Ext.drew | apply Ext.alloc | apply Ext.more_)))
  try simp only [Act.put, List.setIfInBounds_toArray, List.set_cons_zero, List.set_cons_succ]
  (refine wpPl_read (v := ?_) rfl ?_ (fun w1 h1 => ?_) ?_; rotate_left 1; rfl; (obtain ⟨os1, d1, rfl⟩ := h1.more; go_simp; first | done | rfl))
  try simp only [Act.put, List.setIfInBounds_toArray, List.set_cons_zero, List.set_cons_succ]
  (refine wpPl_read (v := ?_) rfl ?_ (fun w1 h1 => ?_) ?_; rotate_left 1; rfl; (obtain ⟨os1, d1, rfl⟩ := h1.more; go_simp; first | done | rfl))
  try simp only [Act.put, List.setIfInBounds_toArray, List.set_cons_zero, List.set_cons_succ]
  first | (refine wpPl_skip rfl rfl ?_) | (refine wpPl_read (v := ?_) rfl ?_ (fun w1 h1 => ?_) ?_; rotate_left 1; rfl; (obtain ⟨os1, d1, rfl⟩ := h1.more; go_simp; first | done | rfl)) | (refine wpPl_gread (v := ?_) (c := ?_) rfl rfl rfl rfl ?_ (fun hc w1 h1 => ?_) ?_; rotate_left 2; (first | exact gc_t _ | exact gc_f _ | exact gc_gt _ _ | exact gc_gf _ _); (obtain ⟨os1, d1, rfl⟩ := h1.more; (try simp only [gv_of hc]); (try (have hc1 := and_l hc; (try simp only [gv_of hc1]); (try (have hc2 := and_l hc1; (try simp only [gv_of hc2]))))); go_simp; first | done | rfl))
  try simp only [Act.put, List.setIfInBounds_toArray, List.set_cons_zero, List.set_cons_succ]
  first | (refine wpPl_skip rfl rfl ?_) | (refine wpPl_read (v := ?_) rfl ?_ (fun w1 h1 => ?_) ?_; rotate_left 1; rfl; (obtain ⟨os1, d1, rfl⟩ := h1.more; go_simp; first | done | rfl)) | (refine wpPl_gread (v := ?_) (c := ?_) rfl rfl rfl rfl ?_ (fun hc w1 h1 => ?_) ?_; rotate_left 2; (first | exact gc_t _ | exact gc_f _ | exact gc_gt _ _ | exact gc_gf _ _); (obtain ⟨os1, d1, rfl⟩ := h1.more; (try simp only [gv_of hc]); (try (have hc1 := and_l hc; (try simp only [gv_of hc1]); (try (have hc2 := and_l hc1; (try simp only [gv_of hc2]))))); go_simp; first | done | rfl))
  try simp only [Act.put, List.setIfInBounds_toArray, List.set_cons_zero, List.set_cons_succ]
  first | (refine wpPl_skip rfl rfl ?_) | (refine wpPl_read (v := ?_) rfl ?_ (fun w1 h1 => ?_) ?_; rotate_left 1; rfl; (obtain ⟨os1, d1, rfl⟩ := h1.more; go_simp; first | done | rfl)) | (refine wpPl_gread (v := ?_) (c := ?_) rfl rfl rfl rfl ?_ (fun hc w1 h1 => ?_) ?_; rotate_left 2; (first | exact gc_t _ | exact gc_f _ | exact gc_gt _ _ | exact gc_gf _ _); (obtain ⟨os1, d1, rfl⟩ := h1.more; (try simp only [gv_of hc]); (try (have hc1 := and_l hc; (try simp only [gv_of hc1]); (try (have hc2 := and_l hc1; (try simp only [gv_of hc2]))))); go_simp; first | done | rfl))
  try simp only [Act.put, List.setIfInBounds_toArray, List.set_cons_zero, List.set_cons_succ]
  (refine wpPl_eff rfl ?_ (fun K hK => ?_); (first | with_reducible rfl | rfl | (go_simp; done)); go_simp; (go_at_call 25; (with_reducible refine (ry _).mono ?_); rintro e w' ⟨rfl, hbx⟩; obtain ⟨osx, dx, rfl⟩ := hbx.more); refine hK _ _ ?_ ?_; (repeat (first | with_reducible exact Ext.refl _ | with_reducible exact ext_d _ _ _ _ | with_reducible exact ext_app _ _ _ _ _ | with_reducible exact ext_app2 _ _ _ _ _ _ | with_reducible exact ext_app3 _ _ _ _ _ _ _ | with_reducible exact ext_app4 _ _ _ _ _ _ _ _ | with_reducible exact ext_app5 _ _ _ _ _ _ _ _ _ | ((with_reducible refine ext_suffix ⟨_, ?_⟩); (try simp only [Array.append_assoc]); rfl) | with_reducible apply Ext.drew | with_reducible apply Ext.alloc | with_reducible apply Ext.more_ | apply Ext.drew | apply Ext.alloc | apply Ext.more_)))
  try simp only [Act.put, List.setIfInBounds_toArray, List.set_cons_zero, List.set_cons_succ]
  first | (refine wpPl_skip rfl rfl ?_) | (refine wpPl_read (v := ?_) rfl ?_ (fun w1 h1 => ?_) ?_; rotate_left 1; rfl; (obtain ⟨os1, d1, rfl⟩ := h1.more; go_simp; first | done | rfl)) | (refine wpPl_gread (v := ?_) (c := ?_) rfl rfl rfl rfl ?_ (fun hc w1 h1 => ?_) ?_; rotate_left 2; (first | exact gc_t _ | exact gc_f _ | exact gc_gt _ _ | exact gc_gf _ _); (obtain ⟨os1, d1, rfl⟩ := h1.more; (try simp only [gv_of hc]); (try (have hc1 := and_l hc; (try simp only [gv_of hc1]); (try (have hc2 := and_l hc1; (try simp only [gv_of hc2]))))); go_simp; first | done | rfl))
  try simp only [Act.put, List.setIfInBounds_toArray, List.set_cons_zero, List.set_cons_succ]
  first | (refine wpPl_pick_and rfl rfl rfl rfl rfl rfl ?_) | (refine wpPl_pick_or rfl rfl rfl rfl rfl rfl ?_) | (refine wpPl_read (v := ?_) rfl ?_ (fun w1 h1 => ?_) ?_; rotate_left 1; rfl; (obtain ⟨os1, d1, rfl⟩ := h1.more; go_simp; first | done | rfl))
  try simp only [Act.put, List.setIfInBounds_toArray, List.set_cons_zero, List.set_cons_succ]
  refine wpPl_nil ?_
  by_cases hC : C ≤ 0
  · have hC2 := HO1.out hC
    go_upto_region 9 with (go_at_call 33; (with_reducible refine (k1 _).mono ?_); rintro e w' ⟨rfl, hbx⟩; obtain ⟨osx, dx, rfl⟩ := hbx.more)
    go_wp2_with (go_at_call 33; (with_reducible refine (k2 _).mono ?_); rintro e w' ⟨rfl, hbx⟩; obtain ⟨osx, dx, rfl⟩ := hbx.more)
    go_ret
    exact ⟨by simp [hC2], hxW.trans (by repeat (first | with_reducible exact Ext.refl _ | with_reducible apply Ext.drew | with_reducible apply Ext.alloc | with_reducible apply Ext.more_))⟩
  · have hC2 := HO2.out (by omega)
    go_upto_region 10 with (go_at_call 33; (with_reducible refine (k1 _).mono ?_); rintro e w' ⟨rfl, hbx⟩; obtain ⟨osx, dx, rfl⟩ := hbx.more)
    go_wp2_with (go_at_call 33; (with_reducible refine (k3 _).mono ?_); rintro e w' ⟨rfl, hbx⟩; obtain ⟨osx, dx, rfl⟩ := hbx.more)
    go_ret
    exact ⟨by simp [hC2], hxW.trans (by repeat (first | with_reducible exact Ext.refl _ | with_reducible apply Ext.drew | with_reducible apply Ext.alloc | with_reducible apply Ext.more_))⟩
set_option maxRecDepth 100000 in
set_option maxHeartbeats 2000000 in
theorem numPlaces_any (ma ea mb eb p : Int) (w : World) (htab : Tab w) (hma : I64 ma) (hmb : I64 mb) (hp : I64 p) :
    Calls Tryd.prog 7 #[NV ma ea, NV mb eb, .int .i64 p] w fun e w' => e = .returned (.bool true) ∧ Ext w w' := by
  by_cases h1 : Rt ma ea
  · by_cases h2 : Rt mb eb
    · exact places_yes ma ea mb eb p w htab h1 h2 hp
    · have HT := Lib.hid htab
      have r1 := rtB_yes h1
      have r2 := rtB_no h2
      clear h1 h2 htab
      go_enter Tryd.func7, Tryd.ntmps7
      go_wp2_with (first | (go_at_call 14; (with_reducible refine (awake_any _ (HT.out.ext (by repeat (first | with_reducible exact Ext.refl _ | with_reducible apply Ext.drew | with_reducible apply Ext.alloc | with_reducible apply Ext.more_)))).mono ?_); rintro e w' ⟨rfl, hbx⟩; obtain ⟨osx, dx, rfl⟩ := hbx.more) | (go_at_call 18; (with_reducible refine (rright_rt _ _ _ (by assumption)).mono ?_); rintro e w' ⟨rfl, hbr⟩; obtain ⟨osr, dr, rfl⟩ := hbr.more))
      go_ret
      exact ⟨rfl, by repeat (first | with_reducible exact Ext.refl _ | with_reducible apply Ext.drew | with_reducible apply Ext.alloc | with_reducible apply Ext.more_)⟩
  · have HT := Lib.hid htab
    have r1 := rtB_no h1
    clear h1 htab
    go_enter Tryd.func7, Tryd.ntmps7
    go_wp2_with (first | (go_at_call 14; (with_reducible refine (awake_any _ (HT.out.ext (by repeat (first | with_reducible exact Ext.refl _ | with_reducible apply Ext.drew | with_reducible apply Ext.alloc | with_reducible apply Ext.more_)))).mono ?_); rintro e w' ⟨rfl, hbx⟩; obtain ⟨osx, dx, rfl⟩ := hbx.more) | (go_at_call 18; (with_reducible refine (rright_rt _ _ _ (by assumption)).mono ?_); rintro e w' ⟨rfl, hbr⟩; obtain ⟨osr, dr, rfl⟩ := hbr.more))
    go_ret
    exact ⟨rfl, by repeat (first | with_reducible exact Ext.refl _ | with_reducible apply Ext.drew | with_reducible apply Ext.alloc | with_reducible apply Ext.more_)⟩
end Go.Proofs.YtihfiegopnjeiaaDoor
