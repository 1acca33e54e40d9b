/- The law NumOrder, walked. -/
import Derived.Test.YtihfiegopnjeiaaDoorOrd
namespace Go.Proofs.YtihfiegopnjeiaaDoor
set_option linter.unusedSimpArgs false
set_option linter.unusedVariables false
open Go.RowKit NM

/-- The law's three numbers in their variables. -/
structure NO (w : World) (m1 e1 m2 e2 mc ec : Int) (wx : World) : Prop where
  a : PV wx w.heap.size m1 e1
  b : PV wx (w.heap.size + 1) m2 e2
  c : PV wx (w.heap.size + 1 + 1) mc ec
  ext : Ext w wx
theorem PV.other {w : World} {p : Nat} {m e : Int} (h : PV w p m e) {q : Addr} (v : Value) (hq : q.block ≠ p) : PV (w.setCell q v) p m e := by
  unfold PV; rw [RowKit.Below.heap_setCell _ _ _ _ (Ne.symm hq)]; exact h
theorem NO.swap {w wx : World} {m1 e1 m2 e2 mc ec : Int} (h : NO w m1 e1 m2 e2 mc ec wx) : NO w m2 e2 m1 e1 mc ec ((((wx.setCell ⟨w.heap.size, 0, none⟩ (.int .i64 m2)).setCell ⟨w.heap.size, 1, none⟩ (.int .i64 e2)).setCell ⟨w.heap.size + 1, 0, none⟩ (.int .i64 m1)).setCell ⟨w.heap.size + 1, 1, none⟩ (.int .i64 e1)) := by
  refine ⟨?_, ?_, ?_, ?_⟩
  · exact ((h.a.set m2 e2).other _ (by show w.heap.size + 1 ≠ _; omega)).other _ (by show w.heap.size + 1 ≠ _; omega)
  · exact PV.set ((h.b.other _ (by show w.heap.size ≠ _; omega)).other _ (by show w.heap.size ≠ _; omega)) m1 e1
  · exact (((h.c.other _ (by show w.heap.size ≠ _; omega)).other _ (by show w.heap.size ≠ _; omega)).other _ (by show w.heap.size + 1 ≠ _; omega)).other _ (by show w.heap.size + 1 ≠ _; omega)
  · exact (((h.ext.set _ (Nat.le_refl _)).set _ (Nat.le_refl _)).set _ (Nat.le_succ _)).set _ (Nat.le_succ _)
theorem NO.of_ext {w wx wy : World} {m1 e1 m2 e2 mc ec : Int} (h : NO w m1 e1 m2 e2 mc ec wx) (hx : Ext wx wy) : NO w m1 e1 m2 e2 mc ec wy := ⟨h.a.ext hx, h.b.ext hx, h.c.ext hx, h.ext.trans hx⟩
theorem NO.hi {w wx : World} {m1 e1 m2 e2 mc ec : Int} {q : Addr} (v : Value) (h : NO w m1 e1 m2 e2 mc ec wx) (hq : w.heap.size + 1 + 1 < q.block) : NO w m1 e1 m2 e2 mc ec (wx.setCell q v) :=
  ⟨h.a.other v (by omega), h.b.other v (by omega), h.c.other v (by omega), h.ext.set _ (by omega)⟩
set_option maxRecDepth 100000 in
set_option maxHeartbeats 8000000 in
theorem order_yes (ma ea mb eb mc ec : Int) (w : World) (htab : Tab w) (h1 : Rt ma ea) (h2 : Rt mb eb) (h3 : Rt mc ec) :
    Calls Tryd.prog 12 #[NV ma ea, NV mb eb, NV mc ec] w fun e w' => e = .returned (.bool true) ∧ Ext w w' := by
  have HT := Lib.hid htab
  have r1 := rtB_yes h1
  have r2 := rtB_yes h2
  have r3 := rtB_yes h3
  have hma := (Rt_i64 h1).1
  have hmb := (Rt_i64 h2).1
  have hmc := (Rt_i64 h3).1
  have k1 := fun W => cmp_any ma ea mb eb W hma hmb
  have hle := cmp_le h1 h2
  have hle2 := cmp_le h2 h1
  rw [cmp_flip] at hle2
  have HLE := Lib.hid hle
  have HLE2 := Lib.hid hle2
  have H1 := Lib.hid h1
  have H2 := Lib.hid h2
  have H3 := Lib.hid h3
  generalize cmpS ma ea mb eb = C at *
  clear htab h1 h2 h3 hle hle2
  go_enter Tryd.func12, Tryd.ntmps12
  go_upto_region 5 with (first | (go_at_call 14; (with_reducible refine (awake_any _ (HT.out.ext (by repeat (first | with_reducible exact Ext.refl _ | with_reducible apply Ext.drew | with_reducible apply Ext.alloc | with_reducible apply Ext.more_)))).mono ?_); rintro e w' ⟨rfl, hbx⟩; obtain ⟨osx, dx, rfl⟩ := hbx.more) | (go_at_call 18; (with_reducible refine (rright_rt _ _ _ (by assumption)).mono ?_); rintro e w' ⟨rfl, hbr⟩; obtain ⟨osr, dr, rfl⟩ := hbr.more))
  refine wp_world fun W hW => ?_
  have hNO : NO w ma ea mb eb mc ec W := by
    rw [hW]
    exact (⟨((PV.new ma ea rfl).ext ((Ext.refl _).alloc _)).ext ((Ext.refl _).alloc _), (PV.new mb eb (by simp)).ext ((Ext.refl _).alloc _), PV.new mc ec (by simp), ((((Ext.refl w).alloc _).alloc _).alloc _)⟩ : NO w ma ea mb eb mc ec _).of_ext (ext_more _ _ _)
  clear hW
  have c0 := hNO.a.c0
  have c1 := hNO.a.c1
  have c2 := hNO.b.c0
  have c3 := hNO.b.c1
  have f0 := hNO.a.fz 0
  have f1 := hNO.a.fz 1
  have f2 := hNO.b.fz 0
  have f3 := hNO.b.fz 1
  have l0 := hNO.a.lt
  have l1 := hNO.b.lt
  have HNO := Lib.hid hNO
  clear hNO
  go_upto_if 29 with (go_at_call 33; (with_reducible refine (k1 _).mono ?_); rintro e w' ⟨rfl, hbx⟩; obtain ⟨osx, dx, rfl⟩ := hbx.more)
  go_cut [6] (fun s6 wx => s6 = .bool false ∧ Hid (∃ m1 e1 m2 e2, NO w m1 e1 m2 e2 mc ec wx ∧ Rt m1 e1 ∧ Rt m2 e2 ∧ sc m1 e1 ≤ sc m2 e2))
  case first =>
    by_cases hC : 0 < C
    · go_wp2
      go_meet
      exact ⟨rfl, mb, eb, ma, ea, HNO.out.swap.of_ext (ext_more _ _ _), H2.out, H1.out, HLE2.out.1 (by omega)⟩
    · go_wp2
      go_meet
      exact ⟨rfl, ma, ea, mb, eb, HNO.out.of_ext (ext_more _ _ _), H1.out, H2.out, HLE.out.1 (by omega)⟩
  case rest =>
  obtain ⟨rfl, HX⟩ := hcut
  clear HNO c0 c1 c2 c3 f0 f1 f2 f3 l0 l1 HLE HLE2 k1 H1 H2 r1 r2
  obtain ⟨m1, e1, m2, e2, hno, q1, q2, hle⟩ := HX.out
  have hm1 := (Rt_i64 q1).1
  have hm2 := (Rt_i64 q2).1
  have ad1 := fun W hW => add_any m1 e1 mc ec W hW hm1 hmc
  have ad2 := fun W hW => add_any m2 e2 mc ec W hW hm2 hmc
  have sb1 := fun W hW => sub_any m1 e1 mc ec W hW hm1 hmc
  have sb2 := fun W hW => sub_any m2 e2 mc ec W hW hm2 hmc
  have mu1 := fun W hW => mul_any m1 e1 mc ec W hW hm1 hmc
  have mu2 := fun W hW => mul_any m2 e2 mc ec W hW hm2 hmc
  have kA := fun W => cmp_any _ (re (addS m1 e1 mc ec)) _ (re (addS m2 e2 mc ec)) W (Rt_i64 (add_rt m1 e1 mc ec)).1 (Rt_i64 (add_rt m2 e2 mc ec)).1
  have kS := fun W => cmp_any _ (re (subS m1 e1 mc ec)) _ (re (subS m2 e2 mc ec)) W (Rt_i64 (sub_rt m1 e1 mc ec)).1 (Rt_i64 (sub_rt m2 e2 mc ec)).1
  have kM := fun W => cmp_any _ (re (mulS m1 e1 mc ec)) _ (re (mulS m2 e2 mc ec)) W (Rt_i64 (mul_rt_ m1 e1 mc ec)).1 (Rt_i64 (mul_rt_ m2 e2 mc ec)).1
  have oA := ord_add q1 q2 H3.out hle
  have oS := ord_sub q1 q2 H3.out hle
  have oM := fun hc => ord_mul q1 q2 H3.out hc hle
  generalize cmpS (rm (addS m1 e1 mc ec)) (re (addS m1 e1 mc ec)) (rm (addS m2 e2 mc ec)) (re (addS m2 e2 mc ec)) = CA at *
  generalize cmpS (rm (subS m1 e1 mc ec)) (re (subS m1 e1 mc ec)) (rm (subS m2 e2 mc ec)) (re (subS m2 e2 mc ec)) = CS at *
  generalize cmpS (rm (mulS m1 e1 mc ec)) (re (mulS m1 e1 mc ec)) (rm (mulS m2 e2 mc ec)) (re (mulS m2 e2 mc ec)) = CM at *
  generalize addS m1 e1 mc ec = A1 at *
  generalize addS m2 e2 mc ec = A2 at *
  generalize subS m1 e1 mc ec = S1 at *
  generalize subS m2 e2 mc ec = S2 at *
  generalize mulS m1 e1 mc ec = M1 at *
  generalize mulS m2 e2 mc ec = M2 at *
  clear q1 q2 hle HX H3
  have c0 := hno.a.c0
  have c1 := hno.a.c1
  have c2 := hno.b.c0
  have c3 := hno.b.c1
  have c4 := hno.c.c0
  have c5 := hno.c.c1
  have l0 := hno.a.lt
  have l1 := hno.b.lt
  have l2 := hno.c.lt
  have hxw := hno.ext
  have HNO := Lib.hid hno
  clear hno
  go_upto_region 8 with (go_at_call 36; (with_reducible refine (ad1 _ (HT.out.ext (hxw.trans (by repeat (first | with_reducible exact Ext.refl _ | with_reducible apply Ext.drew | with_reducible apply Ext.alloc | with_reducible apply Ext.more_))))).mono ?_); rintro e w' ⟨rfl, hbx⟩; obtain ⟨os1, d1, rfl⟩ := hbx.more)
  go_upto_region 9 with (go_at_call 36; (with_reducible refine (ad2 _ (HT.out.ext (hxw.trans (by repeat (first | with_reducible exact Ext.refl _ | with_reducible apply Ext.drew | with_reducible apply Ext.alloc | with_reducible apply Ext.more_))))).mono ?_); rintro e w' ⟨rfl, hbx⟩; obtain ⟨os2, d2, rfl⟩ := hbx.more)
  refine wp_world fun W1 hW1 => ?_
  have hp7 : PV W1 (wc.heap.size + os1.size) (rm A1) (re A1) := by rw [hW1]; exact (((PV.new (w := more wc os1 d1) _ _ (by simp)).ext (ext_more _ _ _)).ext ((Ext.refl _).alloc _))
  have hp9 : PV W1 (wc.heap.size + os1.size + 1 + os2.size) (rm A2) (re A2) := by rw [hW1]; exact PV.new _ _ (by simp)
  have hno1 : NO w m1 e1 m2 e2 mc ec W1 := by rw [hW1]; exact HNO.out.of_ext (by repeat (first | with_reducible exact Ext.refl _ | with_reducible apply Ext.drew | with_reducible apply Ext.alloc | with_reducible apply Ext.more_))
  have hne : wc.heap.size + os1.size ≠ wc.heap.size + os1.size + 1 + os2.size := by omega
  have hb7 : w.heap.size + 1 + 1 < wc.heap.size + os1.size := by omega
  have hb9 : w.heap.size + 1 + 1 < wc.heap.size + os1.size + 1 + os2.size := by omega
  clear hW1 HNO hbx
  generalize wc.heap.size + os1.size = p7 at *
  generalize p7 + 1 + os2.size = p9 at *
  clear c0 c1 c2 c3 c4 c5 l0 l1 l2 hxw
  have u0 := hp7.c0
  have u1 := hp7.c1
  have v0 := hp9.c0
  have v1 := hp9.c1
  have m7 := hp7.lt
  have m9 := hp9.lt
  go_cut [8, 10, 53] (fun _ _ s wx => s = .bool false ∧ Ext W1 wx)
  case first =>
    cases hA : A1.isSome with
    | true =>
      cases hB : A2.isSome with
      | true =>
        have hC := oA hA hB
        have hC' : ¬ 0 < CA := by omega
        go_wp2_with (go_at_call 33; (with_reducible refine (kA _).mono ?_); rintro e w' ⟨rfl, hbx⟩; obtain ⟨osx, dx, rfl⟩ := hbx.more)
        go_meet
        exact ⟨congrArg Value.bool (decide_eq_false (by omega)), ext_more _ _ _⟩
      | false =>
        go_wp2
        go_meet
        exact ⟨rfl, Ext.refl _⟩
    | false =>
      go_wp2
      go_meet
      exact ⟨rfl, Ext.refl _⟩
  case rest =>
  obtain ⟨rfl, hxc⟩ := hcut
  clear u0 u1 v0 v1 m7 m9
  have hno := hno1.of_ext hxc
  have hq7 := hp7.ext hxc
  have hq9 := hp9.ext hxc
  clear hno1 hp7 hp9
  have c0 := hno.a.c0
  have c1 := hno.a.c1
  have c2 := hno.b.c0
  have c3 := hno.b.c1
  have c4 := hno.c.c0
  have c5 := hno.c.c1
  have l0 := hno.a.lt
  have l1 := hno.b.lt
  have l2 := hno.c.lt
  have hxw := hno.ext
  have u0 := hq7.c0
  have u1 := hq7.c1
  have v0 := hq9.c0
  have v1 := hq9.c1
  have uf0 := hq7.fz 0
  have uf1 := hq7.fz 1
  have vf0 := hq9.fz 0
  have vf1 := hq9.fz 1
  have m7 := hq7.lt
  have m9 := hq9.lt
  have HNO := Lib.hid hno
  have HQ7 := Lib.hid hq7
  have HQ9 := Lib.hid hq9
  clear hno hq7 hq9
  go_upto_region 12 with (go_at_call 38; (with_reducible refine (sb1 _ (HT.out.ext (hxw.trans (by repeat (first | with_reducible exact Ext.refl _ | with_reducible apply Ext.drew | with_reducible apply Ext.alloc | with_reducible apply Ext.more_))))).mono ?_); rintro e w' ⟨rfl, hbx⟩; obtain ⟨os1, d1, rfl⟩ := hbx.more)
  refine wp_world fun Wa hWa => ?_
  have hnoa : NO w m1 e1 m2 e2 mc ec Wa := by rw [hWa]; exact ((HNO.out.hi _ hb7).hi _ hb7).of_ext (ext_more _ _ _)
  have hp7a : PV Wa p7 (rm S1) (re S1) := by rw [hWa]; exact (HQ7.out.set _ _).ext (ext_more _ _ _)
  have hp9a : ∃ x y, PV Wa p9 x y := ⟨_, _, by rw [hWa]; exact ((HQ9.out.other _ hne).other _ hne).ext (ext_more _ _ _)⟩
  clear hWa hbx c0 c1 c2 c3 c4 c5 l0 l1 l2 hxw u0 u1 v0 v1 uf0 uf1 vf0 vf1 m7 m9 HNO HQ7 HQ9 hxc
  obtain ⟨x9, y9, hp9a⟩ := hp9a
  have c2 := hnoa.b.c0
  have c3 := hnoa.b.c1
  have c4 := hnoa.c.c0
  have c5 := hnoa.c.c1
  have l1 := hnoa.b.lt
  have l2 := hnoa.c.lt
  have hxw := hnoa.ext
  have v0 := hp9a.c0
  have v1 := hp9a.c1
  have vf0 := hp9a.fz 0
  have vf1 := hp9a.fz 1
  have m9 := hp9a.lt
  have HNO := Lib.hid hnoa
  have HQ7 := Lib.hid hp7a
  have HQ9 := Lib.hid hp9a
  clear hnoa hp7a hp9a
  go_upto_region 13 with (go_at_call 38; (with_reducible refine (sb2 _ (HT.out.ext (hxw.trans (by repeat (first | with_reducible exact Ext.refl _ | with_reducible apply Ext.drew | with_reducible apply Ext.alloc | with_reducible apply Ext.more_))))).mono ?_); rintro e w' ⟨rfl, hbx⟩; obtain ⟨os2, d2, rfl⟩ := hbx.more)
  refine wp_world fun W2 hWb => ?_
  have hno1 : NO w m1 e1 m2 e2 mc ec W2 := by rw [hWb]; exact ((HNO.out.hi _ hb9).hi _ hb9).of_ext (ext_more _ _ _)
  have hp7 : PV W2 p7 (rm S1) (re S1) := by rw [hWb]; exact ((HQ7.out.other _ (Ne.symm hne)).other _ (Ne.symm hne)).ext (ext_more _ _ _)
  have hp9 : PV W2 p9 (rm S2) (re S2) := by rw [hWb]; exact (HQ9.out.set _ _).ext (ext_more _ _ _)
  clear hWb hbx c2 c3 c4 c5 l1 l2 hxw v0 v1 vf0 vf1 m9 HNO HQ7 HQ9
  have u0 := hp7.c0
  have u1 := hp7.c1
  have v0 := hp9.c0
  have v1 := hp9.c1
  have m7 := hp7.lt
  have m9 := hp9.lt
  go_cut [8, 10, 75] (fun _ _ s wx => s = .bool false ∧ Ext W2 wx)
  case first =>
    cases hA : S1.isSome with
    | true =>
      cases hB : S2.isSome with
      | true =>
        have hC := oS hA hB
        have hC' : ¬ 0 < CS := by omega
        go_wp2_with (go_at_call 33; (with_reducible refine (kS _).mono ?_); rintro e w' ⟨rfl, hbx⟩; obtain ⟨osx, dx, rfl⟩ := hbx.more)
        go_meet
        exact ⟨congrArg Value.bool (decide_eq_false (by omega)), ext_more _ _ _⟩
      | false =>
        go_wp2
        go_meet
        exact ⟨rfl, Ext.refl _⟩
    | false =>
      go_wp2
      go_meet
      exact ⟨rfl, Ext.refl _⟩
  case rest =>
  obtain ⟨rfl, hxc⟩ := hcut
  clear u0 u1 v0 v1 m7 m9
  have hno := hno1.of_ext hxc
  have hq7 := hp7.ext hxc
  have hq9 := hp9.ext hxc
  clear hno1 hp7 hp9
  have c0 := hno.a.c0
  have c1 := hno.a.c1
  have c2 := hno.b.c0
  have c3 := hno.b.c1
  have c4 := hno.c.c0
  have c5 := hno.c.c1
  have l0 := hno.a.lt
  have l1 := hno.b.lt
  have l2 := hno.c.lt
  have hxw := hno.ext
  have u0 := hq7.c0
  have u1 := hq7.c1
  have v0 := hq9.c0
  have v1 := hq9.c1
  have uf0 := hq7.fz 0
  have uf1 := hq7.fz 1
  have vf0 := hq9.fz 0
  have vf1 := hq9.fz 1
  have m7 := hq7.lt
  have m9 := hq9.lt
  have HNO := Lib.hid hno
  have HQ7 := Lib.hid hq7
  have HQ9 := Lib.hid hq9
  clear hno hq7 hq9
  by_cases hmn : mc < 0
  · go_wp2
    go_ret
    exact ⟨rfl, hxw⟩
  · have oM := oM (by omega)
    go_upto_region 17 with fail
    go_upto_region 18 with (go_at_call 29; (with_reducible refine (mu1 _ (HT.out.ext (hxw.trans (by repeat (first | with_reducible exact Ext.refl _ | with_reducible apply Ext.drew | with_reducible apply Ext.alloc | with_reducible apply Ext.more_))))).mono ?_); rintro e w' ⟨rfl, hbx⟩; obtain ⟨os1, d1, rfl⟩ := hbx.more)
    refine wp_world fun Wa hWa => ?_
    have hnoa : NO w m1 e1 m2 e2 mc ec Wa := by rw [hWa]; exact ((HNO.out.hi _ hb7).hi _ hb7).of_ext (ext_more _ _ _)
    have hp7a : PV Wa p7 (rm M1) (re M1) := by rw [hWa]; exact (HQ7.out.set _ _).ext (ext_more _ _ _)
    have hp9a : ∃ x y, PV Wa p9 x y := ⟨_, _, by rw [hWa]; exact ((HQ9.out.other _ hne).other _ hne).ext (ext_more _ _ _)⟩
    clear hWa hbx c0 c1 c2 c3 c4 c5 l0 l1 l2 hxw u0 u1 v0 v1 uf0 uf1 vf0 vf1 m7 m9 HNO HQ7 HQ9 hxc
    obtain ⟨x9, y9, hp9a⟩ := hp9a
    have c2 := hnoa.b.c0
    have c3 := hnoa.b.c1
    have c4 := hnoa.c.c0
    have c5 := hnoa.c.c1
    have l1 := hnoa.b.lt
    have l2 := hnoa.c.lt
    have hxw := hnoa.ext
    have v0 := hp9a.c0
    have v1 := hp9a.c1
    have vf0 := hp9a.fz 0
    have vf1 := hp9a.fz 1
    have m9 := hp9a.lt
    have HNO := Lib.hid hnoa
    have HQ7 := Lib.hid hp7a
    have HQ9 := Lib.hid hp9a
    clear hnoa hp7a hp9a
    go_upto_region 19 with (go_at_call 29; (with_reducible refine (mu2 _ (HT.out.ext (hxw.trans (by repeat (first | with_reducible exact Ext.refl _ | with_reducible apply Ext.drew | with_reducible apply Ext.alloc | with_reducible apply Ext.more_))))).mono ?_); rintro e w' ⟨rfl, hbx⟩; obtain ⟨os2, d2, rfl⟩ := hbx.more)
    refine wp_world fun W3 hWb => ?_
    have hno1 : NO w m1 e1 m2 e2 mc ec W3 := by rw [hWb]; exact ((HNO.out.hi _ hb9).hi _ hb9).of_ext (ext_more _ _ _)
    have hp7 : PV W3 p7 (rm M1) (re M1) := by rw [hWb]; exact ((HQ7.out.other _ (Ne.symm hne)).other _ (Ne.symm hne)).ext (ext_more _ _ _)
    have hp9 : PV W3 p9 (rm M2) (re M2) := by rw [hWb]; exact (HQ9.out.set _ _).ext (ext_more _ _ _)
    clear hWb hbx c2 c3 c4 c5 l1 l2 hxw v0 v1 vf0 vf1 m9 HNO HQ7 HQ9
    have u0 := hp7.c0
    have u1 := hp7.c1
    have v0 := hp9.c0
    have v1 := hp9.c1
    have m7 := hp7.lt
    have m9 := hp9.lt
    have hxw := hno1.ext
    cases hA : M1.isSome with
    | true =>
      cases hB : M2.isSome with
      | true =>
        have hC := oM hA hB
        go_wp2_with (go_at_call 33; (with_reducible refine (kM _).mono ?_); rintro e w' ⟨rfl, hbx⟩; obtain ⟨osx, dx, rfl⟩ := hbx.more)
        go_ret
        exact ⟨by simp [hC], hxw.trans (ext_more _ _ _)⟩
      | false =>
        go_wp2
        go_ret
        exact ⟨rfl, hxw⟩
    | false =>
      go_wp2
      go_ret
      exact ⟨rfl, hxw⟩
set_option maxRecDepth 100000 in
set_option maxHeartbeats 2000000 in
theorem numOrder_any (ma ea mb eb mc ec : Int) (w : World) (htab : Tab w) (hma : I64 ma) (hmb : I64 mb) (hmc : I64 mc) :
    Calls Tryd.prog 12 #[NV ma ea, NV mb eb, NV mc ec] w fun e w' => e = .returned (.bool true) ∧ Ext w w' := by
  by_cases h1 : Rt ma ea
  · by_cases h2 : Rt mb eb
    · by_cases h3 : Rt mc ec
      · exact order_yes ma ea mb eb mc ec w htab h1 h2 h3
      · have HT := Lib.hid htab
        have r1 := rtB_yes h1
        have r2 := rtB_yes h2
        have r3 := rtB_no h3
        clear h1 h2 h3 htab
        go_enter Tryd.func12, Tryd.ntmps12
        go_wp2_with (first | (go_at_call 14; (with_reducible refine (awake_any _ (HT.out.ext (by repeat (first | with_reducible exact Ext.refl _ | with_reducible apply Ext.drew | with_reducible apply Ext.alloc | with_reducible apply Ext.more_)))).mono ?_); rintro e w' ⟨rfl, hbx⟩; obtain ⟨osx, dx, rfl⟩ := hbx.more) | (go_at_call 18; (with_reducible refine (rright_rt _ _ _ (by assumption)).mono ?_); rintro e w' ⟨rfl, hbr⟩; obtain ⟨osr, dr, rfl⟩ := hbr.more))
        go_ret
        exact ⟨rfl, by repeat (first | with_reducible exact Ext.refl _ | with_reducible apply Ext.drew | with_reducible apply Ext.alloc | with_reducible apply Ext.more_)⟩
    · have HT := Lib.hid htab
      have r1 := rtB_yes h1
      have r2 := rtB_no h2
      clear h1 h2 htab
      go_enter Tryd.func12, Tryd.ntmps12
      go_wp2_with (first | (go_at_call 14; (with_reducible refine (awake_any _ (HT.out.ext (by repeat (first | with_reducible exact Ext.refl _ | with_reducible apply Ext.drew | with_reducible apply Ext.alloc | with_reducible apply Ext.more_)))).mono ?_); rintro e w' ⟨rfl, hbx⟩; obtain ⟨osx, dx, rfl⟩ := hbx.more) | (go_at_call 18; (with_reducible refine (rright_rt _ _ _ (by assumption)).mono ?_); rintro e w' ⟨rfl, hbr⟩; obtain ⟨osr, dr, rfl⟩ := hbr.more))
      go_ret
      exact ⟨rfl, by repeat (first | with_reducible exact Ext.refl _ | with_reducible apply Ext.drew | with_reducible apply Ext.alloc | with_reducible apply Ext.more_)⟩
  · have HT := Lib.hid htab
    have r1 := rtB_no h1
    clear h1 htab
    go_enter Tryd.func12, Tryd.ntmps12
    go_wp2_with (first | (go_at_call 14; (with_reducible refine (awake_any _ (HT.out.ext (by repeat (first | with_reducible exact Ext.refl _ | with_reducible apply Ext.drew | with_reducible apply Ext.alloc | with_reducible apply Ext.more_)))).mono ?_); rintro e w' ⟨rfl, hbx⟩; obtain ⟨osx, dx, rfl⟩ := hbx.more) | (go_at_call 18; (with_reducible refine (rright_rt _ _ _ (by assumption)).mono ?_); rintro e w' ⟨rfl, hbr⟩; obtain ⟨osr, dr, rfl⟩ := hbr.more))
    go_ret
    exact ⟨rfl, by repeat (first | with_reducible exact Ext.refl _ | with_reducible apply Ext.drew | with_reducible apply Ext.alloc | with_reducible apply Ext.more_)⟩
end Go.Proofs.YtihfiegopnjeiaaDoor
