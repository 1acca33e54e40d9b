/- counterpaneref01.level, less. -/
import Derived.Test.YtihfiegopnjeiaaDoorWide
namespace Go.Proofs.YtihfiegopnjeiaaDoor
set_option linter.unusedSimpArgs false
set_option linter.unusedVariables false
open Go.RowKit NM

/-- A list of digits, the same number, however many noughts ahead: in memory from 'base' on. -/
def LvOut (w : World) (L N : Nat) (v : Value) (w' : World) : Prop := ∃ A c X, v = .slice A L c ∧ Rd w.heap.size w' A (i6 X) ∧ X.length = L ∧ AllD X ∧ val X = N ∧ L ≤ c
theorem LvOut.ext {w w' w'' : World} {L N : Nat} {v : Value} (h : LvOut w L N v w') (hx : Ext w' w'') : LvOut w L N v w'' := by
  obtain ⟨A, c, X, h1, h2, h3⟩ := h
  exact ⟨A, c, X, h1, h2.ext hx, h3⟩
theorem LvOut.of_own {w w' : World} {l : List Nat} {v : Value} {n : Nat} (h : w'.ownsRow w.heap.size 3 1 v n (i6 l)) (ha : AllD l) : LvOut w n (val l) v w' := by
  obtain ⟨A, c, rfl, h1, rfl⟩ := Dg.of_own (l := l) (k := .i64) h
  exact ⟨A, c, l, rfl, h1.rd, rfl, ha, rfl, h1.1⟩
theorem LvOut.of_own_ {w w' : World} {base : Nat} {l : List Nat} {v : Value} {n : Nat} (h : w'.ownsRow base 3 1 v n (i6 l)) (ha : AllD l) (hb : w.heap.size ≤ base) : LvOut w n (val l) v w' := by
  obtain ⟨A, c, rfl, h1, rfl⟩ := Dg.of_own (l := l) (k := .i64) h
  exact ⟨A, c, l, rfl, h1.rd.mono hb, rfl, ha, rfl, h1.1⟩
theorem val_zeros (l : List Nat) (k : Nat) : val (l ++ List.replicate k 0) = val l * T k := by rw [val_append, val_rep0, List.length_replicate]; omega
theorem val_zero_cons (l : List Nat) : val (0 :: l) = val l := by rw [val_cons]; omega
set_option maxRecDepth 100000 in
set_option maxHeartbeats 2000000 in
theorem level_any (na nb : Bool) (A B : Option Addr) (ca cb : Nat) (la lb : List Nat) (ea eb : Int) (e : Int) (ka kb : Nat) (w : World) (ha : Rd 0 w A (i6 la)) (hb : Rd 0 w B (i6 lb)) (hla : la.length ≤ 1000) (hlb : lb.length ≤ 1000)
    (hka : ea = e + ka) (hkb : eb = e + kb) (hk0 : ka = 0 ∨ kb = 0) (hkk : ka ≤ 10000 ∧ kb ≤ 10000) (he : -1000000 ≤ e ∧ e ≤ 1000000) (hda : AllD la) (hdb : AllD lb) :
    Calls Tryd.prog 70 #[DecV na A la.length ca ea, DecV nb B lb.length cb eb] w fun r w' => (∃ va vb, r = .returned (.tuple #[va, vb, .int .i64 e]) ∧ LvOut w (max (la.length + ka) (lb.length + kb)) (val la * T ka) va w' ∧ LvOut w (max (la.length + ka) (lb.length + kb)) (val lb * T kb) vb w') ∧ Ext w w' := by
  subst hka hkb
  have hwa := fun W hW => wide_any A la.length ca ka la W rfl hW (by omega)
  have hwb := fun W hW => wide_any B lb.length cb kb lb W rfl hW (by omega)
  obtain ⟨i0, hi, hz0, hz1, hz2⟩ := info_parts info_int_
  have HA := Lib.hid ha
  have HB := Lib.hid hb
  have s1 : e + (ka : Int) - e = ka := by omega
  have s2 : e + (kb : Int) - e = kb := by omega
  clear ha hb
  have hcmp : Hid (ka = 0 ∨ kb = 0) := hk0
  clear hk0
  by_cases hlt : kb < ka
  · have e1 : decide (e + (kb : Int) < e + (ka : Int)) = true := by simp; omega
    have hkb0 : kb = 0 := by have := hcmp.out; omega
    subst hkb0
    simp only [show ((0 : Nat) : Int) = 0 from rfl, Int.add_zero] at hwb e1 s2
    simp only [show ((0 : Nat) : Int) = 0 from rfl, Int.add_zero]
    go_enter Tryd.func70, Tryd.ntmps70
    go_wp2_with (first | (go_at_call_of 63 (Value.slice A la.length ca); (with_reducible refine (hwa _ (HA.out.ext (by repeat (first | exact Ext.refl _ | apply Ext.drew | apply Ext.alloc | apply Ext.more_)))).mono ?_); rintro r w' ⟨va, rfl, hva, hxa⟩; obtain ⟨osa, da, rfl⟩ := hxa.more) | (go_at_call 63; (with_reducible refine (hwb _ (HB.out.ext (by repeat (first | exact Ext.refl _ | apply Ext.drew | apply Ext.alloc | apply Ext.more_)))).mono ?_); rintro r w' ⟨vb, rfl, hvb, hxb⟩; obtain ⟨osb, db, rfl⟩ := hxb.more))
    have hLa := (LvOut.of_own_ (w := w) hva (hda.append (AllD.rep _ _ (by omega))) (by simp; omega)).ext hxb
    have hLb := LvOut.of_own_ (w := w) hvb (hdb.append (AllD.rep _ _ (by omega))) (by simp; omega)
    rw [val_zeros] at hLa hLb
    have hxW : Ext w (more (more ((w.alloc (.cells #[.bool na, .slice A la.length ca, .int .i64 (e + (ka : Int))] 45)).alloc (.cells #[.bool nb, .slice B lb.length cb, .int .i64 e] 45)) osa da) osb db) := by repeat (first | exact Ext.refl _ | apply Ext.drew | apply Ext.alloc | apply Ext.more_)
    refine wp_world fun W hW => ?_
    rw [more_more, ← hW] at hLa hLb hxW
    clear hW hva hvb hxa hxb
    obtain ⟨Aa, cx, Xa, rfl, hra, hna, hala, hvala, hcx⟩ := hLa
    obtain ⟨Ab, cy, Xb, rfl, hrb, hnb, halb, hvalb, hcy⟩ := hLb
    generalize hNa : val la * T ka = Na at *
    generalize hNb : val lb * T 0 = Nb at *
    generalize hLLa : la.length + ka = La at *
    generalize hLLb : lb.length + 0 = Lb at *
    have HLa : Hid (LvOut w La Na (.slice Aa La cx) W) := ⟨Aa, cx, Xa, rfl, hra, hna, hala, hvala, hcx⟩
    have HLb : Hid (LvOut w Lb Nb (.slice Ab Lb cy) W) := ⟨Ab, cy, Xb, rfl, hrb, hnb, halb, hvalb, hcy⟩
    have HNa := Lib.hid hNa
    have HNb := Lib.hid hNb
    have HLLa := Lib.hid hLLa
    have HLLb := Lib.hid hLLb
    clear hra hna hala hvala hcx hrb hnb halb hvalb hcy hNa hNb
    have hLab : La ≤ 11000 ∧ Lb ≤ 11000 := by omega
    clear hLLa hLLb hwa hwb e1 s1 s2 hlt
    go_loopw [8] (fun x wr => ∃ L1, La ≤ L1 ∧ L1 ≤ max La Lb ∧ Hid (LvOut w L1 Na x wr) ∧ Hid (LvOut w Lb Nb (.slice Ab Lb cy) wr) ∧ Ext w wr) (fun x _ => Lb - slen x)
    case atStart => exact ⟨La, Nat.le_refl _, by omega, HLa, HLb, hxW⟩
    case round =>
      obtain ⟨L1, hL1, hL2, HX, HY, hxr⟩ := hrel
      obtain ⟨A8, c8, X8, rfl, hrx, hnx, halx, hvx, hcx⟩ := HX.out
      by_cases hll : L1 < Lb
      · have HNX := Lib.hid hnx
        have HVX := Lib.hid hvx
        clear hvx
        go_wp2_with (at_builtin; refine wpList_append_full _ rfl _ _ _ rfl 3 i0 (.int .i64 0) 1 8 Tryd.underlying43 hi hz0 hz1 hz2 rfl (by decide) w.heap.size _ 1 [.int .i64 0] rfl (by simp) rfl ((Rd.one _ _ _).mono hxr.size) (by have := hxr.size; simp; omega) A8 L1 c8 (i6 X8) rfl (by simp; omega) ((Rd.alloc hrx _).mono (Nat.zero_le _)) (one_i6 _) (by simp [maxLen]; omega) (by omega) ?_; intro A9 c9 os9 d9 hr9 hn9 hc9)
        refine ⟨⟨1 + L1, by omega, by omega, ?_, ?_, ?_⟩, by simp [slen]; omega⟩
        · exact ⟨A9, c9, 0 :: X8, rfl, hr9, by simp; omega, AllD.cons (by omega) halx, by rw [val_zero_cons]; exact HVX.out, hc9⟩
        · exact HY.out.ext (by repeat (first | exact Ext.refl _ | apply Ext.drew | apply Ext.alloc | apply Ext.more_))
        · exact hxr.trans (by repeat (first | exact Ext.refl _ | apply Ext.drew | apply Ext.alloc | apply Ext.more_))
      · have HNX := Lib.hid hnx
        have HVX := Lib.hid hvx
        clear hvx
        go_wp2_with fail
        go_loopw [9] (fun y wq => ∃ L2, Lb ≤ L2 ∧ L2 ≤ max La Lb ∧ Hid (LvOut w L2 Nb y wq) ∧ Hid (LvOut w L1 Na (.slice A8 L1 c8) wq) ∧ Ext w wq) (fun y _ => La - slen y)
        case atStart => exact ⟨Lb, Nat.le_refl _, by omega, HY, HX, hxr⟩
        case round =>
          clear hrx hnx halx hcx HNX HVX HX HY hxr
          obtain ⟨L2, hL3, hL4, HY, HX, hxr⟩ := hrel
          obtain ⟨A7, c7, X7, rfl, hrx, hnx, halx, hvx, hcx⟩ := HY.out
          by_cases hll2 : L2 < L1
          · have HNX := Lib.hid hnx
            have HVX := Lib.hid hvx
            clear hvx
            go_wp2_with (at_builtin; refine wpList_append_full _ rfl _ _ _ rfl 3 i0 (.int .i64 0) 1 8 Tryd.underlying43 hi hz0 hz1 hz2 rfl (by decide) w.heap.size _ 1 [.int .i64 0] rfl (by simp) rfl ((Rd.one _ _ _).mono hxr.size) (by have := hxr.size; simp; omega) A7 L2 c7 (i6 X7) rfl (by simp; omega) ((Rd.alloc hrx _).mono (Nat.zero_le _)) (one_i6 _) (by simp [maxLen]; omega) (by omega) ?_; intro A9 c9 os9 d9 hr9 hn9 hc9)
            refine ⟨⟨1 + L2, by omega, by omega, ?_, ?_, ?_⟩, by simp [slen]; omega⟩
            · exact ⟨A9, c9, 0 :: X7, rfl, hr9, by simp; omega, AllD.cons (by omega) halx, by rw [val_zero_cons]; exact HVX.out, hc9⟩
            · exact HX.out.ext (by repeat (first | exact Ext.refl _ | apply Ext.drew | apply Ext.alloc | apply Ext.more_))
            · exact hxr.trans (by repeat (first | exact Ext.refl _ | apply Ext.drew | apply Ext.alloc | apply Ext.more_))
          · clear hvx
            go_wp2_with fail
            go_ret3
            rw [HNa.out, HNb.out, HLLa.out, HLLb.out]
            obtain rfl : L1 = max La Lb := by omega
            obtain rfl : L2 = max La Lb := by omega
            exact ⟨⟨_, _, rfl, HX.out, HY.out⟩, hxr⟩
  · have e1 : decide (e + (kb : Int) < e + (ka : Int)) = false := by simp; omega
    have hka0 : ka = 0 := by have := hcmp.out; omega
    subst hka0
    simp only [show ((0 : Nat) : Int) = 0 from rfl, Int.add_zero] at hwa e1 s1
    simp only [show ((0 : Nat) : Int) = 0 from rfl, Int.add_zero]
    go_enter Tryd.func70, Tryd.ntmps70
    go_wp2_with (first | (go_at_call_of 63 (Value.slice A la.length ca); (with_reducible refine (hwa _ (HA.out.ext (by repeat (first | exact Ext.refl _ | apply Ext.drew | apply Ext.alloc | apply Ext.more_)))).mono ?_); rintro r w' ⟨va, rfl, hva, hxa⟩; obtain ⟨osa, da, rfl⟩ := hxa.more) | (go_at_call 63; (with_reducible refine (hwb _ (HB.out.ext (by repeat (first | exact Ext.refl _ | apply Ext.drew | apply Ext.alloc | apply Ext.more_)))).mono ?_); rintro r w' ⟨vb, rfl, hvb, hxb⟩; obtain ⟨osb, db, rfl⟩ := hxb.more))
    have hLa := (LvOut.of_own_ (w := w) hva (hda.append (AllD.rep _ _ (by omega))) (by simp; omega)).ext hxb
    have hLb := LvOut.of_own_ (w := w) hvb (hdb.append (AllD.rep _ _ (by omega))) (by simp; omega)
    rw [val_zeros] at hLa hLb
    have hxW : Ext w (more (more ((w.alloc (.cells #[.bool na, .slice A la.length ca, .int .i64 e] 45)).alloc (.cells #[.bool nb, .slice B lb.length cb, .int .i64 (e + (kb : Int))] 45)) osa da) osb db) := by repeat (first | exact Ext.refl _ | apply Ext.drew | apply Ext.alloc | apply Ext.more_)
    refine wp_world fun W hW => ?_
    rw [more_more, ← hW] at hLa hLb hxW
    clear hW hva hvb hxa hxb
    obtain ⟨Aa, cx, Xa, rfl, hra, hna, hala, hvala, hcx⟩ := hLa
    obtain ⟨Ab, cy, Xb, rfl, hrb, hnb, halb, hvalb, hcy⟩ := hLb
    generalize hNa : val la * T 0 = Na at *
    generalize hNb : val lb * T kb = Nb at *
    generalize hLLa : la.length + 0 = La at *
    generalize hLLb : lb.length + kb = Lb at *
    have HLa : Hid (LvOut w La Na (.slice Aa La cx) W) := ⟨Aa, cx, Xa, rfl, hra, hna, hala, hvala, hcx⟩
    have HLb : Hid (LvOut w Lb Nb (.slice Ab Lb cy) W) := ⟨Ab, cy, Xb, rfl, hrb, hnb, halb, hvalb, hcy⟩
    have HNa := Lib.hid hNa
    have HNb := Lib.hid hNb
    have HLLa := Lib.hid hLLa
    have HLLb := Lib.hid hLLb
    clear hra hna hala hvala hcx hrb hnb halb hvalb hcy hNa hNb
    have hLab : La ≤ 11000 ∧ Lb ≤ 11000 := by omega
    clear hLLa hLLb hwa hwb e1 s1 s2 hlt
    go_loopw [8] (fun x wr => ∃ L1, La ≤ L1 ∧ L1 ≤ max La Lb ∧ Hid (LvOut w L1 Na x wr) ∧ Hid (LvOut w Lb Nb (.slice Ab Lb cy) wr) ∧ Ext w wr) (fun x _ => Lb - slen x)
    case atStart => exact ⟨La, Nat.le_refl _, by omega, HLa, HLb, hxW⟩
    case round =>
      obtain ⟨L1, hL1, hL2, HX, HY, hxr⟩ := hrel
      obtain ⟨A8, c8, X8, rfl, hrx, hnx, halx, hvx, hcx⟩ := HX.out
      by_cases hll : L1 < Lb
      · have HNX := Lib.hid hnx
        have HVX := Lib.hid hvx
        clear hvx
        go_wp2_with (at_builtin; refine wpList_append_full _ rfl _ _ _ rfl 3 i0 (.int .i64 0) 1 8 Tryd.underlying43 hi hz0 hz1 hz2 rfl (by decide) w.heap.size _ 1 [.int .i64 0] rfl (by simp) rfl ((Rd.one _ _ _).mono hxr.size) (by have := hxr.size; simp; omega) A8 L1 c8 (i6 X8) rfl (by simp; omega) ((Rd.alloc hrx _).mono (Nat.zero_le _)) (one_i6 _) (by simp [maxLen]; omega) (by omega) ?_; intro A9 c9 os9 d9 hr9 hn9 hc9)
        refine ⟨⟨1 + L1, by omega, by omega, ?_, ?_, ?_⟩, by simp [slen]; omega⟩
        · exact ⟨A9, c9, 0 :: X8, rfl, hr9, by simp; omega, AllD.cons (by omega) halx, by rw [val_zero_cons]; exact HVX.out, hc9⟩
        · exact HY.out.ext (by repeat (first | exact Ext.refl _ | apply Ext.drew | apply Ext.alloc | apply Ext.more_))
        · exact hxr.trans (by repeat (first | exact Ext.refl _ | apply Ext.drew | apply Ext.alloc | apply Ext.more_))
      · have HNX := Lib.hid hnx
        have HVX := Lib.hid hvx
        clear hvx
        go_wp2_with fail
        go_loopw [9] (fun y wq => ∃ L2, Lb ≤ L2 ∧ L2 ≤ max La Lb ∧ Hid (LvOut w L2 Nb y wq) ∧ Hid (LvOut w L1 Na (.slice A8 L1 c8) wq) ∧ Ext w wq) (fun y _ => La - slen y)
        case atStart => exact ⟨Lb, Nat.le_refl _, by omega, HY, HX, hxr⟩
        case round =>
          clear hrx hnx halx hcx HNX HVX HX HY hxr
          obtain ⟨L2, hL3, hL4, HY, HX, hxr⟩ := hrel
          obtain ⟨A7, c7, X7, rfl, hrx, hnx, halx, hvx, hcx⟩ := HY.out
          by_cases hll2 : L2 < L1
          · have HNX := Lib.hid hnx
            have HVX := Lib.hid hvx
            clear hvx
            go_wp2_with (at_builtin; refine wpList_append_full _ rfl _ _ _ rfl 3 i0 (.int .i64 0) 1 8 Tryd.underlying43 hi hz0 hz1 hz2 rfl (by decide) w.heap.size _ 1 [.int .i64 0] rfl (by simp) rfl ((Rd.one _ _ _).mono hxr.size) (by have := hxr.size; simp; omega) A7 L2 c7 (i6 X7) rfl (by simp; omega) ((Rd.alloc hrx _).mono (Nat.zero_le _)) (one_i6 _) (by simp [maxLen]; omega) (by omega) ?_; intro A9 c9 os9 d9 hr9 hn9 hc9)
            refine ⟨⟨1 + L2, by omega, by omega, ?_, ?_, ?_⟩, by simp [slen]; omega⟩
            · exact ⟨A9, c9, 0 :: X7, rfl, hr9, by simp; omega, AllD.cons (by omega) halx, by rw [val_zero_cons]; exact HVX.out, hc9⟩
            · exact HX.out.ext (by repeat (first | exact Ext.refl _ | apply Ext.drew | apply Ext.alloc | apply Ext.more_))
            · exact hxr.trans (by repeat (first | exact Ext.refl _ | apply Ext.drew | apply Ext.alloc | apply Ext.more_))
          · clear hvx
            go_wp2_with fail
            go_ret3
            rw [HNa.out, HNb.out, HLLa.out, HLLb.out]
            obtain rfl : L1 = max La Lb := by omega
            obtain rfl : L2 = max La Lb := by omega
            exact ⟨⟨_, _, rfl, HX.out, HY.out⟩, hxr⟩
end Go.Proofs.YtihfiegopnjeiaaDoor
