/- What the rows' proofs lean on: the contracts of the functions that they reach, and plain facts (part Q2). -/
import Derived.WalkKit
import Derived.WalkLawsBesides
import Derived.WalkSpells
import Derived.Outline
import Derived.Below
import Derived.Deep.RegionHeld3
import Derived.Deep.DeepCutAuto
import Derived.Deep.AppendLies
import Derived.Maps.AppendAt
import Derived.Lib.Hide
import Derived.OrdersHeld
import Derived.Test.YtmjmijjbijlhfaaGreatDoorProg
import Derived.Shelf.Small.Bits
import Derived.Shelf.Small.Strs
import Derived.Shelf.Strconv.Itoa0
import Derived.Shelf.Strconv.Itoa1
import Derived.Shelf.LaysM
import Derived.Shelf.Strconv.Itoa2
import Derived.Shelf.Bits.Mul64
import Derived.Ground.SlgmProg
import Derived.Shelf.SortM.Plain
import Derived.Shelf.SortM.SortNone
import Derived.Lib.ItoaMem
import Derived.Lib.OthersKept
import Derived.Deep.CutBlock
import Derived.Laws.Bits64b
import Derived.Lib.AppendZeros
import Derived.Lib.Bytealg
import Derived.Laws.RangeAny
import Derived.Maps.OwnSet
import Derived.Maps.Own
import Derived.Laws.EntriesVeiled
import Derived.Lib.ConvBytes
import Derived.Lib.SlBytesRow
import Derived.Lib.SmallJoins
import Derived.RegionTactic
import Derived.Sort.OwnSortedInts
import Derived.Shelf.SlIter.Nil
import Derived.Ground.GgzProg
import Derived.Test.YtmjmijjbijlhfaaGreatDoorRows
import Derived.Test.YtmjmijjbijlhfaaGreatDoorCards
import Derived.Test.YtmjmijjbijlhfaaGreatDoorTie
import Derived.ProofKit
import Derived.LaidMore
import Derived.OpenShut
import Derived.ShutString
import Derived.ChangeOld
import Derived.Stop.Joined
import Derived.Deep.Slices
import Derived.SevenTiedAt
import Derived.Test.YtmjmijjbijlhfaaGreatDoorQ1
set_option linter.unusedSimpArgs false
set_option linter.unusedVariables false
set_option maxRecDepth 100000
namespace Go.Proofs.YtmjmijjbijlhfaaGreatDoor
open Go.RowKit NM
/-- A list of digits, the same number, however many noughts ahead: in memory from 'base' on. -/
def LvOut (w : World) (L N : Nat) (v : Value) (w' : World) : Prop := ∃ A c X, v = .slice A L c ∧ Rd w.heap.size w' A (i6 X) ∧ X.length = L ∧ AllD X ∧ val X = N ∧ L ≤ c
theorem LvOut.ext {w w' w'' : World} {L N : Nat} {v : Value} (h : LvOut w L N v w') (hx : Ext w' w'') : LvOut w L N v w'' := by
  obtain ⟨A, c, X, h1, h2, h3⟩ := h
  exact ⟨A, c, X, h1, h2.ext hx, h3⟩
theorem LvOut.of_own_ {w w' : World} {base : Nat} {l : List Nat} {v : Value} {n : Nat} (h : w'.ownsRow base 3 1 v n (i6 l)) (ha : AllD l) (hb : w.heap.size ≤ base) : LvOut w n (val l) v w' := by
  obtain ⟨A, c, rfl, h1, rfl⟩ := Dg.of_own (l := l) (k := .i64) h
  exact ⟨A, c, l, rfl, h1.rd.mono hb, rfl, ha, rfl, h1.1⟩
theorem val_zeros (l : List Nat) (k : Nat) : val (l ++ List.replicate k 0) = val l * T k := by rw [val_append, val_rep0, List.length_replicate]; omega
theorem val_zero_cons (l : List Nat) : val (0 :: l) = val l := by rw [val_cons]; omega
set_option maxHeartbeats 2000000 in
theorem level_any (na nb : Bool) (A B : Option Addr) (ca cb : Nat) (la lb : List Nat) (ea eb : Int) (e : Int) (ka kb : Nat) (w : World) (ha : Rd 0 w A (i6 la)) (hb : Rd 0 w B (i6 lb)) (hla : la.length ≤ 1000) (hlb : lb.length ≤ 1000)
    (hka : ea = e + ka) (hkb : eb = e + kb) (hk0 : ka = 0 ∨ kb = 0) (hkk : ka ≤ 10000 ∧ kb ≤ 10000) (he : -1000000 ≤ e ∧ e ≤ 1000000) (hda : AllD la) (hdb : AllD lb) :
    Calls Tryz.prog 194 #[DecV na A la.length ca ea, DecV nb B lb.length cb eb] w fun r w' => (∃ va vb, r = .returned (.tuple #[va, vb, .int .i64 e]) ∧ LvOut w (max (la.length + ka) (lb.length + kb)) (val la * T ka) va w' ∧ LvOut w (max (la.length + ka) (lb.length + kb)) (val lb * T kb) vb w') ∧ Ext w w' := by
  subst hka hkb
  have hwa := fun W hW => wide_any A la.length ca ka la W rfl hW (by omega)
  have hwb := fun W hW => wide_any B lb.length cb kb lb W rfl hW (by omega)
  obtain ⟨i0, hi, hz0, hz1, hz2⟩ := info_parts info_int_
  have HA := Lib.hid ha
  have HB := Lib.hid hb
  have s1 : e + (ka : Int) - e = ka := by omega
  have s2 : e + (kb : Int) - e = kb := by omega
  clear ha hb
  have hcmp : Hid (ka = 0 ∨ kb = 0) := hk0
  clear hk0
  by_cases hlt : kb < ka
  · have e1 : decide (e + (kb : Int) < e + (ka : Int)) = true := by simp; omega
    have hkb0 : kb = 0 := by have := hcmp.out; omega
    subst hkb0
    simp only [show ((0 : Nat) : Int) = 0 from rfl, Int.add_zero] at hwb e1 s2
    simp only [show ((0 : Nat) : Int) = 0 from rfl, Int.add_zero]
    go_enter Tryz.func194, Tryz.ntmps194
    go_wp2_with (first | (go_at_call_of 209 (Value.slice A la.length ca); (with_reducible refine (hwa _ (HA.out.ext (by repeat (first | exact Ext.refl _ | apply Ext.drew | apply Ext.alloc | apply Ext.more_)))).mono ?_); rintro r w' ⟨va, rfl, hva, hxa⟩; obtain ⟨osa, da, rfl⟩ := hxa.more) | (go_at_call 209; (with_reducible refine (hwb _ (HB.out.ext (by repeat (first | exact Ext.refl _ | apply Ext.drew | apply Ext.alloc | apply Ext.more_)))).mono ?_); rintro r w' ⟨vb, rfl, hvb, hxb⟩; obtain ⟨osb, db, rfl⟩ := hxb.more))
    have hLa := (LvOut.of_own_ (w := w) hva (hda.append (AllD.rep _ _ (by omega))) (by simp; omega)).ext hxb
    have hLb := LvOut.of_own_ (w := w) hvb (hdb.append (AllD.rep _ _ (by omega))) (by simp; omega)
    rw [val_zeros] at hLa hLb
    have hxW : Ext w (more (more ((w.alloc (.cells #[.bool na, .slice A la.length ca, .int .i64 (e + (ka : Int))] 85)).alloc (.cells #[.bool nb, .slice B lb.length cb, .int .i64 e] 85)) osa da) osb db) := by repeat (first | exact Ext.refl _ | apply Ext.drew | apply Ext.alloc | apply Ext.more_)
    refine wp_world fun W hW => ?_
    rw [more_more, ← hW] at hLa hLb hxW
    clear hW hva hvb hxa hxb
    obtain ⟨Aa, cx, Xa, rfl, hra, hna, hala, hvala, hcx⟩ := hLa
    obtain ⟨Ab, cy, Xb, rfl, hrb, hnb, halb, hvalb, hcy⟩ := hLb
    generalize hNa : val la * T ka = Na at *
    generalize hNb : val lb * T 0 = Nb at *
    generalize hLLa : la.length + ka = La at *
    generalize hLLb : lb.length + 0 = Lb at *
    have HLa : Hid (LvOut w La Na (.slice Aa La cx) W) := ⟨Aa, cx, Xa, rfl, hra, hna, hala, hvala, hcx⟩
    have HLb : Hid (LvOut w Lb Nb (.slice Ab Lb cy) W) := ⟨Ab, cy, Xb, rfl, hrb, hnb, halb, hvalb, hcy⟩
    have HNa := Lib.hid hNa
    have HNb := Lib.hid hNb
    have HLLa := Lib.hid hLLa
    have HLLb := Lib.hid hLLb
    clear hra hna hala hvala hcx hrb hnb halb hvalb hcy hNa hNb
    have hLab : La ≤ 11000 ∧ Lb ≤ 11000 := by omega
    clear hLLa hLLb hwa hwb e1 s1 s2 hlt
    go_loopw [8] (fun x wr => ∃ L1, La ≤ L1 ∧ L1 ≤ max La Lb ∧ Hid (LvOut w L1 Na x wr) ∧ Hid (LvOut w Lb Nb (.slice Ab Lb cy) wr) ∧ Ext w wr) (fun x _ => Lb - slen x)
    case atStart => exact ⟨La, Nat.le_refl _, by omega, HLa, HLb, hxW⟩
    case round =>
      obtain ⟨L1, hL1, hL2, HX, HY, hxr⟩ := hrel
      obtain ⟨A8, c8, X8, rfl, hrx, hnx, halx, hvx, hcx⟩ := HX.out
      by_cases hll : L1 < Lb
      · have HNX := Lib.hid hnx
        have HVX := Lib.hid hvx
        clear hvx
        go_wp2_with (at_builtin; refine wpList_append_full _ rfl _ _ _ rfl 3 i0 (.int .i64 0) 1 8 Tryz.underlying37 hi hz0 hz1 hz2 rfl (by decide) w.heap.size _ 1 [.int .i64 0] rfl (by simp) rfl ((Rd.one _ _ _).mono hxr.size) (by have := hxr.size; simp; omega) A8 L1 c8 (i6 X8) rfl (by simp; omega) ((Rd.alloc hrx _).mono (Nat.zero_le _)) (one_i6 _) (by simp [maxLen]; omega) (by omega) ?_; intro A9 c9 os9 d9 hr9 hn9 hc9)
        refine ⟨⟨1 + L1, by omega, by omega, ?_, ?_, ?_⟩, by simp [slen]; omega⟩
        · exact ⟨A9, c9, 0 :: X8, rfl, hr9, by simp; omega, AllD.cons (by omega) halx, by rw [val_zero_cons]; exact HVX.out, hc9⟩
        · exact HY.out.ext (by repeat (first | exact Ext.refl _ | apply Ext.drew | apply Ext.alloc | apply Ext.more_))
        · exact hxr.trans (by repeat (first | exact Ext.refl _ | apply Ext.drew | apply Ext.alloc | apply Ext.more_))
      · have HNX := Lib.hid hnx
        have HVX := Lib.hid hvx
        clear hvx
        go_wp2_with fail
        go_loopw [9] (fun y wq => ∃ L2, Lb ≤ L2 ∧ L2 ≤ max La Lb ∧ Hid (LvOut w L2 Nb y wq) ∧ Hid (LvOut w L1 Na (.slice A8 L1 c8) wq) ∧ Ext w wq) (fun y _ => La - slen y)
        case atStart => exact ⟨Lb, Nat.le_refl _, by omega, HY, HX, hxr⟩
        case round =>
          clear hrx hnx halx hcx HNX HVX HX HY hxr
          obtain ⟨L2, hL3, hL4, HY, HX, hxr⟩ := hrel
          obtain ⟨A7, c7, X7, rfl, hrx, hnx, halx, hvx, hcx⟩ := HY.out
          by_cases hll2 : L2 < L1
          · have HNX := Lib.hid hnx
            have HVX := Lib.hid hvx
            clear hvx
            go_wp2_with (at_builtin; refine wpList_append_full _ rfl _ _ _ rfl 3 i0 (.int .i64 0) 1 8 Tryz.underlying37 hi hz0 hz1 hz2 rfl (by decide) w.heap.size _ 1 [.int .i64 0] rfl (by simp) rfl ((Rd.one _ _ _).mono hxr.size) (by have := hxr.size; simp; omega) A7 L2 c7 (i6 X7) rfl (by simp; omega) ((Rd.alloc hrx _).mono (Nat.zero_le _)) (one_i6 _) (by simp [maxLen]; omega) (by omega) ?_; intro A9 c9 os9 d9 hr9 hn9 hc9)
            refine ⟨⟨1 + L2, by omega, by omega, ?_, ?_, ?_⟩, by simp [slen]; omega⟩
            · exact ⟨A9, c9, 0 :: X7, rfl, hr9, by simp; omega, AllD.cons (by omega) halx, by rw [val_zero_cons]; exact HVX.out, hc9⟩
            · exact HX.out.ext (by repeat (first | exact Ext.refl _ | apply Ext.drew | apply Ext.alloc | apply Ext.more_))
            · exact hxr.trans (by repeat (first | exact Ext.refl _ | apply Ext.drew | apply Ext.alloc | apply Ext.more_))
          · clear hvx
            go_wp2_with fail
            go_ret3
            rw [HNa.out, HNb.out, HLLa.out, HLLb.out]
            obtain rfl : L1 = max La Lb := by omega
            obtain rfl : L2 = max La Lb := by omega
            exact ⟨⟨_, _, rfl, HX.out, HY.out⟩, hxr⟩
  · have e1 : decide (e + (kb : Int) < e + (ka : Int)) = false := by simp; omega
    have hka0 : ka = 0 := by have := hcmp.out; omega
    subst hka0
    simp only [show ((0 : Nat) : Int) = 0 from rfl, Int.add_zero] at hwa e1 s1
    simp only [show ((0 : Nat) : Int) = 0 from rfl, Int.add_zero]
    go_enter Tryz.func194, Tryz.ntmps194
    go_wp2_with (first | (go_at_call_of 209 (Value.slice A la.length ca); (with_reducible refine (hwa _ (HA.out.ext (by repeat (first | exact Ext.refl _ | apply Ext.drew | apply Ext.alloc | apply Ext.more_)))).mono ?_); rintro r w' ⟨va, rfl, hva, hxa⟩; obtain ⟨osa, da, rfl⟩ := hxa.more) | (go_at_call 209; (with_reducible refine (hwb _ (HB.out.ext (by repeat (first | exact Ext.refl _ | apply Ext.drew | apply Ext.alloc | apply Ext.more_)))).mono ?_); rintro r w' ⟨vb, rfl, hvb, hxb⟩; obtain ⟨osb, db, rfl⟩ := hxb.more))
    have hLa := (LvOut.of_own_ (w := w) hva (hda.append (AllD.rep _ _ (by omega))) (by simp; omega)).ext hxb
    have hLb := LvOut.of_own_ (w := w) hvb (hdb.append (AllD.rep _ _ (by omega))) (by simp; omega)
    rw [val_zeros] at hLa hLb
    have hxW : Ext w (more (more ((w.alloc (.cells #[.bool na, .slice A la.length ca, .int .i64 e] 85)).alloc (.cells #[.bool nb, .slice B lb.length cb, .int .i64 (e + (kb : Int))] 85)) osa da) osb db) := by repeat (first | exact Ext.refl _ | apply Ext.drew | apply Ext.alloc | apply Ext.more_)
    refine wp_world fun W hW => ?_
    rw [more_more, ← hW] at hLa hLb hxW
    clear hW hva hvb hxa hxb
    obtain ⟨Aa, cx, Xa, rfl, hra, hna, hala, hvala, hcx⟩ := hLa
    obtain ⟨Ab, cy, Xb, rfl, hrb, hnb, halb, hvalb, hcy⟩ := hLb
    generalize hNa : val la * T 0 = Na at *
    generalize hNb : val lb * T kb = Nb at *
    generalize hLLa : la.length + 0 = La at *
    generalize hLLb : lb.length + kb = Lb at *
    have HLa : Hid (LvOut w La Na (.slice Aa La cx) W) := ⟨Aa, cx, Xa, rfl, hra, hna, hala, hvala, hcx⟩
    have HLb : Hid (LvOut w Lb Nb (.slice Ab Lb cy) W) := ⟨Ab, cy, Xb, rfl, hrb, hnb, halb, hvalb, hcy⟩
    have HNa := Lib.hid hNa
    have HNb := Lib.hid hNb
    have HLLa := Lib.hid hLLa
    have HLLb := Lib.hid hLLb
    clear hra hna hala hvala hcx hrb hnb halb hvalb hcy hNa hNb
    have hLab : La ≤ 11000 ∧ Lb ≤ 11000 := by omega
    clear hLLa hLLb hwa hwb e1 s1 s2 hlt
    go_loopw [8] (fun x wr => ∃ L1, La ≤ L1 ∧ L1 ≤ max La Lb ∧ Hid (LvOut w L1 Na x wr) ∧ Hid (LvOut w Lb Nb (.slice Ab Lb cy) wr) ∧ Ext w wr) (fun x _ => Lb - slen x)
    case atStart => exact ⟨La, Nat.le_refl _, by omega, HLa, HLb, hxW⟩
    case round =>
      obtain ⟨L1, hL1, hL2, HX, HY, hxr⟩ := hrel
      obtain ⟨A8, c8, X8, rfl, hrx, hnx, halx, hvx, hcx⟩ := HX.out
      by_cases hll : L1 < Lb
      · have HNX := Lib.hid hnx
        have HVX := Lib.hid hvx
        clear hvx
        go_wp2_with (at_builtin; refine wpList_append_full _ rfl _ _ _ rfl 3 i0 (.int .i64 0) 1 8 Tryz.underlying37 hi hz0 hz1 hz2 rfl (by decide) w.heap.size _ 1 [.int .i64 0] rfl (by simp) rfl ((Rd.one _ _ _).mono hxr.size) (by have := hxr.size; simp; omega) A8 L1 c8 (i6 X8) rfl (by simp; omega) ((Rd.alloc hrx _).mono (Nat.zero_le _)) (one_i6 _) (by simp [maxLen]; omega) (by omega) ?_; intro A9 c9 os9 d9 hr9 hn9 hc9)
        refine ⟨⟨1 + L1, by omega, by omega, ?_, ?_, ?_⟩, by simp [slen]; omega⟩
        · exact ⟨A9, c9, 0 :: X8, rfl, hr9, by simp; omega, AllD.cons (by omega) halx, by rw [val_zero_cons]; exact HVX.out, hc9⟩
        · exact HY.out.ext (by repeat (first | exact Ext.refl _ | apply Ext.drew | apply Ext.alloc | apply Ext.more_))
        · exact hxr.trans (by repeat (first | exact Ext.refl _ | apply Ext.drew | apply Ext.alloc | apply Ext.more_))
      · have HNX := Lib.hid hnx
        have HVX := Lib.hid hvx
        clear hvx
        go_wp2_with fail
        go_loopw [9] (fun y wq => ∃ L2, Lb ≤ L2 ∧ L2 ≤ max La Lb ∧ Hid (LvOut w L2 Nb y wq) ∧ Hid (LvOut w L1 Na (.slice A8 L1 c8) wq) ∧ Ext w wq) (fun y _ => La - slen y)
        case atStart => exact ⟨Lb, Nat.le_refl _, by omega, HY, HX, hxr⟩
        case round =>
          clear hrx hnx halx hcx HNX HVX HX HY hxr
          obtain ⟨L2, hL3, hL4, HY, HX, hxr⟩ := hrel
          obtain ⟨A7, c7, X7, rfl, hrx, hnx, halx, hvx, hcx⟩ := HY.out
          by_cases hll2 : L2 < L1
          · have HNX := Lib.hid hnx
            have HVX := Lib.hid hvx
            clear hvx
            go_wp2_with (at_builtin; refine wpList_append_full _ rfl _ _ _ rfl 3 i0 (.int .i64 0) 1 8 Tryz.underlying37 hi hz0 hz1 hz2 rfl (by decide) w.heap.size _ 1 [.int .i64 0] rfl (by simp) rfl ((Rd.one _ _ _).mono hxr.size) (by have := hxr.size; simp; omega) A7 L2 c7 (i6 X7) rfl (by simp; omega) ((Rd.alloc hrx _).mono (Nat.zero_le _)) (one_i6 _) (by simp [maxLen]; omega) (by omega) ?_; intro A9 c9 os9 d9 hr9 hn9 hc9)
            refine ⟨⟨1 + L2, by omega, by omega, ?_, ?_, ?_⟩, by simp [slen]; omega⟩
            · exact ⟨A9, c9, 0 :: X7, rfl, hr9, by simp; omega, AllD.cons (by omega) halx, by rw [val_zero_cons]; exact HVX.out, hc9⟩
            · exact HX.out.ext (by repeat (first | exact Ext.refl _ | apply Ext.drew | apply Ext.alloc | apply Ext.more_))
            · exact hxr.trans (by repeat (first | exact Ext.refl _ | apply Ext.drew | apply Ext.alloc | apply Ext.more_))
          · clear hvx
            go_wp2_with fail
            go_ret3
            rw [HNa.out, HNb.out, HLLa.out, HLLb.out]
            obtain rfl : L1 = max La Lb := by omega
            obtain rfl : L2 = max La Lb := by omega
            exact ⟨⟨_, _, rfl, HX.out, HY.out⟩, hxr⟩
end Go.Proofs.YtmjmijjbijlhfaaGreatDoor
namespace Go.Proofs.YtmjmijjbijlhfaaGreatDoor
open Go.RowKit NM
theorem split_at_ {l : List Nat} {j d : Nat} (h : l[j]? = some d) : l = l.take j ++ d :: l.drop (j + 1) := by
  have hj : j < l.length := by
    rcases Nat.lt_or_ge j l.length with h1 | h1
    · exact h1
    · rw [List.getElem?_eq_none h1] at h; cases h
  have h1 := List.take_append_drop j l
  rw [List.drop_eq_getElem_cons hj] at h1
  rw [List.getElem?_eq_getElem hj] at h
  rw [← Option.some.inj h]
  exact h1.symm
theorem less_at {X Y : List Nat} {j x y : Nat} (hl : X.length = Y.length) (hX : AllD X) (hY : AllD Y) (he : X.take j = Y.take j) (hx : X[j]? = some x) (hy : Y[j]? = some y) (hne : x ≠ y) : decide (x < y) = decide (val X < val Y) := by
  have h1 := split_at_ hx
  have h2 := split_at_ hy
  have h3 := val_lt (hX.drop (j + 1))
  have h4 := val_lt (hY.drop (j + 1))
  have h5 : (X.drop (j + 1)).length = (Y.drop (j + 1)).length := by simp; omega
  have e1 : val X = val (X.take j) * T (X.drop (j + 1)).length * 10 + x * T (X.drop (j + 1)).length + val (X.drop (j + 1)) := by
    conv => lhs; rw [h1]
    rw [val_append, val_cons, List.length_cons, T_succ, Nat.mul_comm 10, ← Nat.mul_assoc, Nat.add_assoc]
  have e2 : val Y = val (X.take j) * T (X.drop (j + 1)).length * 10 + y * T (X.drop (j + 1)).length + val (Y.drop (j + 1)) := by
    conv => lhs; rw [h2]
    rw [val_append, val_cons, List.length_cons, T_succ, Nat.mul_comm 10, ← Nat.mul_assoc, Nat.add_assoc, he, h5]
  rw [← h5] at h4
  rw [e1, e2]
  generalize T (X.drop (j + 1)).length = t at *
  generalize val (X.take j) * t * 10 = z at *
  rw [Bool.eq_iff_iff, decide_eq_true_eq, decide_eq_true_eq]
  constructor
  · intro h
    have := Nat.mul_le_mul_right t (show x + 1 ≤ y from h)
    rw [Nat.add_mul, Nat.one_mul] at this
    omega
  · intro h
    rcases Nat.lt_or_ge x y with h6 | h6
    · exact h6
    · exfalso
      have := Nat.mul_le_mul_right t (show y + 1 ≤ x by omega)
      rw [Nat.add_mul, Nat.one_mul] at this
      omega
set_option maxHeartbeats 2000000 in
theorem less_any (A B : Option Addr) (ca cb L : Nat) (X Y : List Nat) (w : World) (hA : Rd 0 w A (i6 X)) (hB : Rd 0 w B (i6 Y)) (hX : X.length = L) (hY : Y.length = L) (hXd : AllD X) (hYd : AllD Y) (hL : L ≤ 1000000) :
    Calls Tryz.prog 195 #[.slice A L ca, .slice B L cb] w fun e w' => e = .returned (.bool (decide (val X < val Y))) ∧ Ext w w' := by
  have HA := Lib.hid hA
  have HB := Lib.hid hB
  have HX := Lib.hid hX
  have HY := Lib.hid hY
  generalize hR : decide (val X < val Y) = R
  have HR := Lib.hid hR
  clear hA hB hX hY hR
  go_enter Tryz.func195, Tryz.ntmps195
  go_wp2
  go_loopw [5] (fun i wr => ∃ j : Nat, j ≤ L ∧ i = .int .i64 (j : Int) ∧ Hid (X.take j = Y.take j) ∧ Ext w wr) (fun i _ => L - (intOf i).toNat)
  case atStart => exact ⟨0, Nat.zero_le _, rfl, by show _ = _; rfl, Ext.refl _⟩
  case round =>
    obtain ⟨j, hj, rfl, HE, hxr⟩ := hrel
    by_cases hlt : j < L
    · obtain ⟨x, hx⟩ : ∃ x, X[j]? = some x := ⟨X[j]'(by have := HX.out; omega), by rw [List.getElem?_eq_getElem]⟩
      obtain ⟨y, hy⟩ : ∃ y, Y[j]? = some y := ⟨Y[j]'(by have := HY.out; omega), by rw [List.getElem?_eq_getElem]⟩
      obtain ⟨ba, oa, rfl, _, hcx⟩ := Rd.at_ (HA.out.ext hxr) hx
      obtain ⟨bb, ob, rfl, _, hcy⟩ := Rd.at_ (HB.out.ext hxr) hy
      have hba := lt_of_cell hcx
      have hbb := lt_of_cell hcy
      simp only at hba hbb
      by_cases hne : x = y
      · subst hne
        have HN : Hid (X.take (j + 1) = Y.take (j + 1)) := by show _ = _; rw [take_at hx, take_at hy, HE.out]
        clear hx hy
        go_wp2
        refine wp_plan (S := Ext _) [(0, 0), (1, 0), (2, 0), (3, 0), (4, 0), (5, 0), (6, 0), (7, 0), (8, 0)] [] (by kernel_rfl) (by kernel_rfl) (by kernel_rfl) (fun _ _ d _ _ h => by cases d <;> exact h) (Ext.drew (Ext.refl _)) ?_
        iterate 9 ((refine wpPl_read (v := ?_) rfl ?_ (fun _ h => ?_) ?_; rotate_left 1; rfl; (obtain ⟨_, _, rfl⟩ := h.more; go_simp; try rfl)); try simp only [Act.put, zqA, zqB, zqC])
        refine wpPl_nil ?_
        go_wp2
        refine ⟨⟨j + 1, by omega, by go_num, HN, ?_⟩, by simp [intOf]; omega⟩
        exact hxr.trans (by repeat (first | exact Ext.refl _ | apply Ext.drew | apply Ext.alloc | apply Ext.more_))
      · have hRR : decide (x < y) = R := by rw [less_at (by rw [HX.out, HY.out]) hXd hYd HE.out hx hy hne]; exact HR.out
        have HRR := Lib.hid hRR
        have e1 : ((x : Int) == (y : Int)) = false := by simp; omega
        have e2 : (x == y) = false := by simp; omega
        clear hx hy hRR
        go_wp2
        refine wp_plan (S := Ext _) [(0, 0), (1, 0), (2, 0), (3, 0), (4, 0), (5, 0), (6, 0), (7, 0), (8, 0)] [] (by kernel_rfl) (by kernel_rfl) (by kernel_rfl) (fun _ _ d _ _ h => by cases d <;> exact h) (Ext.drew (Ext.refl _)) ?_
        iterate 9 ((refine wpPl_read (v := ?_) rfl ?_ (fun _ h => ?_) ?_; rotate_left 1; rfl; (obtain ⟨_, _, rfl⟩ := h.more; go_simp; try rfl)); try simp only [Act.put, zqA, zqB, zqC])
        refine wpPl_nil ?_
        go_wp2
        refine wp_plan (S := Ext _) [(0, 0), (1, 0), (2, 0), (3, 0), (4, 0), (5, 0), (6, 0), (7, 0), (8, 0), (9, 0)] [] (by kernel_rfl) (by kernel_rfl) (by kernel_rfl) (fun _ _ d _ _ h => by cases d <;> exact h) (Ext.drew (Ext.refl _)) ?_
        iterate 10 ((refine wpPl_read (v := ?_) rfl ?_ (fun _ h => ?_) ?_; rotate_left 1; rfl; (obtain ⟨_, _, rfl⟩ := h.more; go_simp; try rfl)); try simp only [Act.put, zqA, zqB, zqC])
        refine wpPl_nil ?_
        go_wp2
        go_ret
        exact ⟨ret_bool HRR.out, hxr.trans (by repeat (first | exact Ext.refl _ | apply Ext.drew | apply Ext.alloc | apply Ext.more_))⟩
    · have hRR : R = false := by
        rw [← HR.out]
        have h1 := HE.out
        rw [List.take_of_length_le (by have := HX.out; omega), List.take_of_length_le (by have := HY.out; omega)] at h1
        rw [h1]; simp
      subst hRR
      go_wp2
      go_ret
      exact ⟨rfl, hxr⟩
end Go.Proofs.YtmjmijjbijlhfaaGreatDoor
namespace Go.Proofs.YtmjmijjbijlhfaaGreatDoor
open Go.RowKit NM
theorem made_dg {k : IntKind} {ty : TypeId} {base n : Nat} {w : World} (L : Nat) (hn : n = w.heap.size) (hb : base ≤ n) : Dg k ty base (w.alloc (.cells (madeCells #[.int k 0] L) ty)) (some ⟨n, 0, none⟩) L (List.replicate L 0) := by
  have hC : madeCells #[.int k 0] L = ((List.replicate L 0).map fun d : Nat => Value.int k (d : Int)).toArray := by
    apply Array.ext'
    rw [toList_madeCells_one]
    simp
  have := Dg.new (k := k) (ty := ty) (base := base) (List.replicate L 0) hC hn hb
  rw [List.length_replicate] at this
  exact this
theorem Rd.set_low {base : Nat} {w : World} {A : Option Addr} {cs : List Value} {p : Addr} (v : Value) (h : Rd base w A cs) (hp : p.block < base) : Rd base (w.setCell p v) A cs :=
  h.blocks fun b hb => RowKit.Below.heap_setCell _ _ _ _ (by omega)
/-- An exact value, as it is handed back. -/
def DecOut (w : World) (neg : Bool) (L N : Nat) (ex : Int) (e : Ending) (w' : World) : Prop := ∃ A c X, e = .returned (DecV neg A L c ex) ∧ Rd w.heap.size w' A (i6 X) ∧ X.length = L ∧ AllD X ∧ val X = N ∧ L ≤ c
theorem make_int (n : Nat) (hn : n ≤ 100000) (W : World) : (Instr.makeSlice 37 (.int .i64 (n : Int)) (.int .i64 (n : Int))).run Tryz.prog W = .ok (.slice (some ⟨W.heap.size, 0, none⟩) n n) (W.alloc (.cells (madeCells #[.int .i64 0] n) 3)) := by
  obtain ⟨i0, hi, hz0, hz1, hz2⟩ := info_parts info_int_
  have := run_make (P := Tryz.prog) W 37 3 i0 _ Tryz.underlying37 hi hz0 .i64 .i64 (n : Int) (n : Int) (by omega) (by omega) (by rw [hz2]; omega) (by omega)
  simpa [hz1, Value.cells] using this
/-- What Plus keeps in its loops. -/
structure PlusSt (W : World) (L j : Nat) (S : List Nat) (wr : World) : Prop where
  out : Dg .i64 3 W.heap.size wr (some ⟨W.heap.size, 0, none⟩) (L + 1) (List.replicate (j + 1) 0 ++ S)
  len : S.length = L - j
  all : AllD S
  ext : Ext W wr
theorem PlusSt.step {W wr : World} {L j d : Nat} {S : List Nat} (h : PlusSt W L (j + 1) S wr) (hd : d < 10) (hj : j + 1 ≤ L) : PlusSt W L j (d :: S) (wr.setCell ⟨W.heap.size, j + 1, none⟩ (.int .i64 (d : Int))) := by
  refine ⟨?_, by simp [h.len]; omega, AllD.cons hd h.all, h.ext.set _ (Nat.le_refl _)⟩
  have := h.out.set (i := j + 1) (d := d) (by simp; omega)
  rw [Nat.zero_add, List.set_append_left _ _ (by simp)] at this
  have he : (List.replicate (j + 1 + 1) 0).set (j + 1) d = List.replicate (j + 1) 0 ++ [d] := by
    rw [List.replicate_succ', List.set_append_right _ _ (by simp)]; simp
  rw [he, List.append_assoc, List.singleton_append] at this
  exact this
theorem PlusSt.at {W wr : World} {L j : Nat} {S : List Nat} (h : PlusSt W L j S wr) : wr.cell? ⟨W.heap.size, j, none⟩ = some (.int .i64 0) ∧ wr.frozen? ⟨W.heap.size, j, none⟩ = false := by
  obtain ⟨b, off, h1, _, h2, h3⟩ := h.out.at (i := j) (d := 0) (by rw [List.getElem?_append_left (by simp)]; simp [List.getElem?_replicate])
  simp only [Option.some.injEq, Addr.mk.injEq, and_true] at h1
  obtain ⟨rfl, rfl⟩ := h1
  rw [Nat.zero_add] at h2 h3
  exact ⟨h2, h3⟩
theorem PlusSt.drew {W wr : World} {L j : Nat} {S : List Nat} (h : PlusSt W L j S wr) : PlusSt W L j S wr.drew := ⟨h.out, h.len, h.all, h.ext.drew⟩
theorem PlusSt.ext_ {W wr wr' : World} {L j : Nat} {S : List Nat} (h : PlusSt W L j S wr) (hx : Ext wr wr') : PlusSt W L j S wr' := ⟨h.out.ext hx, h.len, h.all, h.ext.trans hx⟩
theorem PlusSt.last {W wr : World} {L : Nat} {S : List Nat} (h : PlusSt W L 0 S wr) (d : Nat) : Dg .i64 3 W.heap.size (wr.setCell ⟨W.heap.size, 0, none⟩ (.int .i64 (d : Int))) (some ⟨W.heap.size, 0, none⟩) (L + 1) (d :: S) := by
  have := h.out.set (i := 0) (d := d) (by simp)
  simpa using this
set_option maxHeartbeats 2000000 in
theorem plus_same (neg : Bool) (A B : Option Addr) (ca cb : Nat) (la lb : List Nat) (ea eb : Int) (e : Int) (ka kb L : Nat) (w : World) (ha : Rd 0 w A (i6 la)) (hb : Rd 0 w B (i6 lb)) (hla : la.length ≤ 1000) (hlb : lb.length ≤ 1000)
    (hka : ea = e + ka) (hkb : eb = e + kb) (hk0 : ka = 0 ∨ kb = 0) (hkk : ka ≤ 10000 ∧ kb ≤ 10000) (he : -1000000 ≤ e ∧ e ≤ 1000000) (hda : AllD la) (hdb : AllD lb) (hL : max (la.length + ka) (lb.length + kb) = L) :
    Calls Tryz.prog 158 #[DecV neg A la.length ca ea, DecV neg B lb.length cb eb] w fun r w' => DecOut w neg (L + 1) (val la * T ka + val lb * T kb) e r w' ∧ Ext w w' := by
  have hlv := fun W h1 h2 => level_any neg neg A B ca cb la lb ea eb e ka kb W h1 h2 hla hlb hka hkb hk0 hkk he hda hdb
  rw [hL] at hlv
  have hLb : L ≤ 11000 := by omega
  have hNa : val la * T ka < T L := by
    rw [← val_zeros]
    exact Nat.lt_of_lt_of_le (val_lt (hda.append (AllD.rep _ _ (by omega)))) (T_mono (by simp; omega))
  have hNb : val lb * T kb < T L := by
    rw [← val_zeros]
    exact Nat.lt_of_lt_of_le (val_lt (hdb.append (AllD.rep _ _ (by omega)))) (T_mono (by simp; omega))
  generalize val la * T ka = Na at *
  generalize val lb * T kb = Nb at *
  have HA := Lib.hid ha
  have HB := Lib.hid hb
  have HNa := Lib.hid hNa
  have HNb := Lib.hid hNb
  clear ha hb hka hkb hk0 hkk hL hNa hNb
  have hmk := make_int (L + 1) (by omega)
  rw [show (((L + 1 : Nat)) : Int) = (L : Int) + 1 by omega] at hmk
  go_enter Tryz.func158, Tryz.ntmps158
  go_upto_region 2 with (go_at_call 194; (with_reducible refine (hlv _ (HA.out.ext (by repeat (first | exact Ext.refl _ | apply Ext.drew | apply Ext.alloc | apply Ext.more_))) (HB.out.ext (by repeat (first | exact Ext.refl _ | apply Ext.drew | apply Ext.alloc | apply Ext.more_)))).mono ?_); rintro r w' ⟨⟨va, vb, rfl, hva, hvb⟩, hx⟩; obtain ⟨os, d, rfl⟩ := hx.more; obtain ⟨Ax, cx, X, rfl, hrx, hnx, hax, hvx, hcx⟩ := hva; obtain ⟨Ay, cy, Y, rfl, hry, hny, hay, hvy, hcy⟩ := hvb)
  refine wp_world fun W hW => ?_
  have c0 : W.cell? ⟨w.heap.size, 0, none⟩ = some (.bool neg) := by rw [hW]; go_simp
  have c1 : W.cell? ⟨w.heap.size + 1, 0, none⟩ = some (.bool neg) := by rw [hW]; go_simp
  have r0 : W.cell? ⟨w.heap.size + 1 + 1, 0, none⟩ = some (.bool false) := by rw [hW]; go_simp
  have r1 : W.cell? ⟨w.heap.size + 1 + 1, 1, none⟩ = some (.slice none 0 0) := by rw [hW]; go_simp
  have r2 : W.cell? ⟨w.heap.size + 1 + 1, 2, none⟩ = some (.int .i64 0) := by rw [hW]; go_simp
  have q0 : W.frozen? ⟨w.heap.size + 1 + 1, 0, none⟩ = false := by rw [hW]; go_simp
  have q1 : W.frozen? ⟨w.heap.size + 1 + 1, 1, none⟩ = false := by rw [hW]; go_simp
  have q2 : W.frozen? ⟨w.heap.size + 1 + 1, 2, none⟩ = false := by rw [hW]; go_simp
  have hz : w.heap.size + 1 + 1 < W.heap.size := by rw [hW]; simp; try omega
  have hz1 : w.heap.size + 1 < W.heap.size := by omega
  have hz0 : w.heap.size < W.heap.size := by omega
  have hxW : Ext w W := by rw [hW]; exact by repeat (first | exact Ext.refl _ | apply Ext.drew | apply Ext.alloc | apply Ext.more_)
  have HX : Hid (Rd 0 W Ax (i6 X)) := by show Rd _ _ _ _; rw [hW]; exact hrx.mono (Nat.zero_le _)
  have HY : Hid (Rd 0 W Ay (i6 Y)) := by show Rd _ _ _ _; rw [hW]; exact hry.mono (Nat.zero_le _)
  clear hW hrx hry hx
  have HS : Hid (PlusSt W L L [] (W.alloc (.cells (madeCells #[.int .i64 0] (L + 1)) 3))) := ⟨by have := made_dg (k := .i64) (ty := 3) (w := W) (L + 1) rfl (Nat.le_refl _); simpa using this, by simp, AllD.nil, (Ext.refl _).alloc _⟩
  have HNX := Lib.hid hnx
  have HNY := Lib.hid hny
  have HVX := Lib.hid hvx
  have HVY := Lib.hid hvy
  clear hnx hny hvx hvy
  go_wp2
  go_loopw [9, 10] (fun a i wr => ∃ (j c : Nat) (S : List Nat), j ≤ L ∧ c ≤ 1 ∧ i = .int .i64 ((j : Int) - 1) ∧ a = .int .i64 (c : Int) ∧ Hid (PlusSt W L j S wr) ∧ Hid (val (X.drop j) + val (Y.drop j) = c * T S.length + val S)) (fun _ i _ => ((intOf i) + 1).toNat)
  case atStart =>
    exact ⟨L, 0, [], Nat.le_refl _, by omega, by go_num, rfl, HS, by show _ = _; rw [List.drop_eq_nil_of_le (by rw [HNX.out]; exact Nat.le_refl _), List.drop_eq_nil_of_le (by rw [HNY.out]; exact Nat.le_refl _)]; simp [val_nil]⟩
  case round =>
    obtain ⟨j, c, S, hj, hc, rfl, rfl, H, HV⟩ := hrel
    have hxr := H.out.ext
    have hsz := hxr.size
    cases j with
    | zero =>
      obtain ⟨o0, o1⟩ := H.out.at
      have c0' := hxr.cell_some c0
      have r0' := hxr.cell_some r0
      have r1' := hxr.cell_some r1
      have r2' := hxr.cell_some r2
      have q0' := (hxr.frozen (p := ⟨w.heap.size + 1 + 1, 0, none⟩) (by show w.heap.size + 1 + 1 < _; omega)).trans q0
      have q1' := (hxr.frozen (p := ⟨w.heap.size + 1 + 1, 1, none⟩) (by show w.heap.size + 1 + 1 < _; omega)).trans q1
      have q2' := (hxr.frozen (p := ⟨w.heap.size + 1 + 1, 2, none⟩) (by show w.heap.size + 1 + 1 < _; omega)).trans q2
      have HLAST := Lib.hid (H.out.last c)
      go_wp2
      refine bodyPost_ret (v := DecV neg (some ⟨W.heap.size, 0, none⟩) (L + 1) (L + 1) e) (by simp [results, Tryz.results158, go_sem, hz, r0', r1', r2']) rfl ⟨⟨_, _, c :: S, rfl, ?_, by have := H.out.len; simp; omega, AllD.cons (by omega) H.out.all, ?_, Nat.le_refl _⟩, ?_⟩
      · exact (((HLAST.out.rd.set_low _ hz).set_low _ hz).set_low _ hz).mono (by omega)
      · rw [val_cons]
        have := HV.out
        rw [List.drop_zero, List.drop_zero, HVX.out, HVY.out] at this
        omega
      · exact (((((hxW.trans hxr).set _ (by show w.heap.size ≤ W.heap.size; omega)).set _ (by show w.heap.size ≤ w.heap.size + 1 + 1; omega)).set _ (by show w.heap.size ≤ w.heap.size + 1 + 1; omega)).set _ (by show w.heap.size ≤ w.heap.size + 1 + 1; omega))
    | succ j =>
      have hjL : j < L := by omega
      obtain ⟨x, hxj⟩ : ∃ x, X[j]? = some x := ⟨X[j]'(by have := HNX.out; omega), by rw [List.getElem?_eq_getElem]⟩
      obtain ⟨y, hyj⟩ : ∃ y, Y[j]? = some y := ⟨Y[j]'(by have := HNY.out; omega), by rw [List.getElem?_eq_getElem]⟩
      obtain ⟨ba, oa, rfl, _, hcx'⟩ := Rd.at_ (HX.out.ext hxr) hxj
      obtain ⟨bb, ob, rfl, _, hcy'⟩ := Rd.at_ (HY.out.ext hxr) hyj
      have hba := lt_of_cell hcx'
      have hbb := lt_of_cell hcy'
      simp only at hba hbb
      have hx10 := hax.at hxj
      have hy10 := hay.at hyj
      have HST := Lib.hid (add_step hxj hyj (by rw [HNX.out, HNY.out]) (by rw [H.out.len, HNX.out]) HV.out)
      obtain ⟨o0, o1⟩ := H.out.at
      have t1 : ((x : Int) + (y : Int) + (c : Int)).tmod 10 = (((x + y + c) % 10 : Nat) : Int) := rfl
      have t3 : ((x : Int) + (y : Int) + (c : Int)) % 10 = (((x + y + c) % 10 : Nat) : Int) := rfl
      have t2 : ((x : Int) + (y : Int) + (c : Int)).tdiv 10 = (((x + y + c) / 10 : Nat) : Int) := rfl
      have hd1 : (x + y + c) % 10 < 10 := by omega
      have hd2 : (x + y + c) / 10 ≤ 1 := by omega
      have hji : (((j + 1 : Nat) : Int) - 1) = (j : Int) := by omega
      rw [hji]
      have HSP := Lib.hid (H.out.step hd1 hj)
      clear hxj hyj
      generalize (x + y + c) % 10 = dg at *
      generalize (x + y + c) / 10 = cc at *
      go_wp2
      refine wp_plan (S := Ext _) [(0, 0), (1, 0), (2, 0), (3, 0), (4, 0), (5, 0), (6, 0), (7, 0), (8, 0), (9, 0), (10, 0), (11, 0)] [] (by kernel_rfl) (by kernel_rfl) (by kernel_rfl) (fun _ _ d _ _ h => by cases d <;> exact h) (Ext.drew (Ext.refl _)) ?_
      iterate 12 ((refine wpPl_read (v := ?_) rfl ?_ (fun _ h => ?_) ?_; rotate_left 1; rfl; (obtain ⟨_, _, rfl⟩ := h.more; go_simp; try rfl)); try simp only [Act.put, zqA, zqB, zqC])
      refine wpPl_nil ?_
      go_wp2
      refine ⟨⟨j, cc, dg :: S, by omega, hd2, by go_num, by rw [t2], ?_, ?_⟩, by simp [intOf]⟩
      · exact HSP.out.drew
      · exact HST
set_option maxHeartbeats 2000000 in
theorem plus_diff (na nb : Bool) (A B : Option Addr) (ca cb : Nat) (la lb : List Nat) (ea eb : Int) (e : Int) (ka kb L : Nat) (w : World) (ha : Rd 0 w A (i6 la)) (hb : Rd 0 w B (i6 lb)) (hla : la.length ≤ 1000) (hlb : lb.length ≤ 1000)
    (hka : ea = e + ka) (hkb : eb = e + kb) (hk0 : ka = 0 ∨ kb = 0) (hkk : ka ≤ 10000 ∧ kb ≤ 10000) (he : -1000000 ≤ e ∧ e ≤ 1000000) (hda : AllD la) (hdb : AllD lb) (hne : na ≠ nb) (hL : max (la.length + ka) (lb.length + kb) = L) :
    Calls Tryz.prog 158 #[DecV na A la.length ca ea, DecV nb B lb.length cb eb] w fun r w' => DecOut w (if val la * T ka < val lb * T kb then nb else na) (L + 1) (if val la * T ka < val lb * T kb then val lb * T kb - val la * T ka else val la * T ka - val lb * T kb) e r w' ∧ Ext w w' := by
  have hlv := fun W h1 h2 => level_any na nb A B ca cb la lb ea eb e ka kb W h1 h2 hla hlb hka hkb hk0 hkk he hda hdb
  rw [hL] at hlv
  have hLb : L ≤ 11000 := by omega
  generalize val la * T ka = Na at *
  generalize val lb * T kb = Nb at *
  generalize hNG : (if Na < Nb then nb else na) = NG
  generalize hVV : (if Na < Nb then Nb - Na else Na - Nb) = VV
  have HNG := Lib.hid hNG
  have HVV := Lib.hid hVV
  clear hNG hVV
  have HA := Lib.hid ha
  have HB := Lib.hid hb
  clear ha hb hka hkb hk0 hkk hL
  have hmk := make_int (L + 1) (by omega)
  rw [show (((L + 1 : Nat)) : Int) = (L : Int) + 1 by omega] at hmk
  go_enter Tryz.func158, Tryz.ntmps158
  go_upto_region 2 with (go_at_call 194; (with_reducible refine (hlv _ (HA.out.ext (by repeat (first | exact Ext.refl _ | apply Ext.drew | apply Ext.alloc | apply Ext.more_))) (HB.out.ext (by repeat (first | exact Ext.refl _ | apply Ext.drew | apply Ext.alloc | apply Ext.more_)))).mono ?_); rintro r w' ⟨⟨va, vb, rfl, hva, hvb⟩, hx⟩; obtain ⟨os, d, rfl⟩ := hx.more; obtain ⟨Ax, cx, X, rfl, hrx, hnx, hax, hvx, hcx⟩ := hva; obtain ⟨Ay, cy, Y, rfl, hry, hny, hay, hvy, hcy⟩ := hvb)
  refine wp_world fun W hW => ?_
  have c0 : W.cell? ⟨w.heap.size, 0, none⟩ = some (.bool na) := by rw [hW]; go_simp
  have c1 : W.cell? ⟨w.heap.size + 1, 0, none⟩ = some (.bool nb) := by rw [hW]; go_simp
  have r0 : W.cell? ⟨w.heap.size + 1 + 1, 0, none⟩ = some (.bool false) := by rw [hW]; go_simp
  have r1 : W.cell? ⟨w.heap.size + 1 + 1, 1, none⟩ = some (.slice none 0 0) := by rw [hW]; go_simp
  have r2 : W.cell? ⟨w.heap.size + 1 + 1, 2, none⟩ = some (.int .i64 0) := by rw [hW]; go_simp
  have q0 : W.frozen? ⟨w.heap.size + 1 + 1, 0, none⟩ = false := by rw [hW]; go_simp
  have q1 : W.frozen? ⟨w.heap.size + 1 + 1, 1, none⟩ = false := by rw [hW]; go_simp
  have q2 : W.frozen? ⟨w.heap.size + 1 + 1, 2, none⟩ = false := by rw [hW]; go_simp
  have hz : w.heap.size + 1 + 1 < W.heap.size := by rw [hW]; simp; try omega
  have hz1 : w.heap.size + 1 < W.heap.size := by omega
  have hz0 : w.heap.size < W.heap.size := by omega
  have hxW : Ext w W := by rw [hW]; exact by repeat (first | exact Ext.refl _ | apply Ext.drew | apply Ext.alloc | apply Ext.more_)
  have HX : Hid (Rd 0 W Ax (i6 X)) := by show Rd _ _ _ _; rw [hW]; exact hrx.mono (Nat.zero_le _)
  have HY : Hid (Rd 0 W Ay (i6 Y)) := by show Rd _ _ _ _; rw [hW]; exact hry.mono (Nat.zero_le _)
  clear hW hrx hry hx
  have HS : Hid (PlusSt W L L [] (W.alloc (.cells (madeCells #[.int .i64 0] (L + 1)) 3))) := ⟨by have := made_dg (k := .i64) (ty := 3) (w := W) (L + 1) rfl (Nat.le_refl _); simpa using this, by simp, AllD.nil, (Ext.refl _).alloc _⟩
  have HNX := Lib.hid hnx
  have HNY := Lib.hid hny
  have HVX := Lib.hid hvx
  have HVY := Lib.hid hvy
  clear hnx hny hvx hvy
  have hne' : (na == nb) = false := by simpa using hne
  have hls := fun W' (hx' : Ext W W') => less_any Ax Ay cx cy L X Y W' (HX.out.ext hx') (HY.out.ext hx') HNX.out HNY.out hax hay (by omega)
  go_upto_if 70 with (go_at_call 195; (with_reducible refine (hls _ (by repeat (first | exact Ext.refl _ | apply Ext.drew | apply Ext.alloc | apply Ext.more_))).mono ?_); rintro r w' ⟨rfl, hx⟩; obtain ⟨os2, d2, rfl⟩ := hx.more)
  have HS2 := HS.out.ext_ (ext_more _ os2 d2)
  have HS2 := Lib.hid HS2
  refine wp_world fun W2 hW2 => ?_
  rw [← hW2] at HS2
  clear hW2 HS hls hx
  have hx2 := HS2.out.ext
  have hz2 := hx2.size
  have c1' := hx2.cell_some c1
  go_cut [5, 6, 12] (fun s5 s6 s12 wx => ∃ (Ap Aq : Option Addr) (cp cq : Nat) (P Q : List Nat) (n : Bool), s5 = .slice Ap L cp ∧ s6 = .slice Aq L cq ∧ s12 = .bool n ∧ wx = W2 ∧ Hid (Rd 0 W Ap (i6 P)) ∧ Hid (Rd 0 W Aq (i6 Q)) ∧ Hid (P.length = L) ∧ Hid (Q.length = L) ∧ AllD P ∧ AllD Q ∧ L ≤ cp ∧ L ≤ cq ∧ Hid (val Q ≤ val P ∧ n = NG ∧ val P - val Q = VV))
  case first =>
    by_cases hlt : val X < val Y
    · have e1 : decide (val X < val Y) = true := by simp [hlt]
      have hN : Na < Nb := by rw [← HVX.out, ← HVY.out]; exact hlt
      have HN := Lib.hid hN
      have HLT := Lib.hid hlt
      clear hlt hN
      go_wp2
      go_meet
      exact ⟨Ay, Ax, cy, cx, Y, X, nb, rfl, rfl, rfl, rfl, HY, HX, HNY, HNX, hay, hax, hcy, hcx, Nat.le_of_lt HLT.out, by rw [← HNG.out, if_pos HN.out], by rw [← HVV.out, if_pos HN.out, HVX.out, HVY.out]⟩
    · have e1 : decide (val X < val Y) = false := by simp [hlt]
      have hN : ¬ Na < Nb := by rw [← HVX.out, ← HVY.out]; exact hlt
      have HN := Lib.hid hN
      have HLT := Lib.hid hlt
      clear hlt hN
      go_wp2
      go_meet
      exact ⟨Ax, Ay, cx, cy, X, Y, na, rfl, rfl, rfl, rfl, HX, HY, HNX, HNY, hax, hay, hcx, hcy, Nat.le_of_not_lt HLT.out, by rw [← HNG.out, if_neg HN.out], by rw [← HVV.out, if_neg HN.out, HVX.out, HVY.out]⟩
  case rest =>
  clear HX HY HNX HNY HVX HVY hax hay hcx hcy c1'
  obtain ⟨Ap, Aq, cp, cq, X, Y, n, rfl, rfl, rfl, rfl, HX, HY, HNX, HNY, hax, hay, hcx, hcy, HFIN⟩ := hcut
  go_wp2
  go_loopw [13, 14] (fun a i wr => ∃ (j c : Nat) (S : List Nat), j ≤ L ∧ c ≤ 1 ∧ i = .int .i64 ((j : Int) - 1) ∧ a = .int .i64 (c : Int) ∧ Hid (PlusSt W L j S wr) ∧ Hid (val (X.drop j) + c * T S.length = val (Y.drop j) + val S)) (fun _ i _ => ((intOf i) + 1).toNat)
  case atStart =>
    exact ⟨L, 0, [], Nat.le_refl _, by omega, by go_num, rfl, HS2, by show _ = _; rw [List.drop_eq_nil_of_le (by rw [HNX.out]; exact Nat.le_refl _), List.drop_eq_nil_of_le (by rw [HNY.out]; exact Nat.le_refl _)]; simp [val_nil]⟩
  case round =>
    obtain ⟨j, c, S, hj, hc, rfl, rfl, H, HV⟩ := hrel
    have hxr := H.out.ext
    have hsz := hxr.size
    cases j with
    | zero =>
      have r0' := hxr.cell_some r0
      have r1' := hxr.cell_some r1
      have r2' := hxr.cell_some r2
      have q0' := (hxr.frozen (p := ⟨w.heap.size + 1 + 1, 0, none⟩) (by show w.heap.size + 1 + 1 < _; omega)).trans q0
      have q1' := (hxr.frozen (p := ⟨w.heap.size + 1 + 1, 1, none⟩) (by show w.heap.size + 1 + 1 < _; omega)).trans q1
      have q2' := (hxr.frozen (p := ⟨w.heap.size + 1 + 1, 2, none⟩) (by show w.heap.size + 1 + 1 < _; omega)).trans q2
      have hz' : w.heap.size + 1 + 1 < wr.heap.size := by omega
      go_wp2
      obtain ⟨f1, f2, f3⟩ := HFIN.out
      refine bodyPost_ret (v := DecV n (some ⟨W.heap.size, 0, none⟩) (L + 1) (L + 1) e) (by simp [results, Tryz.results158, go_sem, hz', r0', r1', r2']) rfl ⟨⟨_, _, 0 :: S, by rw [f2], ?_, by have := H.out.len; simp; omega, AllD.cons (by omega) H.out.all, ?_, Nat.le_refl _⟩, ?_⟩
      · have hrd := H.out.out.rd
        exact (((hrd.set_low _ hz).set_low _ hz).set_low _ hz).mono (by omega)
      · rw [← f3, val_cons]
        have h1 := HV.out
        rw [List.drop_zero, List.drop_zero] at h1
        have hS := val_lt H.out.all
        have hc0 : c = 0 := by
          rcases Nat.eq_zero_or_pos c with h0 | h0
          · exact h0
          · exfalso
            have h2 := Nat.mul_le_mul_right (T S.length) h0
            rw [Nat.one_mul] at h2
            omega
        rw [hc0] at h1
        omega
      · exact ((((hxW.trans hxr).set _ (by show w.heap.size ≤ w.heap.size + 1 + 1; omega)).set _ (by show w.heap.size ≤ w.heap.size + 1 + 1; omega)).set _ (by show w.heap.size ≤ w.heap.size + 1 + 1; omega))
    | succ j =>
      have hjL : j < L := by omega
      obtain ⟨x, hxj⟩ : ∃ x, X[j]? = some x := ⟨X[j]'(by have := HNX.out; omega), by rw [List.getElem?_eq_getElem]⟩
      obtain ⟨y, hyj⟩ : ∃ y, Y[j]? = some y := ⟨Y[j]'(by have := HNY.out; omega), by rw [List.getElem?_eq_getElem]⟩
      obtain ⟨ba, oa, rfl, _, hcx'⟩ := Rd.at_ (HX.out.ext hxr) hxj
      obtain ⟨bb, ob, rfl, _, hcy'⟩ := Rd.at_ (HY.out.ext hxr) hyj
      have hba := lt_of_cell hcx'
      have hbb := lt_of_cell hcy'
      simp only at hba hbb
      have hx10 := hax.at hxj
      have hy10 := hay.at hyj
      have HST := Lib.hid (fun d c' => sub_step (d := d) (c' := c') hxj hyj (by rw [HNX.out, HNY.out]) (by rw [H.out.len, HNX.out]) HV.out)
      obtain ⟨o0, o1⟩ := H.out.at
      have hji : (((j + 1 : Nat) : Int) - 1) = (j : Int) := by omega
      rw [hji]
      have HSP := Lib.hid (fun d (hd1 : d < 10) => H.out.step hd1 hj)
      clear hxj hyj
      by_cases hneg : x < y + c
      · have e1 : (x : Int) - (y : Int) - (c : Int) < 0 := by omega
        have e2 : (x : Int) - (y : Int) - (c : Int) + 10 = ((x + 10 - y - c : Nat) : Int) := by omega
        go_wp2
        refine wp_plan (S := Ext _) [(0, 0), (1, 0), (2, 0), (3, 0), (4, 0), (5, 0), (6, 0), (7, 0), (8, 0), (9, 0), (10, 0), (11, 0)] [] (by kernel_rfl) (by kernel_rfl) (by kernel_rfl) (fun _ _ d _ _ h => by cases d <;> exact h) (Ext.drew (Ext.refl _)) ?_
        iterate 12 ((refine wpPl_read (v := ?_) rfl ?_ (fun _ h => ?_) ?_; rotate_left 1; rfl; (obtain ⟨_, _, rfl⟩ := h.more; go_simp; try rfl)); try simp only [Act.put, zqA, zqB, zqC])
        refine wpPl_nil ?_
        go_wp2
        refine ⟨⟨j, 1, (x + 10 - y - c) :: S, by omega, by omega, by go_num, rfl, ?_, HST.out _ _ (by omega)⟩, by simp [intOf]⟩
        have := (HSP.out (x + 10 - y - c) (by omega)).drew
        exact this
      · have e1 : ¬ (x : Int) - (y : Int) - (c : Int) < 0 := by omega
        have e2 : (x : Int) - (y : Int) - (c : Int) = ((x - y - c : Nat) : Int) := by omega
        go_wp2
        refine wp_plan (S := Ext _) [(0, 0), (1, 0), (2, 0), (3, 0), (4, 0), (5, 0), (6, 0), (7, 0), (8, 0), (9, 0), (10, 0), (11, 0)] [] (by kernel_rfl) (by kernel_rfl) (by kernel_rfl) (fun _ _ d _ _ h => by cases d <;> exact h) (Ext.drew (Ext.refl _)) ?_
        iterate 12 ((refine wpPl_read (v := ?_) rfl ?_ (fun _ h => ?_) ?_; rotate_left 1; rfl; (obtain ⟨_, _, rfl⟩ := h.more; go_simp; try rfl)); try simp only [Act.put, zqA, zqB, zqC])
        refine wpPl_nil ?_
        go_wp2
        refine ⟨⟨j, 0, (x - y - c) :: S, by omega, by omega, by go_num, rfl, ?_, HST.out _ _ (by omega)⟩, by simp [intOf]⟩
        have := (HSP.out (x - y - c) (by omega)).drew
        exact this
theorem plus_any (na nb : Bool) (A B : Option Addr) (ca cb : Nat) (la lb : List Nat) (ea eb : Int) (e : Int) (ka kb L : Nat) (w : World) (ha : Rd 0 w A (i6 la)) (hb : Rd 0 w B (i6 lb)) (hla : la.length ≤ 1000) (hlb : lb.length ≤ 1000)
    (hka : ea = e + ka) (hkb : eb = e + kb) (hk0 : ka = 0 ∨ kb = 0) (hkk : ka ≤ 10000 ∧ kb ≤ 10000) (he : -1000000 ≤ e ∧ e ≤ 1000000) (hda : AllD la) (hdb : AllD lb) (hL : max (la.length + ka) (lb.length + kb) = L) :
    Calls Tryz.prog 158 #[DecV na A la.length ca ea, DecV nb B lb.length cb eb] w fun r w' => DecOut w (plusN na nb (val la * T ka) (val lb * T kb)).1 (L + 1) (plusN na nb (val la * T ka) (val lb * T kb)).2 e r w' ∧ Ext w w' := by
  unfold plusN
  by_cases h : na = nb
  · rw [if_pos h]
    subst h
    exact plus_same na A B ca cb la lb ea eb e ka kb L w ha hb hla hlb hka hkb hk0 hkk he hda hdb hL
  · rw [if_neg h]
    have := plus_diff na nb A B ca cb la lb ea eb e ka kb L w ha hb hla hlb hka hkb hk0 hkk he hda hdb h hL
    split
    · rename_i hlt; rw [if_pos hlt, if_pos hlt] at this; exact this
    · rename_i hlt; rw [if_neg hlt, if_neg hlt] at this; exact this
end Go.Proofs.YtmjmijjbijlhfaaGreatDoor
namespace Go.Proofs.YtmjmijjbijlhfaaGreatDoor
open Go.RowKit NM
/-- Block b holds these ints, and nothing else. -/
def IRow (w : World) (b : Nat) (l : List Int) : Prop := w.heap[b]? = some (.cells (l.map (Value.int .i64)).toArray 3 (0, 0))
/-- Only block b may have turned. -/
structure Only (b : Nat) (w w' : World) : Prop where
  os : w'.os = w.os
  tape : w'.tape = w.tape
  output : w'.output = w.output
  size : w'.heap.size = w.heap.size
  block : ∀ j, j ≠ b → w'.heap[j]? = w.heap[j]?
theorem Only.refl (b : Nat) (w : World) : Only b w w := ⟨rfl, rfl, rfl, rfl, fun _ _ => rfl⟩
theorem Only.trans {b : Nat} {w w' w'' : World} (h : Only b w w') (k : Only b w' w'') : Only b w w'' := ⟨k.os.trans h.os, k.tape.trans h.tape, k.output.trans h.output, k.size.trans h.size, fun j hj => (k.block j hj).trans (h.block j hj)⟩
theorem Only.set {b : Nat} {w w' : World} (h : Only b w w') (o : Nat) (v : Value) : Only b w (w'.setCell ⟨b, o, none⟩ v) :=
  h.trans ⟨rfl, rfl, rfl, by simp, fun j hj => RowKit.Below.heap_setCell _ _ _ _ hj⟩
theorem Only.cell {b : Nat} {w w' : World} (h : Only b w w') {p : Addr} (hp : p.block ≠ b) : w'.cell? p = w.cell? p := World.cell?_of_block (h.block _ hp)
theorem Only.ext {b : Nat} {W w w' : World} (h : Only b w w') (hx : Ext W w) (hb : W.heap.size ≤ b) : Ext W w' :=
  ⟨h.os.trans hx.os, h.tape.trans hx.tape, h.output.trans hx.output, by rw [h.size]; exact hx.size, fun j hj => (h.block j (by omega)).trans (hx.block hj)⟩
theorem IRow.at {w : World} {b : Nat} {l : List Int} (h : IRow w b l) {j : Nat} {x : Int} (hx : l[j]? = some x) : w.cell? ⟨b, j, none⟩ = some (.int .i64 x) ∧ w.frozen? ⟨b, j, none⟩ = false := by
  refine ⟨?_, frozen_of_row w b j _ _ h⟩
  rw [cell_of_row w b j _ _ (0, 0) h]
  simp [hx]
theorem IRow.set {w : World} {b : Nat} {l : List Int} (h : IRow w b l) (j : Nat) (x : Int) : IRow (w.setCell ⟨b, j, none⟩ (.int .i64 x)) b (l.set j x) := by
  unfold IRow at *
  rw [heap_setCell_same w b j _ _ _ h]
  congr 2
  apply Array.ext'
  simp
/-- Digits with their sign at the end of a list of n. -/
def pad (neg : Bool) (n i : Nat) (D : List Nat) : List Int := List.replicate (n - D.length) 0 ++ ((D.take i).map (fun d => sg neg d) ++ List.replicate (D.length - i) 0)
theorem pad_length {neg : Bool} {n i : Nat} {D : List Nat} (h : D.length ≤ n) (hi : i ≤ D.length) : (pad neg n i D).length = n := by unfold pad; simp; omega
theorem zip_at {a b : List Int} {j : Nat} {x y : Int} (hx : a[j]? = some x) (hy : b[j]? = some y) : (List.zipWith (· + ·) a b)[j]? = some (x + y) := by
  rw [List.getElem?_zipWith, hx, hy]
theorem pad_at {neg : Bool} {n i : Nat} {D : List Nat} (h : D.length ≤ n) (hi : i < D.length) : (pad neg n i D)[n - D.length + i]? = some 0 := by
  unfold pad
  rw [List.getElem?_append_right (by simp), List.getElem?_append_right (by simp; omega), List.getElem?_replicate, if_pos (by simp; omega)]
theorem pad_step {neg : Bool} {n i d : Nat} {D : List Nat} (h : D.length ≤ n) (hd : D[i]? = some d) : (pad neg n i D).set (n - D.length + i) (sg neg d) = pad neg n (i + 1) D := by
  have hi := lt_at hd
  unfold pad
  rw [List.set_append_right _ _ (by simp)]
  congr 1
  rw [List.set_append_right _ _ (by simp; omega), take_at hd, List.map_append, List.append_assoc]
  congr 1
  rw [show D.length - i = D.length - (i + 1) + 1 by omega, List.replicate_succ]
  have : n - D.length + i - (List.replicate (n - D.length) (0 : Int)).length - ((D.take i).map fun d => sg neg d).length = 0 := by simp; omega
  rw [this]; rfl
theorem zip_set {a b : List Int} {j : Nat} {x y : Int} (hx : a[j]? = some x) (hj : j < b.length) : (List.zipWith (· + ·) a b).set j (x + y) = List.zipWith (· + ·) a (b.set j y) := by
  apply List.ext_getElem?
  intro k
  by_cases hk : j = k
  · subst hk
    rw [List.getElem?_set_self (by rw [List.length_zipWith]; have := lt_at hx; omega), List.getElem?_zipWith, hx, List.getElem?_set_self hj]
  · rw [List.getElem?_set_ne hk, List.getElem?_zipWith, List.getElem?_zipWith, List.getElem?_set_ne hk]
theorem pad_all {neg : Bool} {n i : Nat} {D : List Nat} (hD : AllD D) : ∀ x ∈ pad neg n i D, -9 ≤ x ∧ x ≤ 9 := by
  intro x hx
  unfold pad at hx
  rcases List.mem_append.1 hx with h | h
  · rw [List.eq_of_mem_replicate h]; omega
  · rcases List.mem_append.1 h with h | h
    · obtain ⟨d, hd, rfl⟩ := List.mem_map.1 h
      have := hD d (List.mem_of_mem_take hd)
      unfold sg; split <;> omega
    · rw [List.eq_of_mem_replicate h]; omega
set_option maxHeartbeats 2000000 in
theorem gather_any (b n : Nat) (l : List Int) (A : Option Addr) (c : Nat) (D : List Nat) (neg : Bool) (w : World) (hl : l.length = n) (h : IRow w b l) (hD : Rd 0 w A (b8 D)) (hne : ∀ p, A = some p → D ≠ [] → p.block ≠ b) (hn : D.length ≤ n) (hbig : n ≤ 1000000) (hall : AllD D) (hlb : ∀ x ∈ l, -1000 ≤ x ∧ x ≤ 1000) :
    Calls Tryz.prog 149 #[.slice (some ⟨b, 0, none⟩) n n, .slice A D.length c, .bool neg] w fun e w' => e = .returned (.tuple #[]) ∧ IRow w' b (List.zipWith (· + ·) l (pad neg n D.length D)) ∧ Only b w w' := by
  generalize hR : List.zipWith (· + ·) l (pad neg n D.length D) = R
  have HR := Lib.hid hR
  clear hR
  have HH : Hid (IRow w b (List.zipWith (· + ·) l (pad neg n 0 D))) := by
    show IRow _ _ _
    have : List.zipWith (· + ·) l (pad neg n 0 D) = l := by
      apply List.ext_getElem?
      intro k
      unfold pad
      rw [List.getElem?_zipWith]
      simp
      rw [show n - D.length + D.length = n by omega, List.getElem?_replicate]
      by_cases hk : k < n
      · rw [if_pos hk]
        cases hlk : l[k]? <;> simp
      · rw [if_neg hk, List.getElem?_eq_none (by omega)]
    rw [this]; exact h
  have HD := Lib.hid hD
  have HL := Lib.hid hl
  have HLB := Lib.hid hlb
  have HNE := Lib.hid hne
  have hsub : (n : Int) - (D.length : Int) = ((n - D.length : Nat) : Int) := by omega
  clear h hD hl hlb hne
  go_enter Tryz.func149, Tryz.ntmps149
  go_wp2
  go_loopw [16] (fun i wr => ∃ j : Nat, j ≤ D.length ∧ i = .int .i64 (j : Int) ∧ Hid (IRow wr b (List.zipWith (· + ·) l (pad neg n j D))) ∧ Hid (Only b w wr)) (fun i _ => D.length - (intOf i).toNat)
  case atStart => exact ⟨0, Nat.zero_le _, rfl, HH, Only.refl _ _⟩
  case round =>
    obtain ⟨j, hj, rfl, HI, HO⟩ := hrel
    by_cases hlt : j < D.length
    · obtain ⟨d, hd⟩ : ∃ d, D[j]? = some d := ⟨D[j], by rw [List.getElem?_eq_getElem]⟩
      obtain ⟨ba, oa, rfl, _, hcd⟩ := HD.out j (.int .u8 (d : Int)) (by unfold b8; rw [List.getElem?_map, hd]; rfl)
      have hcd' := (HO.out.cell (p := ⟨ba, oa + j, none⟩) (by show ba ≠ b; exact HNE.out ⟨ba, oa, none⟩ rfl (fun h0 => by rw [h0] at hd; simp at hd))).trans hcd
      obtain ⟨x, hx⟩ : ∃ x, l[n - D.length + j]? = some x := ⟨l[n - D.length + j]'(by have := HL.out; omega), by rw [List.getElem?_eq_getElem]⟩
      have hxb := HLB.out x (List.mem_of_getElem? hx)
      have hd10 := hall.at hd
      have hz := zip_at hx (pad_at (neg := neg) hn hlt)
      rw [Int.add_zero] at hz
      obtain ⟨hc1, hc2⟩ := HI.out.at hz
      have HN : Hid (IRow (wr.setCell ⟨b, n - D.length + j, none⟩ (.int .i64 (x + sg neg d))) b (List.zipWith (· + ·) l (pad neg n (j + 1) D))) := by
        show IRow _ _ _
        have := HI.out.set (n - D.length + j) (x + sg neg d)
        rw [zip_set hx (by rw [pad_length hn hj]; omega), pad_step hn hd] at this
        exact this
      have hidx : ((n - D.length : Nat) : Int) + (j : Int) = ((n - D.length + j : Nat) : Int) := by omega
      have hin : n - D.length + j < n := by omega
      generalize n - D.length + j = q at *
      clear hx hd hz hcd
      cases neg with
      | true =>
        have e1 : x + sg true d = x - (d : Int) := by simp [sg]; omega
        rw [e1] at HN
        go_wp2
        exact ⟨⟨j + 1, by omega, by go_num, HN, HO.out.set _ _⟩, by simp [intOf]; omega⟩
      | false =>
        have e1 : x + sg false d = x + (d : Int) := by simp [sg]
        rw [e1] at HN
        go_wp2
        exact ⟨⟨j + 1, by omega, by go_num, HN, HO.out.set _ _⟩, by simp [intOf]; omega⟩
    · go_wp2
      refine bodyPost_end (v := .tuple #[]) (by simp [results, Tryz.results149]) rfl ⟨rfl, ?_, HO.out⟩
      rw [← HR.out, show D.length = j by omega]
      exact HI.out
end Go.Proofs.YtmjmijjbijlhfaaGreatDoor
namespace Go.Proofs.YtmjmijjbijlhfaaGreatDoor
open Go.RowKit NM
theorem make_bytes (n : Nat) (hn : n ≤ 100000) (W : World) : (Instr.makeSlice 135 (.int .i64 (n : Int)) (.int .i64 (n : Int))).run Tryz.prog W = .ok (.slice (some ⟨W.heap.size, 0, none⟩) n n) (W.alloc (.cells (madeCells #[.int .u8 0] n) 5)) := by
  obtain ⟨i0, hi, hz0, hz1, hz2⟩ := info_parts info_byte
  have := run_make (P := Tryz.prog) W 135 5 i0 _ Tryz.underlying135 hi hz0 .i64 .i64 (n : Int) (n : Int) (by omega) (by omega) (by rw [hz2]; omega) (by omega)
  simpa [hz1, Value.cells] using this
theorem dropI_at {l : List Int} {j : Nat} {x : Int} (h : l[j]? = some x) : l.drop j = x :: l.drop (j + 1) := by
  have hj := lt_at h
  rw [List.drop_eq_getElem_cons hj]
  rw [List.getElem?_eq_getElem hj] at h
  rw [Option.some.inj h]
/-- The bounds of one place, with the sign of the whole. -/
theorem DOk_bd {l : List Int} (h : DOk l) {x : Int} (hx : x ∈ l) : if sgn l then -18 ≤ x ∧ x ≤ 9 else -9 ≤ x ∧ x ≤ 18 := by
  rcases h with h | h | h
  · have := h x hx; split <;> omega
  · have h1 := h x hx
    have h2 : sgn l = false := by
      have := sgn_spec (l := l) (Or.inr (Or.inl h))
      rw [this]
      have h3 := valI_nonneg (l := l) (fun d hd => (h d hd).1)
      simp; omega
    rw [h2]; simp; omega
  · have h1 := h x hx
    cases hs : sgn l with
    | true => simp; omega
    | false =>
      have h0 : ∀ (m : List Int), (∀ d ∈ m, -18 ≤ d ∧ d ≤ 0) → sgn m = false → ∀ d ∈ m, d = 0 := by
        intro m
        induction m with
        | nil => intro _ _ d hd; cases hd
        | cons y m ih =>
          intro hm hs d hd
          rw [sgn] at hs
          by_cases hy : y = 0
          · rw [if_pos hy] at hs
            rcases List.mem_cons.1 hd with rfl | hd
            · exact hy
            · exact ih (fun d hd => hm d (List.mem_cons_of_mem _ hd)) hs d hd
          · rw [if_neg hy] at hs
            have := hm y (List.mem_cons_self ..)
            simp at hs; omega
      have := h0 l h hs x hx
      simp; omega
/-- What settle keeps: the digits from place j on. -/
structure SetSt (W : World) (L j : Nat) (S : List Nat) (wr : World) : Prop where
  out : Dg .u8 5 W.heap.size wr (some ⟨W.heap.size, 0, none⟩) L (List.replicate j 0 ++ S)
  len : S.length = L - j
  all : AllD S
  ext : Ext W wr
theorem SetSt.step {W wr : World} {L j d : Nat} {S : List Nat} (h : SetSt W L (j + 1) S wr) (hd : d < 10) (hj : j + 1 ≤ L) : SetSt W L j (d :: S) (wr.setCell ⟨W.heap.size, j, none⟩ (.int .u8 (d : Int))) := by
  refine ⟨?_, by simp [h.len]; omega, AllD.cons hd h.all, h.ext.set _ (Nat.le_refl _)⟩
  have := h.out.set (i := j) (d := d) (by simp; omega)
  rw [Nat.zero_add, List.set_append_left _ _ (by simp)] at this
  have he : (List.replicate (j + 1) 0).set j d = List.replicate j 0 ++ [d] := by
    rw [List.replicate_succ', List.set_append_right _ _ (by simp)]; simp
  rw [he, List.append_assoc, List.singleton_append] at this
  exact this
theorem SetSt.at {W wr : World} {L j : Nat} {S : List Nat} (h : SetSt W L (j + 1) S wr) : wr.cell? ⟨W.heap.size, j, none⟩ = some (.int .u8 0) ∧ wr.frozen? ⟨W.heap.size, j, none⟩ = false := by
  obtain ⟨b, off, h1, _, h2, h3⟩ := h.out.at (i := j) (d := 0) (by rw [List.getElem?_append_left (by simp)]; simp [List.getElem?_replicate])
  simp only [Option.some.injEq, Addr.mk.injEq, and_true] at h1
  obtain ⟨rfl, rfl⟩ := h1
  rw [Nat.zero_add] at h2 h3
  exact ⟨h2, h3⟩
/-- One place settled. -/
theorem settle_step {l : List Int} {j : Nat} {x c c' : Int} {d : Nat} {S : List Nat} (s : Int) (hx : l[j]? = some x) (hS : S.length = l.length - (j + 1)) (h : s * valI (l.drop (j + 1)) = c * (T S.length : Nat) + (val S : Int)) (hd : (d : Int) + 10 * c' = s * x + c) :
    s * valI (l.drop j) = c' * (T (S.length + 1) : Nat) + (val (d :: S) : Int) := by
  have hj := lt_at hx
  have hl : (l.drop (j + 1)).length = S.length := by simp; omega
  rw [dropI_at hx, valI_cons, val_cons, hl, T_succ, Int.mul_add, h, Int.natCast_add, Int.natCast_mul, Int.natCast_mul, ← Int.mul_assoc s x]
  generalize ((T S.length : Nat) : Int) = t at *
  have h1 : (d : Int) * t + 10 * c' * t = s * x * t + c * t := by rw [← Int.add_mul, hd, Int.add_mul]
  have h2 : c' * (10 * t) = 10 * c' * t := by rw [← Int.mul_assoc, Int.mul_comm c' 10]
  show _ = c' * (10 * t) + _
  rw [h2]; omega
theorem sgn_zero {l : List Int} {x : Int} {j : Nat} (hx : l[j]? = some x) (h0 : x = 0) : sgn (l.drop j) = sgn (l.drop (j + 1)) := by rw [dropI_at hx, sgn, if_pos h0]
theorem sgn_pos {l : List Int} {x : Int} {j : Nat} (hx : l[j]? = some x) (h0 : x ≠ 0) : sgn (l.drop j) = decide (x < 0) := by rw [dropI_at hx, sgn, if_neg h0]
set_option maxHeartbeats 4000000 in
theorem settle_any (b L : Nat) (l : List Int) (w : World) (hl : l.length = L) (h : IRow w b l) (hok : DOk l) (hbig : L ≤ 10000) (hT : (valI l).natAbs < T L) :
    Calls Tryz.prog 150 #[.slice (some ⟨b, 0, none⟩) L L] w fun e w' => e = .returned (.tuple #[.slice (some ⟨w.heap.size, 0, none⟩) L L, .bool (decide (valI l < 0))]) ∧ (∃ D, Dg .u8 5 w.heap.size w' (some ⟨w.heap.size, 0, none⟩) L D ∧ D.length = L ∧ AllD D ∧ val D = (valI l).natAbs) ∧ Ext w w' := by
  have hs := sgn_spec hok
  have hbd := fun x hx => DOk_bd hok (x := x) hx
  have hmk := make_bytes L (by omega)
  have hb := lt_block h
  rw [← hs]
  have HS := Lib.hid hs
  have HBD := Lib.hid hbd
  have HI := Lib.hid h
  have HL := Lib.hid hl
  have HT := Lib.hid hT
  clear hs hbd h hl hT hok
  generalize hG : sgn l = G at *
  have HG := Lib.hid hG
  clear hG
  go_enter Tryz.func150, Tryz.ntmps150
  go_upto_block 0 with fail
  go_cut [4] (fun s4 wx => s4 = .bool G ∧ wx = w)
  case first =>
    go_wp2_with fail
    go_loop [4, 13] (fun a i => ∃ j : Nat, j ≤ L ∧ i = .int .i64 (j : Int) ∧ a = .bool false ∧ Hid (sgn (l.drop j) = G)) (fun _ i => L - (intOf i).toNat)
    case atStart => exact ⟨0, Nat.zero_le _, rfl, rfl, HG⟩
    case round =>
      obtain ⟨j, hj, rfl, rfl, HJ⟩ := hrel
      by_cases hlt : j < L
      · obtain ⟨x, hx⟩ : ∃ x, l[j]? = some x := ⟨l[j]'(by have := HL.out; omega), by rw [List.getElem?_eq_getElem]⟩
        obtain ⟨hc1, hc2⟩ := HI.out.at hx
        by_cases h0 : x = 0
        · have e0 : (x == 0) = true := by simp [h0]
          have HJ2 : Hid (sgn (l.drop (j + 1)) = G) := by show _ = _; rw [← sgn_zero hx h0]; exact HJ.out
          clear hx h0
          go_wp2
          exact ⟨⟨j + 1, by omega, by go_num, rfl, HJ2⟩, by simp [intOf]; omega⟩
        · have e0 : (x == 0) = false := by simp [h0]
          have HJ2 : Hid (decide (x < 0) = G) := by show _ = _; rw [← sgn_pos hx h0]; exact HJ.out
          clear hx h0
          go_wp2
          go_meet
          exact ⟨by rw [← HJ2.out], rfl⟩
      · go_wp2
        go_meet
        refine ⟨?_, rfl⟩
        have := HJ.out
        rw [List.drop_eq_nil_of_le (by have := HL.out; omega)] at this
        rw [← this]; rfl
  case rest =>
  obtain ⟨rfl, rfl⟩ := hcut
  have HST : Hid (SetSt wc L L [] (wc.alloc (.cells (madeCells #[.int .u8 0] L) 5))) := ⟨by have := made_dg (k := .u8) (ty := 5) (w := wc) L rfl (Nat.le_refl _); simpa using this, by simp, AllD.nil, (Ext.refl _).alloc _⟩
  go_wp2
  go_loopw [8, 9] (fun a i wr => ∃ (j : Nat) (c : Int) (S : List Nat), j ≤ L ∧ -1 ≤ c ∧ c ≤ 1 ∧ i = .int .i64 ((j : Int) - 1) ∧ a = .int .i64 c ∧ Hid (SetSt wc L j S wr) ∧ Hid ((if G then -1 else 1) * valI (l.drop j) = c * (T S.length : Nat) + (val S : Int))) (fun _ i _ => ((intOf i) + 1).toNat)
  case atStart =>
    exact ⟨L, 0, [], Nat.le_refl _, by omega, by omega, by go_num, rfl, HST, by show _ = _; rw [List.drop_eq_nil_of_le (by rw [HL.out]; exact Nat.le_refl _)]; simp [val_nil, valI_nil]⟩
  case round =>
    obtain ⟨j, c, S, hj, hca, hcb, rfl, rfl, H, HV⟩ := hrel
    have hxr := H.out.ext
    have hsz := hxr.size
    cases j with
    | zero =>
      have HF : Hid (val S = (valI l).natAbs) := by
        show _ = _
        have h1 := HV.out
        have h2 := val_lt H.out.all
        have h3 := H.out.len
        have h4 := HT.out
        have h5 := HS.out
        rw [List.drop_zero] at h1
        rw [h3, Nat.sub_zero] at h1 h2
        have hTp := T_pos L
        have hGV : (if G = true then (-1 : Int) else 1) * valI l = ((valI l).natAbs : Int) := by
          cases G with
          | true => simp at h5 ⊢; omega
          | false => simp at h5 ⊢; omega
        rw [hGV] at h1
        have h6 : c = -1 ∨ c = 0 ∨ c = 1 := by omega
        generalize ((valI l).natAbs) = V at *
        generalize T L = t at *
        rcases h6 with h6 | h6 | h6 <;> rw [h6] at h1 <;> omega
      go_wp2
      go_ret2
      exact ⟨rfl, ⟨S, by simpa using H.out.out, by have := H.out.len; omega, H.out.all, HF.out⟩, hxr⟩
    | succ j =>
      have hjL : j < L := by omega
      obtain ⟨x, hx⟩ : ∃ x, l[j]? = some x := ⟨l[j]'(by have := HL.out; omega), by rw [List.getElem?_eq_getElem]⟩
      obtain ⟨hc1, hc2⟩ := HI.out.at hx
      have hc1' := hxr.cell_some hc1
      have hxb := HBD.out x (List.mem_of_getElem? hx)
      obtain ⟨o0, o1⟩ := H.out.at
      have hji : (((j + 1 : Nat) : Int) - 1) = (j : Int) := by omega
      rw [hji]
      have HSP := Lib.hid (fun d (hd1 : d < 10) => H.out.step hd1 hj)
      have HSTEP := Lib.hid (fun (d : Nat) (c' : Int) => settle_step (d := d) (c' := c') (if G then -1 else 1) hx (by rw [H.out.len, HL.out]) HV.out)
      clear hx HV hc1 hc2
      cases G with
      | true =>
        have hxb1 : -9 ≤ -x ∧ -x ≤ 18 := by have : -18 ≤ x ∧ x ≤ 9 := by simpa using hxb
                                            omega
        clear hxb
        by_cases h9 : 9 < -x + c
        · obtain ⟨d, hd⟩ : ∃ d : Nat, -x + c - 10 = (d : Int) := ⟨(-x + c - 10).toNat, by omega⟩
          have w1 : IntKind.u8.wrap (d : Int) = d := by rw [IntKind.wrap_u8]; omega
          go_wp2
          refine ⟨⟨j, 1, d :: S, by omega, by omega, by omega, by go_num, rfl, HSP.out d (by omega), HSTEP.out d 1 (by simp; omega)⟩, by simp [intOf]⟩
        · by_cases h0 : -x + c < 0
          · obtain ⟨d, hd⟩ : ∃ d : Nat, -x + c + 10 = (d : Int) := ⟨(-x + c + 10).toNat, by omega⟩
            have w1 : IntKind.u8.wrap (d : Int) = d := by rw [IntKind.wrap_u8]; omega
            go_wp2
            refine ⟨⟨j, -1, d :: S, by omega, by omega, by omega, by go_num, rfl, HSP.out d (by omega), HSTEP.out d (-1) (by simp; omega)⟩, by simp [intOf]⟩
          · obtain ⟨d, hd⟩ : ∃ d : Nat, -x + c = (d : Int) := ⟨(-x + c).toNat, by omega⟩
            have w1 : IntKind.u8.wrap (d : Int) = d := by rw [IntKind.wrap_u8]; omega
            go_wp2
            refine ⟨⟨j, 0, d :: S, by omega, by omega, by omega, by go_num, rfl, HSP.out d (by omega), HSTEP.out d 0 (by simp; omega)⟩, by simp [intOf]⟩
      | false =>
        have hxb1 : -9 ≤ x ∧ x ≤ 18 := by simpa using hxb
        clear hxb
        by_cases h9 : 9 < x + c
        · obtain ⟨d, hd⟩ : ∃ d : Nat, x + c - 10 = (d : Int) := ⟨(x + c - 10).toNat, by omega⟩
          have w1 : IntKind.u8.wrap (d : Int) = d := by rw [IntKind.wrap_u8]; omega
          go_wp2
          refine ⟨⟨j, 1, d :: S, by omega, by omega, by omega, by go_num, rfl, HSP.out d (by omega), HSTEP.out d 1 (by simp; omega)⟩, by simp [intOf]⟩
        · by_cases h0 : x + c < 0
          · obtain ⟨d, hd⟩ : ∃ d : Nat, x + c + 10 = (d : Int) := ⟨(x + c + 10).toNat, by omega⟩
            have w1 : IntKind.u8.wrap (d : Int) = d := by rw [IntKind.wrap_u8]; omega
            go_wp2
            refine ⟨⟨j, -1, d :: S, by omega, by omega, by omega, by go_num, rfl, HSP.out d (by omega), HSTEP.out d (-1) (by simp; omega)⟩, by simp [intOf]⟩
          · obtain ⟨d, hd⟩ : ∃ d : Nat, x + c = (d : Int) := ⟨(x + c).toNat, by omega⟩
            have w1 : IntKind.u8.wrap (d : Int) = d := by rw [IntKind.wrap_u8]; omega
            go_wp2
            refine ⟨⟨j, 0, d :: S, by omega, by omega, by omega, by go_num, rfl, HSP.out d (by omega), HSTEP.out d 0 (by simp; omega)⟩, by simp [intOf]⟩
end Go.Proofs.YtmjmijjbijlhfaaGreatDoor
namespace Go.Proofs.YtmjmijjbijlhfaaGreatDoor
open Go.RowKit NM
theorem bytes_eq {a : ByteArray} {l : List UInt8} (h : a.data.toList = l) : a = ⟨l.toArray⟩ := by
  subst h
  cases a; simp
end Go.Proofs.YtmjmijjbijlhfaaGreatDoor
namespace Go.Proofs.YtmjmijjbijlhfaaGreatDoor
open Go.RowKit NM
theorem rt_one : Rt 1 0 := Or.inr ⟨by decide, by decide, by decide, by decide, by
  have : nd (1 : Int).natAbs = 1 := nd_eq (k := 0) (by decide) (by decide)
  rw [this]; decide⟩
end Go.Proofs.YtmjmijjbijlhfaaGreatDoor
namespace Go.Proofs.YtmjmijjbijlhfaaGreatDoor
open Go.RowKit NM
theorem digs_dig (n : Nat) : digs n = dig n := by
  induction n using Nat.strongRecOn with
  | ind n ih =>
    by_cases h : n = 0
    · subst h; rw [digs_zero, dig_zero]
    · rw [digs_pos h, dig_pos h, ih (n / 10) (by omega)]
theorem SlI.i6_ {base : Nat} {w : World} {A : Option Addr} {n : Int} (h : SlI base w A (digsI n)) : Rd base w A (i6 (dig n.natAbs)) := by
  unfold SlI digsI at h
  rw [digs_dig, List.map_map] at h
  exact h
/-- digits, with its room. -/
theorem rdigits (n : Int) (w : World) (h : I64 n) :
    Calls Tryz.prog 69 #[.int .i64 n] w fun e w' => ∃ A c, e = .returned (.slice A (nd n.natAbs) c) ∧ Rd w.heap.size w' A (i6 (dig n.natAbs)) ∧ nd n.natAbs ≤ c ∧ Ext w w' := by
  have hl : (digsI n).length = nd n.natAbs := by unfold digsI; rw [List.length_map, digs_dig, dig_length]
  refine (digits_any n w h).mono fun e w' ⟨A, c, h1, h2, h3, h4⟩ => ⟨A, c, ?_, h2.i6_, by omega, h3⟩
  rw [← hl]; exact h1
theorem rnd_far_down {neg : Bool} {N : Nat} {e : Int} (h : (nd N : Int) + e < -41) : rnd neg N false e = some (0, 0) := by
  apply rnd_of_zero
  unfold n2
  apply cutN_far
  by_cases h15 : nd N ≤ 15
  · have : n1 N false = N := by unfold n1; rw [show nd N - 15 = 0 by omega, cutN_zero]
    rw [this, show nd N - 15 = 0 by omega]; omega
  · have := (nd_le_iff (n1 N false) 16).2 (Nat.lt_of_le_of_lt (n1_le N false) (T_lt (by omega)))
    omega
set_option maxHeartbeats 1000000 in
theorem rmake_any (m ex : Int) (w : World) (hm : I64 m) :
    Calls Tryz.prog 28 #[.int .i64 m, .int .i64 ex] w fun e w' => e = .returned (rnV (rnd (decide (m < 0)) m.natAbs false ex)) ∧ Ext w w' := by
  by_cases h0 : m = 0
  · subst h0
    have hr : rnd (decide ((0 : Int) < 0)) (0 : Int).natAbs false ex = some (0, 0) := rnd_of_zero (n2_zero _ _)
    rw [hr]
    go_enter Tryz.func28, Tryz.ntmps28
    go_wp2
    exact bodyPost_ret (v := .tuple #[NV 0 0, .bool true]) (by simp [results, Tryz.results28, go_sem]) rfl ⟨rfl, by repeat (first | exact Ext.refl _ | apply Ext.drew | apply Ext.alloc | apply Ext.more_)⟩
  · have h0' : (m == 0) = false := by simp [h0]
    by_cases h1 : 100 < ex
    · rw [rnd_far_up (by omega) (by omega)]
      clear h0
      go_enter Tryz.func28, Tryz.ntmps28
      go_wp2
      exact bodyPost_ret (v := .tuple #[NV 0 0, .bool false]) (by simp [results, Tryz.results28, go_sem]) rfl ⟨rfl, by repeat (first | exact Ext.refl _ | apply Ext.drew | apply Ext.alloc | apply Ext.more_)⟩
    · have hnd : nd m.natAbs ≤ 20 := (nd_le_iff _ _).2 (Nat.lt_of_lt_of_le (show m.natAbs < 18446744073709551616 by obtain ⟨h1, h2⟩ := hm; omega) (by decide))
      by_cases h2 : ex < -100
      · rw [rnd_far_down (by omega)]
        clear h0
        go_enter Tryz.func28, Tryz.ntmps28
        go_wp2
        exact bodyPost_ret (v := .tuple #[NV 0 0, .bool true]) (by simp [results, Tryz.results28, go_sem]) rfl ⟨rfl, by repeat (first | exact Ext.refl _ | apply Ext.drew | apply Ext.alloc | apply Ext.more_)⟩
      · clear h0
        have HA := Lib.hid (dig_all m.natAbs)
        have HL := Lib.hid (dig_length m.natAbs)
        have HV := Lib.hid (val_dig m.natAbs)
        go_enter Tryz.func28, Tryz.ntmps28
        go_wp2_with (first | (go_at_call 69; refine (rdigits m _ hm).mono ?_; rintro e w' ⟨A, c, rfl, hr, hc, hx⟩; obtain ⟨os, d, rfl⟩ := hx.more) | (go_at_call 68; refine (near_any _ _ _ _ _ (dig m.natAbs) m.natAbs _ _ _ HL.out hr hc (by omega) HA.out HV.out (by omega) (by simp)).mono ?_; rintro e w' ⟨rfl, hx2⟩; obtain ⟨os2, d2, rfl⟩ := hx2.more))
        exact bodyPost_ret (v := rnV (rnd (decide (m < 0)) m.natAbs false ex)) (by simp [results, Tryz.results28, go_sem]) rfl ⟨rfl, by repeat (first | exact Ext.refl _ | apply Ext.drew | apply Ext.alloc | apply Ext.more_)⟩
end Go.Proofs.YtmjmijjbijlhfaaGreatDoor
namespace Go.Proofs.YtmjmijjbijlhfaaGreatDoor
open Go.RowKit NM
/-- The document's Right, in the same words. -/
theorem rright_rt (m ex : Int) (w : World) (h : I64 m) :
    Calls Tryz.prog 67 #[NV m ex] w fun e w' => e = .returned (.bool (rtB m ex)) ∧ Ext w w' := by
  have := refNumRight_any m ex w h
  rw [← numRight_eq m ex h, numRight_Rt] at this
  exact this
end Go.Proofs.YtmjmijjbijlhfaaGreatDoor
namespace Go.Proofs.YtmjmijjbijlhfaaGreatDoor
open Go.RowKit NM
set_option maxHeartbeats 1000000 in
theorem power_any (n : Nat) (w : World) (hn : n ≤ 15) :
    Calls Tryz.prog 173 #[.int .i64 (n : Int)] w fun e w' => e = .returned (.int .u64 ((T n : Nat) : Int)) ∧ w = w' := by
  have hT : ∀ j, j ≤ n → T j ≤ 1000000000000000 := fun j hj => by
    have h1 : T j ≤ T 15 := T_mono (by omega)
    have h2 : T 15 = 1000000000000000 := by decide
    omega
  generalize hR : T n = R
  have HR := Lib.hid hR
  have HT := Lib.hid hT
  clear hR hT
  go_enter Tryz.func173, Tryz.ntmps173
  go_wp2
  go_loop [3, 5] (fun a i => ∃ (j V : Nat), j ≤ n ∧ i = .int .i64 (j : Int) ∧ a = .int .u64 (V : Int) ∧ V ≤ 1000000000000000 ∧ Hid (V = T j)) (fun _ i => n - (intOf i).toNat)
  case atStart => exact ⟨0, 1, Nat.zero_le _, rfl, rfl, by omega, by show _ = _; rfl⟩
  case round =>
    obtain ⟨j, V, hj, rfl, rfl, hV, HV⟩ := hrel
    by_cases hlt : j < n
    · have w1 : IntKind.u64.wrap ((V : Int) * 10) = (V : Int) * 10 := by rw [IntKind.wrap_u64]; omega
      go_wp2
      refine ⟨⟨j + 1, V * 10, by omega, by go_num, by go_num, ?_, ?_⟩, by simp [intOf]; omega⟩
      · have h1 := HT.out (j + 1) (by omega); rw [T_succ, ← HV.out] at h1; omega
      · show _ = _; rw [T_succ, ← HV.out]; omega
    · have hVR : V = R := by rw [HV.out, ← HR.out, show j = n by omega]
      subst hVR
      go_wp2
      go_ret
      exact ⟨rfl, rfl⟩
/-- Minus a number. -/
def negM (m e : Int) : Int := if Rt m e then -m else 0
def zeroE (m e : Int) : Int := if Rt m e then e else 0
theorem neg_rt {m e : Int} : Rt (negM m e) (zeroE m e) := by
  unfold negM zeroE
  split
  · rename_i h
    rcases h with ⟨h1, h2⟩ | ⟨h1, h2, h3, h4, h5⟩
    · exact Or.inl ⟨by omega, h2⟩
    · right
      rw [Int.natAbs_neg]
      exact ⟨by omega, h2, h3, h4, h5⟩
  · exact Or.inl ⟨rfl, rfl⟩
end Go.Proofs.YtmjmijjbijlhfaaGreatDoor
namespace Go.Proofs.YtmjmijjbijlhfaaGreatDoor
open Go.RowKit NM
/-- P1.3's Floor. -/
def floorN (m : Int) (k : Nat) : Nat := if m < 0 then m.natAbs / T k + 1 else m.natAbs / T k
def floorS (m e : Int) : Int × Int :=
  if ¬ Rt m e then (0, 0) else if 0 ≤ e then (m, e) else (sg (decide (m < 0)) (trim (floorN m (-e).toNat) 0).1, (trim (floorN m (-e).toNat) 0).2)
theorem mod_T_ne {N k : Nat} (h : N % 10 ≠ 0) (hk : 0 < k) : N % T k ≠ 0 := by
  obtain ⟨j, rfl⟩ : ∃ j, k = j + 1 := ⟨k - 1, by omega⟩
  intro h0
  have h1 : 10 ∣ T (j + 1) := ⟨T j, T_succ j⟩
  have h2 := Nat.dvd_trans h1 (Nat.dvd_of_mod_eq_zero h0)
  omega
set_option maxHeartbeats 2000000 in
theorem floor_yes (m ex : Int) (w : World) (h : Rt m ex) (he : ex < 0) :
    Calls Tryz.prog 142 #[NV m ex] w fun e w' => e = .returned (NV (sg (decide (m < 0)) (trim (floorN m (-ex).toNat) 0).1) (trim (floorN m (-ex).toNat) 0).2) ∧ Ext w w' := by
  obtain ⟨b1, b2, b3⟩ := Rt_bd h
  have hm : I64 m := by unfold I64; omega
  have r1 := rtB_yes h
  obtain ⟨k, hkk⟩ : ∃ k : Nat, ex = -(k : Int) := ⟨(-ex).toNat, by omega⟩
  subst hkk
  have hk1 : 0 < k := by omega
  have hm0 : m ≠ 0 ∧ m.natAbs % 10 ≠ 0 := by
    rcases h with ⟨_, h2⟩ | ⟨h1, _, h3, _⟩
    · omega
    · exact ⟨h1, h3⟩
  have hr0 := mod_T_ne hm0.2 hk1
  have hT15 : T 15 = 1000000000000000 := by decide
  rw [show (- -(k : Int)).toNat = k by omega]
  have hfl : floorN m k = if m < 0 then m.natAbs / T k + 1 else m.natAbs / T k := rfl
  have hdle := Nat.div_le_self m.natAbs (T k)
  have htr := fun W => trimmed_any (decide (m < 0)) (floorN m k) 0 W (by rw [hfl]; split <;> omega) (by omega)
  generalize sg (decide (m < 0)) (trim (floorN m k) 0).1 = m' at *
  generalize (trim (floorN m k) 0).2 = e' at *
  generalize floorN m k = F at *
  have hsz := fun W => size_nat m W hm
  have w5 : wrap64 (- -(k : Int)) = k := by rw [show - -(k : Int) = k by omega]; exact IntWalk.wrap64_in _ (by omega)
  have w6 : IntKind.i64.wrap (- -(k : Int)) = k := by rw [show - -(k : Int) = k by omega]; exact i64w (by omega) (by omega)
  by_cases hk15 : k ≤ 15
  · have hTk : 0 < T k ∧ T k ≤ 1000000000000000 := ⟨T_pos k, by have := T_mono hk15; omega⟩
    have hpw := fun W => power_any k W hk15
    generalize T k = U at *
    generalize hN : m.natAbs = N at *
    have hU0 : ¬ U = 0 := by omega
    have q1 : (N : Int) % (U : Int) = ((N % U : Nat) : Int) := by omega
    have q2 : (N : Int) / (U : Int) = ((N / U : Nat) : Int) := by omega
    have hrl := Nat.mod_lt N hTk.1
    generalize N % U = r at *
    generalize N / U = q at *
    have w1 : IntKind.u64.wrap (r : Int) = r := by rw [IntKind.wrap_u64]; omega
    have w2 : IntKind.u64.wrap (q : Int) = q := by rw [IntKind.wrap_u64]; omega
    have w4 : IntKind.u64.wrap ((q : Int) + 1) = (q : Int) + 1 := by rw [IntKind.wrap_u64]; omega
    have g1 : ((r : Int) != 0) = true := by simp; omega
    have g2 : (r != 0) = true := by simp; omega
    by_cases hneg : m < 0
    · rw [if_pos hneg] at hfl
      subst hfl
      have htr' := htr
      rw [show ((q + 1 : Nat) : Int) = (q : Int) + 1 by omega, decide_eq_true hneg] at htr'
      clear htr hN hr0 hm0 h
      have htr := htr'
      clear htr'
      go_enter Tryz.func142, Tryz.ntmps142
      go_wp2_with (first | (go_at_call 122; (with_reducible refine (right_rt _ _ _ (by assumption)).mono ?_); rintro e w' ⟨rfl, hbr⟩; obtain ⟨osr, dr, rfl⟩ := hbr.more) | (go_at_call 140; (with_reducible refine (hsz _).mono ?_); rintro e w' ⟨rfl, rfl⟩) | (go_at_call 173; (with_reducible refine (hpw _).mono ?_); rintro e w' ⟨rfl, rfl⟩) | (go_at_call 170; (with_reducible refine (htr _).mono ?_); rintro e w' ⟨rfl, hbt⟩; obtain ⟨ost, dt, rfl⟩ := hbt.more))
      refine wp_plan (S := Ext _) [(0, 0), (1, 0), (2, 0), (3, 0), (4, 0), (5, 0), (6, 0), (7, 0)] [] (by kernel_rfl) (by kernel_rfl) (by kernel_rfl) (fun _ _ d _ _ h => by cases d <;> exact h) (Ext.drew (Ext.refl _)) ?_
      iterate 8 ((refine wpPl_read (v := ?_) rfl ?_ (fun _ h => ?_) ?_; rotate_left 1; rfl; (obtain ⟨_, _, rfl⟩ := h.more; go_simp; try rfl)); try simp only [Act.put, zqA, zqB, zqC])
      refine wpPl_nil ?_
      go_wp2_with (first | (go_at_call 122; (with_reducible refine (right_rt _ _ _ (by assumption)).mono ?_); rintro e w' ⟨rfl, hbr⟩; obtain ⟨osr, dr, rfl⟩ := hbr.more) | (go_at_call 140; (with_reducible refine (hsz _).mono ?_); rintro e w' ⟨rfl, rfl⟩) | (go_at_call 173; (with_reducible refine (hpw _).mono ?_); rintro e w' ⟨rfl, rfl⟩) | (go_at_call 170; (with_reducible refine (htr _).mono ?_); rintro e w' ⟨rfl, hbt⟩; obtain ⟨ost, dt, rfl⟩ := hbt.more))
      exact bodyPost_ret (v := NV m' e') (by simp [results, Tryz.results142, go_sem]) rfl ⟨rfl, by repeat (first | exact Ext.refl _ | apply Ext.drew | apply Ext.alloc | apply Ext.more_)⟩
    · rw [if_neg hneg] at hfl
      subst hfl
      rw [decide_eq_false hneg] at htr
      clear hN hr0 hm0 h
      go_enter Tryz.func142, Tryz.ntmps142
      go_wp2_with (first | (go_at_call 122; (with_reducible refine (right_rt _ _ _ (by assumption)).mono ?_); rintro e w' ⟨rfl, hbr⟩; obtain ⟨osr, dr, rfl⟩ := hbr.more) | (go_at_call 140; (with_reducible refine (hsz _).mono ?_); rintro e w' ⟨rfl, rfl⟩) | (go_at_call 173; (with_reducible refine (hpw _).mono ?_); rintro e w' ⟨rfl, rfl⟩) | (go_at_call 170; (with_reducible refine (htr _).mono ?_); rintro e w' ⟨rfl, hbt⟩; obtain ⟨ost, dt, rfl⟩ := hbt.more))
      refine wp_plan (S := Ext _) [(0, 0), (1, 0), (2, 0), (3, 0), (4, 0), (5, 0), (6, 0), (7, 0)] [] (by kernel_rfl) (by kernel_rfl) (by kernel_rfl) (fun _ _ d _ _ h => by cases d <;> exact h) (Ext.drew (Ext.refl _)) ?_
      iterate 8 ((refine wpPl_read (v := ?_) rfl ?_ (fun _ h => ?_) ?_; rotate_left 1; rfl; (obtain ⟨_, _, rfl⟩ := h.more; go_simp; try rfl)); try simp only [Act.put, zqA, zqB, zqC])
      refine wpPl_nil ?_
      go_wp2_with (first | (go_at_call 122; (with_reducible refine (right_rt _ _ _ (by assumption)).mono ?_); rintro e w' ⟨rfl, hbr⟩; obtain ⟨osr, dr, rfl⟩ := hbr.more) | (go_at_call 140; (with_reducible refine (hsz _).mono ?_); rintro e w' ⟨rfl, rfl⟩) | (go_at_call 173; (with_reducible refine (hpw _).mono ?_); rintro e w' ⟨rfl, rfl⟩) | (go_at_call 170; (with_reducible refine (htr _).mono ?_); rintro e w' ⟨rfl, hbt⟩; obtain ⟨ost, dt, rfl⟩ := hbt.more))
      exact bodyPost_ret (v := NV m' e') (by simp [results, Tryz.results142, go_sem]) rfl ⟨rfl, by repeat (first | exact Ext.refl _ | apply Ext.drew | apply Ext.alloc | apply Ext.more_)⟩
  · have hT1 : T 15 ≤ T k := T_mono (by omega)
    have hq0 : m.natAbs / T k = 0 := Nat.div_eq_of_lt (by omega)
    rw [hq0] at hfl
    have hpw : True := trivial
    generalize hN : m.natAbs = N at *
    have g1 : ((N : Int) != 0) = true := by simp; omega
    have g2 : (N != 0) = true := by simp; omega
    by_cases hneg : m < 0
    · rw [if_pos hneg] at hfl
      subst hfl
      rw [decide_eq_true hneg, show ((0 + 1 : Nat) : Int) = 1 from rfl] at htr
      clear hN hr0 hm0 h hT1 hq0 hdle
      go_enter Tryz.func142, Tryz.ntmps142
      go_wp2_with (first | (go_at_call 122; (with_reducible refine (right_rt _ _ _ (by assumption)).mono ?_); rintro e w' ⟨rfl, hbr⟩; obtain ⟨osr, dr, rfl⟩ := hbr.more) | (go_at_call 140; (with_reducible refine (hsz _).mono ?_); rintro e w' ⟨rfl, rfl⟩) | (go_at_call 173; (with_reducible refine (hpw _).mono ?_); rintro e w' ⟨rfl, rfl⟩) | (go_at_call 170; (with_reducible refine (htr _).mono ?_); rintro e w' ⟨rfl, hbt⟩; obtain ⟨ost, dt, rfl⟩ := hbt.more))
      exact bodyPost_ret (v := NV m' e') (by simp [results, Tryz.results142, go_sem]) rfl ⟨rfl, by repeat (first | exact Ext.refl _ | apply Ext.drew | apply Ext.alloc | apply Ext.more_)⟩
    · rw [if_neg hneg] at hfl
      subst hfl
      rw [decide_eq_false hneg, show ((0 : Nat) : Int) = 0 from rfl] at htr
      clear hN hr0 hm0 h hT1 hq0 hdle
      go_enter Tryz.func142, Tryz.ntmps142
      go_wp2_with (first | (go_at_call 122; (with_reducible refine (right_rt _ _ _ (by assumption)).mono ?_); rintro e w' ⟨rfl, hbr⟩; obtain ⟨osr, dr, rfl⟩ := hbr.more) | (go_at_call 140; (with_reducible refine (hsz _).mono ?_); rintro e w' ⟨rfl, rfl⟩) | (go_at_call 173; (with_reducible refine (hpw _).mono ?_); rintro e w' ⟨rfl, rfl⟩) | (go_at_call 170; (with_reducible refine (htr _).mono ?_); rintro e w' ⟨rfl, hbt⟩; obtain ⟨ost, dt, rfl⟩ := hbt.more))
      exact bodyPost_ret (v := NV m' e') (by simp [results, Tryz.results142, go_sem]) rfl ⟨rfl, by repeat (first | exact Ext.refl _ | apply Ext.drew | apply Ext.alloc | apply Ext.more_)⟩
set_option maxHeartbeats 2000000 in
theorem floor_any (m ex : Int) (w : World) (hm : I64 m) :
    Calls Tryz.prog 142 #[NV m ex] w fun e w' => e = .returned (NV (floorS m ex).1 (floorS m ex).2) ∧ Ext w w' := by
  by_cases h : Rt m ex
  · have r1 := rtB_yes h
    by_cases h1 : 0 ≤ ex
    · have hs : floorS m ex = (m, ex) := by unfold floorS; rw [if_neg (fun hh => hh h), if_pos h1]
      rw [hs]
      clear h hs
      go_enter Tryz.func142, Tryz.ntmps142
      go_wp2_with (go_at_call 122; (with_reducible refine (right_rt _ _ _ (by assumption)).mono ?_); rintro e w' ⟨rfl, hbr⟩; obtain ⟨osr, dr, rfl⟩ := hbr.more)
      exact bodyPost_ret (v := NV m ex) (by simp [results, Tryz.results142, go_sem]) rfl ⟨rfl, by repeat (first | exact Ext.refl _ | apply Ext.drew | apply Ext.alloc | apply Ext.more_)⟩
    · have hs : floorS m ex = (sg (decide (m < 0)) (trim (floorN m (-ex).toNat) 0).1, (trim (floorN m (-ex).toNat) 0).2) := by unfold floorS; rw [if_neg (fun hh => hh h), if_neg h1]
      rw [hs]
      exact floor_yes m ex w h (by omega)
  · have r1 := rtB_no h
    have hs : floorS m ex = (0, 0) := by unfold floorS; rw [if_pos h]
    rw [hs]
    clear h hs
    go_enter Tryz.func142, Tryz.ntmps142
    go_wp2_with (go_at_call 122; (with_reducible refine (right_rt _ _ _ (by assumption)).mono ?_); rintro e w' ⟨rfl, hbr⟩; obtain ⟨osr, dr, rfl⟩ := hbr.more)
    exact bodyPost_ret (v := NV 0 0) (by simp [results, Tryz.results142, go_sem]) rfl ⟨rfl, by repeat (first | exact Ext.refl _ | apply Ext.drew | apply Ext.alloc | apply Ext.more_)⟩
end Go.Proofs.YtmjmijjbijlhfaaGreatDoor
namespace Go.Proofs.YtmjmijjbijlhfaaGreatDoor
open Go.RowKit NM
/-- A number's exact value, in Nat digits. -/
theorem rof_any (m ex : Int) (w : World) (h : I64 m) :
    Calls Tryz.prog 119 #[NV m ex] w fun e w' => ∃ A c, e = .returned (DecV (decide (m < 0)) A (nd m.natAbs) c ex) ∧ Rd w.heap.size w' A (i6 (dig m.natAbs)) ∧ nd m.natAbs ≤ c ∧ Ext w w' := by
  have hl : (digsI m).length = nd m.natAbs := by unfold digsI; rw [List.length_map, digs_dig, dig_length]
  refine (refOf_any m ex w h).mono fun e w' ⟨A, c, h1, h2, h3, h4⟩ => ⟨A, c, ?_, h2.i6_, by omega, h3⟩
  rw [← hl]; exact h1
set_option maxHeartbeats 1000000 in
theorem zero_any (m ex : Int) (w : World) (hm : I64 m) :
    Calls Tryz.prog 191 #[NV m ex] w fun e w' => e = .returned (NV (if Rt m ex then m else 0) (if Rt m ex then ex else 0)) ∧ Ext w w' := by
  by_cases h : Rt m ex
  · have r1 := rtB_yes h
    rw [if_pos h, if_pos h]
    clear h
    go_enter Tryz.func191, Tryz.ntmps191
    go_wp2_with (go_at_call 67; (with_reducible refine (rright_rt _ _ _ (by assumption)).mono ?_); rintro e w' ⟨rfl, hbr⟩; obtain ⟨osr, dr, rfl⟩ := hbr.more)
    exact bodyPost_ret (v := NV m ex) (by simp [results, Tryz.results191, go_sem]) rfl ⟨rfl, by with_reducible repeat (first | exact Ext.refl _ | apply Ext.drew | apply Ext.alloc | apply Ext.more_)⟩
  · have r1 := rtB_no h
    rw [if_neg h, if_neg h]
    clear h
    go_enter Tryz.func191, Tryz.ntmps191
    go_wp2_with (go_at_call 67; (with_reducible refine (rright_rt _ _ _ (by assumption)).mono ?_); rintro e w' ⟨rfl, hbr⟩; obtain ⟨osr, dr, rfl⟩ := hbr.more)
    exact bodyPost_ret (v := NV 0 0) (by simp [results, Tryz.results191, go_sem]) rfl ⟨rfl, by with_reducible repeat (first | exact Ext.refl _ | apply Ext.drew | apply Ext.alloc | apply Ext.more_)⟩
theorem rnd_small {neg : Bool} {N : Nat} {E : Int} (h : nd N ≤ 15) (hE : -40 ≤ E) : rnd neg N false E = fin neg N E := by
  rw [rnd_fin]
  unfold n2 n1 e2
  rw [show nd N - 15 = 0 by omega, cutN_zero, show (-40 - (E + ((0 : Nat) : Int))).toNat = 0 by omega, cutN_zero, show max (E + ((0 : Nat) : Int)) (-40) = E by omega]
end Go.Proofs.YtmjmijjbijlhfaaGreatDoor
namespace Go.Proofs.YtmjmijjbijlhfaaGreatDoor
open Go.RowKit NM
/-- Plus of the exact values of two right numbers. -/
theorem plus_of (ma ea mb eb : Int) (h1 : Rt ma ea) (h2 : Rt mb eb) (A B : Option Addr) (ca cb : Nat) (w : World) (ha : Rd 0 w A (i6 (dig ma.natAbs))) (hb : Rd 0 w B (i6 (dig mb.natAbs))) :
    Calls Tryz.prog 158 #[DecV (decide (ma < 0)) A (nd ma.natAbs) ca ea, DecV (decide (mb < 0)) B (nd mb.natAbs) cb eb] w fun r w' => DecOut w (plusN (decide (ma < 0)) (decide (mb < 0)) (ma.natAbs * T (ea - min ea eb).toNat) (mb.natAbs * T (eb - min ea eb).toNat)).1 (max (nd ma.natAbs + (ea - min ea eb).toNat) (nd mb.natAbs + (eb - min ea eb).toNat) + 1) (plusN (decide (ma < 0)) (decide (mb < 0)) (ma.natAbs * T (ea - min ea eb).toNat) (mb.natAbs * T (eb - min ea eb).toNat)).2 (min ea eb) r w' ∧ Ext w w' := by
  obtain ⟨b1, b2, b3⟩ := Rt_bd h1
  obtain ⟨b4, b5, b6⟩ := Rt_bd h2
  have hT15 : T 15 = 1000000000000000 := by decide
  have n1 : nd ma.natAbs ≤ 15 := (nd_le_iff _ _).2 (by omega)
  have n2 : nd mb.natAbs ≤ 15 := (nd_le_iff _ _).2 (by omega)
  have := plus_any (decide (ma < 0)) (decide (mb < 0)) A B ca cb (dig ma.natAbs) (dig mb.natAbs) ea eb (min ea eb) (ea - min ea eb).toNat (eb - min ea eb).toNat _ w ha hb (by rw [dig_length]; omega) (by rw [dig_length]; omega) (by omega) (by omega) (by omega) (by omega) (by omega) (dig_all _) (dig_all _) rfl
  rw [val_dig, val_dig, dig_length, dig_length] at this
  exact this
set_option maxHeartbeats 2000000 in
theorem radd_yes (ma ea mb eb : Int) (w : World) (h1 : Rt ma ea) (h2 : Rt mb eb) :
    Calls Tryz.prog 112 #[NV ma ea, NV mb eb] w fun e w' => e = .returned (rnV (rndI (sumI ma ea mb eb) (min ea eb))) ∧ Ext w w' := by
  obtain ⟨b1, b2, b3⟩ := Rt_bd h1
  obtain ⟨b4, b5, b6⟩ := Rt_bd h2
  have hma : I64 ma := by unfold I64; omega
  have hmb : I64 mb := by unfold I64; omega
  have r1 := rtB_yes h1
  have r2 := rtB_yes h2
  have hT15 : T 15 = 1000000000000000 := by decide
  have n1 : nd ma.natAbs ≤ 15 := (nd_le_iff _ _).2 (by omega)
  have n2 : nd mb.natAbs ≤ 15 := (nd_le_iff _ _).2 (by omega)
  have hof1 := fun W => rof_any ma ea W hma
  have hof2 := fun W => rof_any mb eb W hmb
  have hpl := fun A B ca cb W h3 h4 => plus_of ma ea mb eb h1 h2 A B ca cb W h3 h4
  have hL : max (nd ma.natAbs + (ea - min ea eb).toNat) (nd mb.natAbs + (eb - min ea eb).toNat) + 1 ≤ 1000 := by omega
  have hE : -1000000 ≤ min ea eb ∧ min ea eb ≤ 1000000 := by omega
  rw [← rnd_plus]
  generalize max (nd ma.natAbs + (ea - min ea eb).toNat) (nd mb.natAbs + (eb - min ea eb).toNat) + 1 = L at *
  generalize plusN (decide (ma < 0)) (decide (mb < 0)) (ma.natAbs * T (ea - min ea eb).toNat) (mb.natAbs * T (eb - min ea eb).toNat) = PN at *
  generalize min ea eb = E at *
  have hnr := fun (A : Option Addr) (cap : Nat) (l : List Nat) (W : World) (a1 : l.length = L) (a2 : Rd 0 W A (i6 l)) (a3 : L ≤ cap) (a4 : AllD l) (a5 : val l = PN.2) => near_any 0 PN.1 A L cap l PN.2 E false W a1 a2 a3 hL a4 a5 hE (Nat.zero_le _)
  generalize rnd PN.1 PN.2 false E = R at *
  clear h1 h2 n1 n2 hT15
  generalize ma.natAbs = Na at *
  generalize mb.natAbs = Nb at *
  go_enter Tryz.func112, Tryz.ntmps112
  go_wp2_with (go_at_call 67; (with_reducible refine (rright_rt _ _ _ (by assumption)).mono ?_); rintro e w' ⟨rfl, hbr⟩; obtain ⟨osr, dr, rfl⟩ := hbr.more)
  refine wp_plan (S := Ext _) [(0, 0), (2, 0), (1, 1), (3, 1), (4, 1), (5, 1), (6, 0), (7, 0), (8, 2), (9, 2)] [8, 9] (by kernel_rfl) (by kernel_rfl) (by kernel_rfl) (fun _ _ d _ _ h => by cases d <;> exact h) (Ext.drew (Ext.refl _)) ?_
  iterate 2 ((refine wpPl_read (v := ?_) rfl ?_ (fun _ h => ?_) ?_; rotate_left 1; rfl; (obtain ⟨_, _, rfl⟩ := h.more; go_simp; try rfl)); try simp only [Act.put, zqA, zqB, zqC])
  (refine wpPl_eff rfl ?_ (fun K hK => ?_); rfl; go_simp; (go_at_call 119; (with_reducible refine (hof1 _).mono ?_); rintro e w' ⟨A1, c1, rfl, hrd1, hcp1, hx⟩; obtain ⟨os1, d1, rfl⟩ := hx.more; have hrd1 := hrd1.mono (Nat.zero_le _); (try simp only [more_more, more_drew, drew_more, Array.append_assoc] at hrd1)); refine hK _ _ ?_ ?_; (repeat (first | (with_reducible (first | exact Ext.refl _ | exact ext_d _ _ _ _ | exact ext_app _ _ _ _ _ | exact ext_app2 _ _ _ _ _ _ | exact ext_app3 _ _ _ _ _ _ _ | exact ext_app4 _ _ _ _ _ _ _ _ | exact ext_app5 _ _ _ _ _ _ _ _ _)) | ((with_reducible refine ext_suffix ⟨_, ?_⟩); (try simp only [Array.append_assoc]); rfl) | (with_reducible (first | apply Ext.drew | apply Ext.alloc | apply Ext.more_)) | apply Ext.drew | apply Ext.alloc | apply Ext.more_)))
  try simp only [Act.put, zqA, zqB, zqC]
  (refine wpPl_eff rfl ?_ (fun K hK => ?_); rfl; go_simp; (go_at_call 119; (with_reducible refine (hof2 _).mono ?_); rintro e w' ⟨A2, c2, rfl, hrd2, hcp2, hx⟩; obtain ⟨os2, d2, rfl⟩ := hx.more; have hrd2 := hrd2.mono (Nat.zero_le _); (try simp only [more_more, more_drew, drew_more, Array.append_assoc] at hrd2)); refine hK _ _ ?_ ?_; (repeat (first | (with_reducible (first | exact Ext.refl _ | exact ext_d _ _ _ _ | exact ext_app _ _ _ _ _ | exact ext_app2 _ _ _ _ _ _ | exact ext_app3 _ _ _ _ _ _ _ | exact ext_app4 _ _ _ _ _ _ _ _ | exact ext_app5 _ _ _ _ _ _ _ _ _)) | ((with_reducible refine ext_suffix ⟨_, ?_⟩); (try simp only [Array.append_assoc]); rfl) | (with_reducible (first | apply Ext.drew | apply Ext.alloc | apply Ext.more_)) | apply Ext.drew | apply Ext.alloc | apply Ext.more_)))
  try simp only [Act.put, zqA, zqB, zqC]
  (refine wpPl_eff rfl ?_ (fun K hK => ?_); rfl; go_simp; (go_at_call 158; (with_reducible refine (hpl _ _ _ _ _ (Rd.ext hrd1 (by (try simp only [more_more, more_drew, drew_more, Array.append_assoc]); repeat (first | (with_reducible (first | exact Ext.refl _ | exact ext_d _ _ _ _ | exact ext_app _ _ _ _ _ | exact ext_app2 _ _ _ _ _ _ | exact ext_app3 _ _ _ _ _ _ _)) | ((with_reducible refine ext_suffix ⟨_, ?_⟩); (try simp only [Array.append_assoc]); rfl) | (with_reducible (first | apply Ext.drew | apply Ext.alloc | apply Ext.more_))))) (Rd.ext hrd2 (by (try simp only [more_more, more_drew, drew_more, Array.append_assoc]); repeat (first | (with_reducible (first | exact Ext.refl _ | exact ext_d _ _ _ _ | exact ext_app _ _ _ _ _ | exact ext_app2 _ _ _ _ _ _ | exact ext_app3 _ _ _ _ _ _ _)) | ((with_reducible refine ext_suffix ⟨_, ?_⟩); (try simp only [Array.append_assoc]); rfl) | (with_reducible (first | apply Ext.drew | apply Ext.alloc | apply Ext.more_)))))).mono ?_); rintro e w' ⟨⟨A3, c3, X3, rfl, hrx3, hn3, ha3, hv3, hc3⟩, hx⟩; obtain ⟨os3, d3, rfl⟩ := hx.more; (try simp only [more_more, more_drew, drew_more, Array.append_assoc] at hrx3)); refine hK _ _ ?_ ?_; (repeat (first | (with_reducible (first | exact Ext.refl _ | exact ext_d _ _ _ _ | exact ext_app _ _ _ _ _ | exact ext_app2 _ _ _ _ _ _ | exact ext_app3 _ _ _ _ _ _ _ | exact ext_app4 _ _ _ _ _ _ _ _ | exact ext_app5 _ _ _ _ _ _ _ _ _)) | ((with_reducible refine ext_suffix ⟨_, ?_⟩); (try simp only [Array.append_assoc]); rfl) | (with_reducible (first | apply Ext.drew | apply Ext.alloc | apply Ext.more_)) | apply Ext.drew | apply Ext.alloc | apply Ext.more_)))
  try simp only [Act.put, zqA, zqB, zqC]
  (refine wpPl_eff rfl ?_ (fun K hK => ?_); rfl; go_simp; (go_at_call 68; (with_reducible refine (hnr _ _ _ _ hn3 (Rd.mono hrx3 (Nat.zero_le _)) hc3 ha3 hv3).mono ?_); rintro e w' ⟨rfl, hx⟩; obtain ⟨os4, d4, rfl⟩ := hx.more); refine hK _ _ ?_ ?_; (repeat (first | (with_reducible (first | exact Ext.refl _ | exact ext_d _ _ _ _ | exact ext_app _ _ _ _ _ | exact ext_app2 _ _ _ _ _ _ | exact ext_app3 _ _ _ _ _ _ _ | exact ext_app4 _ _ _ _ _ _ _ _ | exact ext_app5 _ _ _ _ _ _ _ _ _)) | ((with_reducible refine ext_suffix ⟨_, ?_⟩); (try simp only [Array.append_assoc]); rfl) | (with_reducible (first | apply Ext.drew | apply Ext.alloc | apply Ext.more_)) | apply Ext.drew | apply Ext.alloc | apply Ext.more_)))
  try simp only [Act.put, zqA, zqB, zqC]
  iterate 2 ((refine wpPl_read (v := ?_) rfl ?_ (fun _ h => ?_) ?_; rotate_left 1; rfl; (obtain ⟨_, _, rfl⟩ := h.more; go_simp; try rfl)); try simp only [Act.put, zqA, zqB, zqC])
  (refine wpPl_tail rfl ?_ (fun K hK => ?_); rfl; go_simp; refine hK _ _ ?_)
  try simp only [Act.put]
  (refine wpPl_tail rfl ?_ (fun K hK => ?_); rfl; go_simp; refine hK _ _ ?_)
  try simp only [Act.put, zqA, zqB, zqC]
  refine wpPl_nil ?_
  go_wp2
  exact bodyPost_ret (v := rnV R) (by simp [results, Tryz.results112, go_sem]) rfl ⟨rfl, by with_reducible repeat (first | exact Ext.refl _ | apply Ext.drew | apply Ext.alloc | apply Ext.more_)⟩
set_option maxHeartbeats 1000000 in
theorem rneg_any (m ex : Int) (w : World) (hm : I64 m) :
    Calls Tryz.prog 161 #[NV m ex] w fun e w' => e = .returned (NV (negM m ex) (zeroE m ex)) ∧ Ext w w' := by
  unfold negM zeroE
  by_cases h : Rt m ex
  · have hb := Rt_bd h
    have r1 := rtB_yes h
    rw [if_pos h, if_pos h]
    clear h
    have w1 : wrap64 (-m) = -m := IntWalk.wrap64_in _ (by omega)
    go_enter Tryz.func161, Tryz.ntmps161
    go_wp2_with (go_at_call 67; (with_reducible refine (rright_rt _ _ _ (by assumption)).mono ?_); rintro e w' ⟨rfl, hbr⟩; obtain ⟨osr, dr, rfl⟩ := hbr.more)
    exact bodyPost_ret (v := NV (-m) ex) (by simp [results, Tryz.results161, go_sem]) rfl ⟨rfl, by with_reducible repeat (first | exact Ext.refl _ | apply Ext.drew | apply Ext.alloc | apply Ext.more_)⟩
  · have r1 := rtB_no h
    rw [if_neg h, if_neg h]
    clear h
    go_enter Tryz.func161, Tryz.ntmps161
    go_wp2_with (go_at_call 67; (with_reducible refine (rright_rt _ _ _ (by assumption)).mono ?_); rintro e w' ⟨rfl, hbr⟩; obtain ⟨osr, dr, rfl⟩ := hbr.more)
    exact bodyPost_ret (v := NV 0 0) (by simp [results, Tryz.results161, go_sem]) rfl ⟨rfl, by with_reducible repeat (first | exact Ext.refl _ | apply Ext.drew | apply Ext.alloc | apply Ext.more_)⟩
theorem neg_yes {m e : Int} (h : Rt m e) : negM m e = -m ∧ zeroE m e = e := by unfold negM zeroE; rw [if_pos h, if_pos h]; exact ⟨rfl, rfl⟩
theorem Rt_neg {m e : Int} (h : Rt m e) : Rt (-m) e := by
  have := neg_rt (m := m) (e := e)
  rw [(neg_yes h).1, (neg_yes h).2] at this
  exact this
/-- Which is the greater: P1.3. -/
def cmpS (ma ea mb eb : Int) : Int := if Rt ma ea ∧ Rt mb eb then (sumI ma ea (-mb) eb).sign else 0
theorem plusN_cmp (na nb : Bool) (Na Nb : Nat) : (sg na Na + sg nb Nb).sign = if (plusN na nb Na Nb).2 = 0 then 0 else if (plusN na nb Na Nb).1 = true then -1 else 1 := by
  rw [← plusN_sg]
  generalize plusN na nb Na Nb = p
  obtain ⟨n, N⟩ := p
  simp only
  by_cases h : N = 0
  · rw [if_pos h, h]; cases n <;> rfl
  · rw [if_neg h]
    have hp : (0 : Int) < (N : Int) := by omega
    cases n with
    | false => simp [sg]; omega
    | true => simp [sg]; omega
set_option maxHeartbeats 4000000 in
theorem rcmp_yes (ma ea mb eb : Int) (w : World) (h1 : Rt ma ea) (h2 : Rt mb eb) :
    Calls Tryz.prog 125 #[NV ma ea, NV mb eb] w fun e w' => e = .returned (.int .i64 (sumI ma ea (-mb) eb).sign) ∧ Ext w w' := by
  obtain ⟨b1, b2, b3⟩ := Rt_bd h1
  obtain ⟨b4, b5, b6⟩ := Rt_bd h2
  have hma : I64 ma := by unfold I64; omega
  have hmb : I64 mb := by unfold I64; omega
  have r1 := rtB_yes h1
  have r2 := rtB_yes h2
  have hng := fun W => rneg_any mb eb W hmb
  rw [(neg_yes h2).1, (neg_yes h2).2] at hng
  have hof1 := fun W => rof_any ma ea W hma
  have hof2 := fun W => rof_any (-mb) eb W (by unfold I64; omega)
  have hpl := fun A B ca cb W h3 h4 => plus_of ma ea (-mb) eb h1 (Rt_neg h2) A B ca cb W h3 h4
  have hT15 : T 15 = 1000000000000000 := by decide
  have n1 : nd ma.natAbs ≤ 15 := (nd_le_iff _ _).2 (by omega)
  have n2 : nd (-mb).natAbs ≤ 15 := (nd_le_iff _ _).2 (by omega)
  have hL : max (nd ma.natAbs + (ea - min ea eb).toNat) (nd (-mb).natAbs + (eb - min ea eb).toNat) + 1 ≤ 1000 := by omega
  have hs : sumI ma ea (-mb) eb = sg (decide (ma < 0)) (ma.natAbs * T (ea - min ea eb).toNat) + sg (decide (-mb < 0)) ((-mb).natAbs * T (eb - min ea eb).toNat) := by
    rw [sg_mul_nat, sg_mul_nat, sg_nat, sg_nat]; rfl
  rw [hs, plusN_cmp]
  generalize max (nd ma.natAbs + (ea - min ea eb).toNat) (nd (-mb).natAbs + (eb - min ea eb).toNat) + 1 = L at *
  generalize plusN (decide (ma < 0)) (decide (-mb < 0)) (ma.natAbs * T (ea - min ea eb).toNat) ((-mb).natAbs * T (eb - min ea eb).toNat) = PN at *
  generalize min ea eb = E at *
  obtain ⟨n, N⟩ := PN
  simp only at hpl ⊢
  have hst := fun (A : Option Addr) (cap : Nat) (l : List Nat) (W : World) (a1 : l.length = L) (a2 : Rd 0 W A (i6 l)) (a3 : L ≤ cap) (a4 : AllD l) (a5 : val l = N) => rstrip_dig 0 A cap L l N W a1 a2 (by omega) a3 a4 a5
  simp only [LOut, dig_length] at hst
  clear h1 h2 n1 n2 hT15 hs
  generalize decide (-mb < 0) = nb at *
  generalize ma.natAbs = Na at *
  generalize (-mb).natAbs = Nb at *
  by_cases h0 : N = 0
  · rw [if_pos h0]
    have hz : nd N = 0 := by rw [h0, nd_zero]
    rw [hz] at hst
    clear h0 hz
    go_enter Tryz.func125, Tryz.ntmps125
    go_wp2_with (go_at_call 67; (with_reducible refine (rright_rt _ _ _ (by assumption)).mono ?_); rintro e w' ⟨rfl, hbr⟩; obtain ⟨osr, dr, rfl⟩ := hbr.more)
    refine wp_plan (S := Ext _) [(0, 0), (2, 0), (1, 1), (3, 1), (4, 1), (5, 1), (6, 0), (7, 1), (8, 0)] [] (by kernel_rfl) (by kernel_rfl) (by kernel_rfl) (fun _ _ d _ _ h => by cases d <;> exact h) (Ext.drew (Ext.refl _)) ?_
    iterate 2 ((refine wpPl_read (v := ?_) rfl ?_ (fun _ h => ?_) ?_; rotate_left 1; rfl; (obtain ⟨_, _, rfl⟩ := h.more; go_simp; try rfl)); try simp only [Act.put, zqA, zqB, zqC])
    (refine wpPl_eff rfl ?_ (fun K hK => ?_); rfl; go_simp; (go_at_call 119; (with_reducible refine (hof1 _).mono ?_); rintro e w' ⟨A1, c1, rfl, hrd1, hcp1, hx⟩; obtain ⟨os1, d1, rfl⟩ := hx.more; have hrd1 := hrd1.mono (Nat.zero_le _); (try simp only [more_more, more_drew, drew_more, Array.append_assoc] at hrd1)); refine hK _ _ ?_ ?_; (repeat (first | (with_reducible (first | exact Ext.refl _ | exact ext_d _ _ _ _ | exact ext_app _ _ _ _ _ | exact ext_app2 _ _ _ _ _ _ | exact ext_app3 _ _ _ _ _ _ _ | exact ext_app4 _ _ _ _ _ _ _ _ | exact ext_app5 _ _ _ _ _ _ _ _ _)) | ((with_reducible refine ext_suffix ⟨_, ?_⟩); (try simp only [Array.append_assoc]); rfl) | (with_reducible (first | apply Ext.drew | apply Ext.alloc | apply Ext.more_)) | apply Ext.drew | apply Ext.alloc | apply Ext.more_)))
    try simp only [Act.put, zqA, zqB, zqC]
    (refine wpPl_eff rfl ?_ (fun K hK => ?_); rfl; go_simp; (go_at_call 161; (with_reducible refine (hng _).mono ?_); rintro e w' ⟨rfl, hx⟩; obtain ⟨osn, dn, rfl⟩ := hx.more); refine hK _ _ ?_ ?_; (repeat (first | (with_reducible (first | exact Ext.refl _ | exact ext_d _ _ _ _ | exact ext_app _ _ _ _ _ | exact ext_app2 _ _ _ _ _ _ | exact ext_app3 _ _ _ _ _ _ _ | exact ext_app4 _ _ _ _ _ _ _ _ | exact ext_app5 _ _ _ _ _ _ _ _ _)) | ((with_reducible refine ext_suffix ⟨_, ?_⟩); (try simp only [Array.append_assoc]); rfl) | (with_reducible (first | apply Ext.drew | apply Ext.alloc | apply Ext.more_)) | apply Ext.drew | apply Ext.alloc | apply Ext.more_)))
    try simp only [Act.put, zqA, zqB, zqC]
    (refine wpPl_eff rfl ?_ (fun K hK => ?_); rfl; go_simp; (go_at_call 119; (with_reducible refine (hof2 _).mono ?_); rintro e w' ⟨A2, c2, rfl, hrd2, hcp2, hx⟩; obtain ⟨os2, d2, rfl⟩ := hx.more; have hrd2 := hrd2.mono (Nat.zero_le _); (try simp only [more_more, more_drew, drew_more, Array.append_assoc] at hrd2)); refine hK _ _ ?_ ?_; (repeat (first | (with_reducible (first | exact Ext.refl _ | exact ext_d _ _ _ _ | exact ext_app _ _ _ _ _ | exact ext_app2 _ _ _ _ _ _ | exact ext_app3 _ _ _ _ _ _ _ | exact ext_app4 _ _ _ _ _ _ _ _ | exact ext_app5 _ _ _ _ _ _ _ _ _)) | ((with_reducible refine ext_suffix ⟨_, ?_⟩); (try simp only [Array.append_assoc]); rfl) | (with_reducible (first | apply Ext.drew | apply Ext.alloc | apply Ext.more_)) | apply Ext.drew | apply Ext.alloc | apply Ext.more_)))
    try simp only [Act.put, zqA, zqB, zqC]
    (refine wpPl_eff rfl ?_ (fun K hK => ?_); rfl; go_simp; (go_at_call 158; (with_reducible refine (hpl _ _ _ _ _ (Rd.ext hrd1 (by (try simp only [more_more, more_drew, drew_more, Array.append_assoc]); repeat (first | (with_reducible (first | exact Ext.refl _ | exact ext_d _ _ _ _ | exact ext_app _ _ _ _ _ | exact ext_app2 _ _ _ _ _ _ | exact ext_app3 _ _ _ _ _ _ _)) | ((with_reducible refine ext_suffix ⟨_, ?_⟩); (try simp only [Array.append_assoc]); rfl) | (with_reducible (first | apply Ext.drew | apply Ext.alloc | apply Ext.more_))))) (Rd.ext hrd2 (by (try simp only [more_more, more_drew, drew_more, Array.append_assoc]); repeat (first | (with_reducible (first | exact Ext.refl _ | exact ext_d _ _ _ _ | exact ext_app _ _ _ _ _ | exact ext_app2 _ _ _ _ _ _ | exact ext_app3 _ _ _ _ _ _ _)) | ((with_reducible refine ext_suffix ⟨_, ?_⟩); (try simp only [Array.append_assoc]); rfl) | (with_reducible (first | apply Ext.drew | apply Ext.alloc | apply Ext.more_)))))).mono ?_); rintro e w' ⟨⟨A3, c3, X3, rfl, hrx3, hn3, ha3, hv3, hc3⟩, hx⟩; obtain ⟨os3, d3, rfl⟩ := hx.more; (try simp only [more_more, more_drew, drew_more, Array.append_assoc] at hrx3)); refine hK _ _ ?_ ?_; (repeat (first | (with_reducible (first | exact Ext.refl _ | exact ext_d _ _ _ _ | exact ext_app _ _ _ _ _ | exact ext_app2 _ _ _ _ _ _ | exact ext_app3 _ _ _ _ _ _ _ | exact ext_app4 _ _ _ _ _ _ _ _ | exact ext_app5 _ _ _ _ _ _ _ _ _)) | ((with_reducible refine ext_suffix ⟨_, ?_⟩); (try simp only [Array.append_assoc]); rfl) | (with_reducible (first | apply Ext.drew | apply Ext.alloc | apply Ext.more_)) | apply Ext.drew | apply Ext.alloc | apply Ext.more_)))
    try simp only [Act.put, zqA, zqB, zqC]
    (refine wpPl_read (v := ?_) rfl ?_ (fun _ h => ?_) ?_; rotate_left 1; rfl; (obtain ⟨_, _, rfl⟩ := h.more; go_simp; try rfl))
    try simp only [Act.put, zqA, zqB, zqC]
    (refine wpPl_eff rfl ?_ (fun K hK => ?_); rfl; go_simp; (go_at_call 120; (with_reducible refine (hst _ _ _ _ hn3 (Rd.mono hrx3 (Nat.zero_le _)) hc3 ha3 hv3).mono ?_); rintro e w' ⟨⟨A4, c4, rfl, _, _⟩, rfl⟩); refine hK _ _ ?_ ?_; (repeat (first | (with_reducible (first | exact Ext.refl _ | exact ext_d _ _ _ _ | exact ext_app _ _ _ _ _ | exact ext_app2 _ _ _ _ _ _ | exact ext_app3 _ _ _ _ _ _ _ | exact ext_app4 _ _ _ _ _ _ _ _ | exact ext_app5 _ _ _ _ _ _ _ _ _)) | ((with_reducible refine ext_suffix ⟨_, ?_⟩); (try simp only [Array.append_assoc]); rfl) | (with_reducible (first | apply Ext.drew | apply Ext.alloc | apply Ext.more_)) | apply Ext.drew | apply Ext.alloc | apply Ext.more_)))
    try simp only [Act.put, zqA, zqB, zqC]
    (refine wpPl_read (v := ?_) rfl ?_ (fun _ h => ?_) ?_; rotate_left 1; rfl; (obtain ⟨_, _, rfl⟩ := h.more; go_simp; try rfl))
    try simp only [Act.put, zqA, zqB, zqC]
    refine wpPl_nil ?_
    go_wp2
    go_ret
    exact ⟨rfl, by with_reducible repeat (first | exact Ext.refl _ | apply Ext.drew | apply Ext.alloc | apply Ext.more_)⟩
  · rw [if_neg h0]
    have hz : (nd N == 0) = false := by rw [nd_pos h0]; simp
    have hz' : ((nd N : Int) == 0) = false := by rw [nd_pos h0]; simp; omega
    generalize nd N = k at *
    generalize hR : (if n = true then (-1 : Int) else 1) = R
    have HR := Lib.hid hR
    clear h0 hR
    go_enter Tryz.func125, Tryz.ntmps125
    go_wp2_with (go_at_call 67; (with_reducible refine (rright_rt _ _ _ (by assumption)).mono ?_); rintro e w' ⟨rfl, hbr⟩; obtain ⟨osr, dr, rfl⟩ := hbr.more)
    refine wp_plan (S := Ext _) [(0, 0), (2, 0), (1, 1), (3, 1), (4, 1), (5, 1), (6, 0), (7, 1), (8, 0)] [] (by kernel_rfl) (by kernel_rfl) (by kernel_rfl) (fun _ _ d _ _ h => by cases d <;> exact h) (Ext.drew (Ext.refl _)) ?_
    iterate 2 ((refine wpPl_read (v := ?_) rfl ?_ (fun _ h => ?_) ?_; rotate_left 1; rfl; (obtain ⟨_, _, rfl⟩ := h.more; go_simp; try rfl)); try simp only [Act.put, zqA, zqB, zqC])
    (refine wpPl_eff rfl ?_ (fun K hK => ?_); rfl; go_simp; (go_at_call 119; (with_reducible refine (hof1 _).mono ?_); rintro e w' ⟨A1, c1, rfl, hrd1, hcp1, hx⟩; obtain ⟨os1, d1, rfl⟩ := hx.more; have hrd1 := hrd1.mono (Nat.zero_le _); (try simp only [more_more, more_drew, drew_more, Array.append_assoc] at hrd1)); refine hK _ _ ?_ ?_; (repeat (first | (with_reducible (first | exact Ext.refl _ | exact ext_d _ _ _ _ | exact ext_app _ _ _ _ _ | exact ext_app2 _ _ _ _ _ _ | exact ext_app3 _ _ _ _ _ _ _ | exact ext_app4 _ _ _ _ _ _ _ _ | exact ext_app5 _ _ _ _ _ _ _ _ _)) | ((with_reducible refine ext_suffix ⟨_, ?_⟩); (try simp only [Array.append_assoc]); rfl) | (with_reducible (first | apply Ext.drew | apply Ext.alloc | apply Ext.more_)) | apply Ext.drew | apply Ext.alloc | apply Ext.more_)))
    try simp only [Act.put, zqA, zqB, zqC]
    (refine wpPl_eff rfl ?_ (fun K hK => ?_); rfl; go_simp; (go_at_call 161; (with_reducible refine (hng _).mono ?_); rintro e w' ⟨rfl, hx⟩; obtain ⟨osn, dn, rfl⟩ := hx.more); refine hK _ _ ?_ ?_; (repeat (first | (with_reducible (first | exact Ext.refl _ | exact ext_d _ _ _ _ | exact ext_app _ _ _ _ _ | exact ext_app2 _ _ _ _ _ _ | exact ext_app3 _ _ _ _ _ _ _ | exact ext_app4 _ _ _ _ _ _ _ _ | exact ext_app5 _ _ _ _ _ _ _ _ _)) | ((with_reducible refine ext_suffix ⟨_, ?_⟩); (try simp only [Array.append_assoc]); rfl) | (with_reducible (first | apply Ext.drew | apply Ext.alloc | apply Ext.more_)) | apply Ext.drew | apply Ext.alloc | apply Ext.more_)))
    try simp only [Act.put, zqA, zqB, zqC]
    (refine wpPl_eff rfl ?_ (fun K hK => ?_); rfl; go_simp; (go_at_call 119; (with_reducible refine (hof2 _).mono ?_); rintro e w' ⟨A2, c2, rfl, hrd2, hcp2, hx⟩; obtain ⟨os2, d2, rfl⟩ := hx.more; have hrd2 := hrd2.mono (Nat.zero_le _); (try simp only [more_more, more_drew, drew_more, Array.append_assoc] at hrd2)); refine hK _ _ ?_ ?_; (repeat (first | (with_reducible (first | exact Ext.refl _ | exact ext_d _ _ _ _ | exact ext_app _ _ _ _ _ | exact ext_app2 _ _ _ _ _ _ | exact ext_app3 _ _ _ _ _ _ _ | exact ext_app4 _ _ _ _ _ _ _ _ | exact ext_app5 _ _ _ _ _ _ _ _ _)) | ((with_reducible refine ext_suffix ⟨_, ?_⟩); (try simp only [Array.append_assoc]); rfl) | (with_reducible (first | apply Ext.drew | apply Ext.alloc | apply Ext.more_)) | apply Ext.drew | apply Ext.alloc | apply Ext.more_)))
    try simp only [Act.put, zqA, zqB, zqC]
    (refine wpPl_eff rfl ?_ (fun K hK => ?_); rfl; go_simp; (go_at_call 158; (with_reducible refine (hpl _ _ _ _ _ (Rd.ext hrd1 (by (try simp only [more_more, more_drew, drew_more, Array.append_assoc]); repeat (first | (with_reducible (first | exact Ext.refl _ | exact ext_d _ _ _ _ | exact ext_app _ _ _ _ _ | exact ext_app2 _ _ _ _ _ _ | exact ext_app3 _ _ _ _ _ _ _)) | ((with_reducible refine ext_suffix ⟨_, ?_⟩); (try simp only [Array.append_assoc]); rfl) | (with_reducible (first | apply Ext.drew | apply Ext.alloc | apply Ext.more_))))) (Rd.ext hrd2 (by (try simp only [more_more, more_drew, drew_more, Array.append_assoc]); repeat (first | (with_reducible (first | exact Ext.refl _ | exact ext_d _ _ _ _ | exact ext_app _ _ _ _ _ | exact ext_app2 _ _ _ _ _ _ | exact ext_app3 _ _ _ _ _ _ _)) | ((with_reducible refine ext_suffix ⟨_, ?_⟩); (try simp only [Array.append_assoc]); rfl) | (with_reducible (first | apply Ext.drew | apply Ext.alloc | apply Ext.more_)))))).mono ?_); rintro e w' ⟨⟨A3, c3, X3, rfl, hrx3, hn3, ha3, hv3, hc3⟩, hx⟩; obtain ⟨os3, d3, rfl⟩ := hx.more; (try simp only [more_more, more_drew, drew_more, Array.append_assoc] at hrx3)); refine hK _ _ ?_ ?_; (repeat (first | (with_reducible (first | exact Ext.refl _ | exact ext_d _ _ _ _ | exact ext_app _ _ _ _ _ | exact ext_app2 _ _ _ _ _ _ | exact ext_app3 _ _ _ _ _ _ _ | exact ext_app4 _ _ _ _ _ _ _ _ | exact ext_app5 _ _ _ _ _ _ _ _ _)) | ((with_reducible refine ext_suffix ⟨_, ?_⟩); (try simp only [Array.append_assoc]); rfl) | (with_reducible (first | apply Ext.drew | apply Ext.alloc | apply Ext.more_)) | apply Ext.drew | apply Ext.alloc | apply Ext.more_)))
    try simp only [Act.put, zqA, zqB, zqC]
    (refine wpPl_read (v := ?_) rfl ?_ (fun _ h => ?_) ?_; rotate_left 1; rfl; (obtain ⟨_, _, rfl⟩ := h.more; go_simp; try rfl))
    try simp only [Act.put, zqA, zqB, zqC]
    (refine wpPl_eff rfl ?_ (fun K hK => ?_); rfl; go_simp; (go_at_call 120; (with_reducible refine (hst _ _ _ _ hn3 (Rd.mono hrx3 (Nat.zero_le _)) hc3 ha3 hv3).mono ?_); rintro e w' ⟨⟨A4, c4, rfl, _, _⟩, rfl⟩); refine hK _ _ ?_ ?_; (repeat (first | (with_reducible (first | exact Ext.refl _ | exact ext_d _ _ _ _ | exact ext_app _ _ _ _ _ | exact ext_app2 _ _ _ _ _ _ | exact ext_app3 _ _ _ _ _ _ _ | exact ext_app4 _ _ _ _ _ _ _ _ | exact ext_app5 _ _ _ _ _ _ _ _ _)) | ((with_reducible refine ext_suffix ⟨_, ?_⟩); (try simp only [Array.append_assoc]); rfl) | (with_reducible (first | apply Ext.drew | apply Ext.alloc | apply Ext.more_)) | apply Ext.drew | apply Ext.alloc | apply Ext.more_)))
    try simp only [Act.put, zqA, zqB, zqC]
    (refine wpPl_read (v := ?_) rfl ?_ (fun _ h => ?_) ?_; rotate_left 1; rfl; (obtain ⟨_, _, rfl⟩ := h.more; go_simp; try rfl))
    try simp only [Act.put, zqA, zqB, zqC]
    refine wpPl_nil ?_
    clear hrd1 hrd2 hrx3 ha3 hv3 hn3 hst
    go_wp2
    refine wp_world fun W hW => ?_
    have c0 : W.cell? ⟨w.heap.size, 0, none⟩ = some (.int .i64 ma) := by rw [hW]; go_simp
    have c1 : W.cell? ⟨w.heap.size, 1, none⟩ = some (.int .i64 ea) := by rw [hW]; go_simp
    have c2 : W.cell? ⟨w.heap.size + 1, 0, none⟩ = some (.int .i64 mb) := by rw [hW]; go_simp
    have c3 : W.cell? ⟨w.heap.size + 1, 1, none⟩ = some (.int .i64 eb) := by rw [hW]; go_simp
    have hz1 : w.heap.size + 1 < W.heap.size := by rw [hW]; simp; try omega
    have hz0 : w.heap.size < W.heap.size := by omega
    have hxW : Ext w W := by rw [hW]; exact by with_reducible repeat (first | exact Ext.refl _ | apply Ext.drew | apply Ext.alloc | apply Ext.more_)
    clear hW
    refine wp_plan (S := Ext _) [(0, 0), (2, 0), (1, 1), (3, 1), (4, 1), (5, 1), (6, 0)] [] (by kernel_rfl) (by kernel_rfl) (by kernel_rfl) (fun _ _ d _ _ h => by cases d <;> exact h) (Ext.drew (Ext.refl _)) ?_
    iterate 2 ((refine wpPl_read (v := ?_) rfl ?_ (fun _ h => ?_) ?_; rotate_left 1; rfl; (obtain ⟨_, _, rfl⟩ := h.more; go_simp; try rfl)); try simp only [Act.put, zqA, zqB, zqC])
    (refine wpPl_eff rfl ?_ (fun K hK => ?_); rfl; go_simp; (go_at_call 119; (with_reducible refine (hof1 _).mono ?_); rintro e w' ⟨A1, c1, rfl, hrd1, hcp1, hx⟩; obtain ⟨os1, d1, rfl⟩ := hx.more; have hrd1 := hrd1.mono (Nat.zero_le _); (try simp only [more_more, more_drew, drew_more, Array.append_assoc] at hrd1)); refine hK _ _ ?_ ?_; (repeat (first | (with_reducible (first | exact Ext.refl _ | exact ext_d _ _ _ _ | exact ext_app _ _ _ _ _ | exact ext_app2 _ _ _ _ _ _ | exact ext_app3 _ _ _ _ _ _ _ | exact ext_app4 _ _ _ _ _ _ _ _ | exact ext_app5 _ _ _ _ _ _ _ _ _)) | ((with_reducible refine ext_suffix ⟨_, ?_⟩); (try simp only [Array.append_assoc]); rfl) | (with_reducible (first | apply Ext.drew | apply Ext.alloc | apply Ext.more_)) | apply Ext.drew | apply Ext.alloc | apply Ext.more_)))
    try simp only [Act.put, zqA, zqB, zqC]
    (refine wpPl_eff rfl ?_ (fun K hK => ?_); rfl; go_simp; (go_at_call 161; (with_reducible refine (hng _).mono ?_); rintro e w' ⟨rfl, hx⟩; obtain ⟨osn, dn, rfl⟩ := hx.more); refine hK _ _ ?_ ?_; (repeat (first | (with_reducible (first | exact Ext.refl _ | exact ext_d _ _ _ _ | exact ext_app _ _ _ _ _ | exact ext_app2 _ _ _ _ _ _ | exact ext_app3 _ _ _ _ _ _ _ | exact ext_app4 _ _ _ _ _ _ _ _ | exact ext_app5 _ _ _ _ _ _ _ _ _)) | ((with_reducible refine ext_suffix ⟨_, ?_⟩); (try simp only [Array.append_assoc]); rfl) | (with_reducible (first | apply Ext.drew | apply Ext.alloc | apply Ext.more_)) | apply Ext.drew | apply Ext.alloc | apply Ext.more_)))
    try simp only [Act.put, zqA, zqB, zqC]
    (refine wpPl_eff rfl ?_ (fun K hK => ?_); rfl; go_simp; (go_at_call 119; (with_reducible refine (hof2 _).mono ?_); rintro e w' ⟨A2, c2, rfl, hrd2, hcp2, hx⟩; obtain ⟨os2, d2, rfl⟩ := hx.more; have hrd2 := hrd2.mono (Nat.zero_le _); (try simp only [more_more, more_drew, drew_more, Array.append_assoc] at hrd2)); refine hK _ _ ?_ ?_; (repeat (first | (with_reducible (first | exact Ext.refl _ | exact ext_d _ _ _ _ | exact ext_app _ _ _ _ _ | exact ext_app2 _ _ _ _ _ _ | exact ext_app3 _ _ _ _ _ _ _ | exact ext_app4 _ _ _ _ _ _ _ _ | exact ext_app5 _ _ _ _ _ _ _ _ _)) | ((with_reducible refine ext_suffix ⟨_, ?_⟩); (try simp only [Array.append_assoc]); rfl) | (with_reducible (first | apply Ext.drew | apply Ext.alloc | apply Ext.more_)) | apply Ext.drew | apply Ext.alloc | apply Ext.more_)))
    try simp only [Act.put, zqA, zqB, zqC]
    (refine wpPl_eff rfl ?_ (fun K hK => ?_); rfl; go_simp; (go_at_call 158; (with_reducible refine (hpl _ _ _ _ _ (Rd.ext hrd1 (by (try simp only [more_more, more_drew, drew_more, Array.append_assoc]); repeat (first | (with_reducible (first | exact Ext.refl _ | exact ext_d _ _ _ _ | exact ext_app _ _ _ _ _ | exact ext_app2 _ _ _ _ _ _ | exact ext_app3 _ _ _ _ _ _ _)) | ((with_reducible refine ext_suffix ⟨_, ?_⟩); (try simp only [Array.append_assoc]); rfl) | (with_reducible (first | apply Ext.drew | apply Ext.alloc | apply Ext.more_))))) (Rd.ext hrd2 (by (try simp only [more_more, more_drew, drew_more, Array.append_assoc]); repeat (first | (with_reducible (first | exact Ext.refl _ | exact ext_d _ _ _ _ | exact ext_app _ _ _ _ _ | exact ext_app2 _ _ _ _ _ _ | exact ext_app3 _ _ _ _ _ _ _)) | ((with_reducible refine ext_suffix ⟨_, ?_⟩); (try simp only [Array.append_assoc]); rfl) | (with_reducible (first | apply Ext.drew | apply Ext.alloc | apply Ext.more_)))))).mono ?_); rintro e w' ⟨⟨A3, c3, X3, rfl, hrx3, hn3, ha3, hv3, hc3⟩, hx⟩; obtain ⟨os3, d3, rfl⟩ := hx.more; (try simp only [more_more, more_drew, drew_more, Array.append_assoc] at hrx3)); refine hK _ _ ?_ ?_; (repeat (first | (with_reducible (first | exact Ext.refl _ | exact ext_d _ _ _ _ | exact ext_app _ _ _ _ _ | exact ext_app2 _ _ _ _ _ _ | exact ext_app3 _ _ _ _ _ _ _ | exact ext_app4 _ _ _ _ _ _ _ _ | exact ext_app5 _ _ _ _ _ _ _ _ _)) | ((with_reducible refine ext_suffix ⟨_, ?_⟩); (try simp only [Array.append_assoc]); rfl) | (with_reducible (first | apply Ext.drew | apply Ext.alloc | apply Ext.more_)) | apply Ext.drew | apply Ext.alloc | apply Ext.more_)))
    try simp only [Act.put, zqA, zqB, zqC]
    (refine wpPl_read (v := ?_) rfl ?_ (fun _ h => ?_) ?_; rotate_left 1; rfl; (obtain ⟨_, _, rfl⟩ := h.more; go_simp; try rfl))
    try simp only [Act.put, zqA, zqB, zqC]
    refine wpPl_nil ?_
    cases n with
    | true =>
      go_wp2
      go_ret
      exact ⟨by rw [← HR.out]; rfl, hxW.trans (by with_reducible repeat (first | exact Ext.refl _ | apply Ext.drew | apply Ext.alloc | apply Ext.more_))⟩
    | false =>
      go_wp2
      go_ret
      exact ⟨by rw [← HR.out]; rfl, hxW.trans (by with_reducible repeat (first | exact Ext.refl _ | apply Ext.drew | apply Ext.alloc | apply Ext.more_))⟩
set_option maxHeartbeats 2000000 in
theorem rcmp_any (ma ea mb eb : Int) (w : World) (hma : I64 ma) (hmb : I64 mb) :
    Calls Tryz.prog 125 #[NV ma ea, NV mb eb] w fun e w' => e = .returned (.int .i64 (cmpS ma ea mb eb)) ∧ Ext w w' := by
  unfold cmpS
  by_cases h1 : Rt ma ea
  · have r1 := rtB_yes h1
    by_cases h2 : Rt mb eb
    · rw [if_pos ⟨h1, h2⟩]; exact rcmp_yes ma ea mb eb w h1 h2
    · have r2 := rtB_no h2
      rw [if_neg (fun h => h2 h.2)]
      clear h1 h2
      go_enter Tryz.func125, Tryz.ntmps125
      go_wp2_with (go_at_call 67; (with_reducible refine (rright_rt _ _ _ (by assumption)).mono ?_); rintro e w' ⟨rfl, hbr⟩; obtain ⟨osr, dr, rfl⟩ := hbr.more)
      go_ret
      exact ⟨rfl, by with_reducible repeat (first | exact Ext.refl _ | apply Ext.drew | apply Ext.alloc | apply Ext.more_)⟩
  · have r1 := rtB_no h1
    rw [if_neg (fun h => h1 h.1)]
    clear h1
    go_enter Tryz.func125, Tryz.ntmps125
    go_wp2_with (go_at_call 67; (with_reducible refine (rright_rt _ _ _ (by assumption)).mono ?_); rintro e w' ⟨rfl, hbr⟩; obtain ⟨osr, dr, rfl⟩ := hbr.more)
    go_ret
    exact ⟨rfl, by with_reducible repeat (first | exact Ext.refl _ | apply Ext.drew | apply Ext.alloc | apply Ext.more_)⟩
end Go.Proofs.YtmjmijjbijlhfaaGreatDoor
namespace Go.Proofs.YtmjmijjbijlhfaaGreatDoor
open Go.RowKit NM
theorem Ext.trans_below {W w3 w4 : World} {base : Nat} (h : Ext W w3) (hb : Below base w3 w4) (hs : W.heap.size ≤ base) : Ext W w4 := Below.trans h (Below.mono hb hs)
theorem pad_val {neg : Bool} {n : Nat} {D : List Nat} : valI (pad neg n D.length D) = sg neg (val D) := by
  unfold pad
  have h0 : ∀ (k : Nat) (l : List Int), valI (List.replicate k 0 ++ l) = valI l := by
    intro k l
    induction k with
    | zero => rfl
    | succ k ih => rw [List.replicate_succ, List.cons_append, valI_cons, ih]; omega
  rw [h0, Nat.sub_self, List.replicate_zero, List.append_nil, List.take_length]
  cases neg with
  | false => exact valI_nat D
  | true =>
    have : (D.map fun d => sg true d) = (D.map fun d : Nat => (d : Int)).map fun x => -x := by rw [List.map_map]; rfl
    rw [this, valI_neg, valI_nat]; rfl
theorem pad_sign {neg : Bool} {n i : Nat} {D : List Nat} (hD : AllD D) : ∀ x ∈ pad neg n i D, if neg then -9 ≤ x ∧ x ≤ 0 else 0 ≤ x ∧ x ≤ 9 := by
  intro x hx
  unfold pad at hx
  rcases List.mem_append.1 hx with h | h
  · rw [List.eq_of_mem_replicate h]; split <;> omega
  · rcases List.mem_append.1 h with h | h
    · obtain ⟨d, hd, rfl⟩ := List.mem_map.1 h
      have := hD d (List.mem_of_mem_take hd)
      cases neg <;> simp [sg] <;> omega
    · rw [List.eq_of_mem_replicate h]; split <;> omega
/-- Both numbers' digits, added up place by place. -/
def both (na nb : Bool) (n : Nat) (X Y : List Nat) : List Int := List.zipWith (· + ·) (List.zipWith (· + ·) (List.replicate n 0) (pad na n X.length X)) (pad nb n Y.length Y)
theorem mem_zip {a b : List Int} {z : Int} (h : z ∈ List.zipWith (· + ·) a b) : ∃ x ∈ a, ∃ y ∈ b, z = x + y := by
  obtain ⟨j, hj⟩ := List.getElem?_of_mem h
  rw [List.getElem?_zipWith] at hj
  cases ha : a[j]? with
  | none => rw [ha] at hj; simp at hj
  | some x =>
    cases hb : b[j]? with
    | none => rw [ha, hb] at hj; simp at hj
    | some y =>
      rw [ha, hb] at hj
      simp at hj
      exact ⟨x, List.mem_of_getElem? ha, y, List.mem_of_getElem? hb, hj.symm⟩
theorem both_mem {na nb : Bool} {n : Nat} {X Y : List Nat} {z : Int} (h : z ∈ both na nb n X Y) : ∃ x ∈ pad na n X.length X, ∃ y ∈ pad nb n Y.length Y, z = x + y := by
  obtain ⟨u, hu, y, hy, rfl⟩ := mem_zip h
  obtain ⟨v, hv, x, hx, rfl⟩ := mem_zip hu
  rw [List.eq_of_mem_replicate hv]
  exact ⟨x, hx, y, hy, by omega⟩
theorem both_ok {na nb : Bool} {n : Nat} {X Y : List Nat} (hX : AllD X) (hY : AllD Y) : DOk (both na nb n X Y) := by
  cases na <;> cases nb
  · refine Or.inr (Or.inl fun z hz => ?_)
    obtain ⟨x, hx, y, hy, rfl⟩ := both_mem hz
    have h1 := pad_sign hX x hx
    have h2 := pad_sign hY y hy
    simp at h1 h2; omega
  · refine Or.inl fun z hz => ?_
    obtain ⟨x, hx, y, hy, rfl⟩ := both_mem hz
    have h1 := pad_sign hX x hx
    have h2 := pad_sign hY y hy
    simp at h1 h2; omega
  · refine Or.inl fun z hz => ?_
    obtain ⟨x, hx, y, hy, rfl⟩ := both_mem hz
    have h1 := pad_sign hX x hx
    have h2 := pad_sign hY y hy
    simp at h1 h2; omega
  · refine Or.inr (Or.inr fun z hz => ?_)
    obtain ⟨x, hx, y, hy, rfl⟩ := both_mem hz
    have h1 := pad_sign hX x hx
    have h2 := pad_sign hY y hy
    simp at h1 h2; omega
theorem both_length {na nb : Bool} {n : Nat} {X Y : List Nat} (hX : X.length ≤ n) (hY : Y.length ≤ n) : (both na nb n X Y).length = n := by
  unfold both
  rw [List.length_zipWith, List.length_zipWith, pad_length hX (Nat.le_refl _), pad_length hY (Nat.le_refl _), List.length_replicate]; omega
theorem both_val {na nb : Bool} {n : Nat} {X Y : List Nat} (hX : X.length ≤ n) (hY : Y.length ≤ n) : valI (both na nb n X Y) = sg na (val X) + sg nb (val Y) := by
  unfold both
  rw [valI_zip _ _ (by rw [List.length_zipWith, pad_length hX (Nat.le_refl _), pad_length hY (Nat.le_refl _), List.length_replicate]; omega), valI_zip _ _ (by rw [pad_length hX (Nat.le_refl _), List.length_replicate]), valI_rep0, pad_val, pad_val]; omega
theorem both_lt {na nb : Bool} {n : Nat} {X Y : List Nat} (hX : AllD X) (hY : AllD Y) (h : max X.length Y.length + 1 = n) : (valI (both na nb n X Y)).natAbs < T n := by
  rw [both_val (by omega) (by omega)]
  have h1 := Nat.lt_of_lt_of_le (val_lt hX) (T_mono (show X.length ≤ n - 1 by omega))
  have h2 := Nat.lt_of_lt_of_le (val_lt hY) (T_mono (show Y.length ≤ n - 1 by omega))
  have h3 : T n = 10 * T (n - 1) := by rw [← T_succ]; congr 1; omega
  rw [h3]
  generalize T (n - 1) = t at *
  cases na <;> cases nb <;> simp [sg] <;> omega
theorem sprd_val (m : Int) (k : Nat) : val (sprd m k) = m.natAbs * T k := by unfold sprd; rw [val_zeros, dig0_val]
theorem sprd_all (m : Int) (k : Nat) : AllD (sprd m k) := (dig0_all _).append (AllD.rep _ _ (by omega))
set_option maxHeartbeats 2000000 in
theorem add_no (ma ea mb eb : Int) (w : World) (hma : I64 ma) (hmb : I64 mb) (h : ¬ (Rt ma ea ∧ Rt mb eb)) :
    Calls Tryz.prog 95 #[NV ma ea, NV mb eb] w fun e w' => e = .returned (rnV none) ∧ Ext w w' := by
  by_cases h1 : Rt ma ea
  · have r1 := rtB_yes h1
    have r2 := rtB_no (fun h2 => h ⟨h1, h2⟩)
    clear h h1
    go_enter Tryz.func95, Tryz.ntmps95
    go_wp2_with (go_at_call 122; (with_reducible refine (right_rt _ _ _ (by assumption)).mono ?_); rintro e w' ⟨rfl, hbr⟩; obtain ⟨osr, dr, rfl⟩ := hbr.more)
    exact bodyPost_ret (v := .tuple #[NV 0 0, .bool false]) (by simp [results, Tryz.results95, go_sem]) rfl ⟨rfl, by with_reducible repeat (first | exact Ext.refl _ | apply Ext.drew | apply Ext.alloc | apply Ext.more_)⟩
  · have r1 := rtB_no h1
    clear h h1
    go_enter Tryz.func95, Tryz.ntmps95
    go_wp2_with (go_at_call 122; (with_reducible refine (right_rt _ _ _ (by assumption)).mono ?_); rintro e w' ⟨rfl, hbr⟩; obtain ⟨osr, dr, rfl⟩ := hbr.more)
    exact bodyPost_ret (v := .tuple #[NV 0 0, .bool false]) (by simp [results, Tryz.results95, go_sem]) rfl ⟨rfl, by with_reducible repeat (first | exact Ext.refl _ | apply Ext.drew | apply Ext.alloc | apply Ext.more_)⟩
set_option maxHeartbeats 4000000 in
theorem add_yes (ma ea mb eb : Int) (w : World) (htab : Tab w) (h1 : Rt ma ea) (h2 : Rt mb eb) :
    Calls Tryz.prog 95 #[NV ma ea, NV mb eb] w fun e w' => e = .returned (rnV (rndI (sumI ma ea mb eb) (min ea eb))) ∧ Ext w w' := by
  obtain ⟨b1, b2, b3⟩ := Rt_bd h1
  obtain ⟨b4, b5, b6⟩ := Rt_bd h2
  have hma : I64 ma := by unfold I64; omega
  have hmb : I64 mb := by unfold I64; omega
  have r1 := rtB_yes h1
  have r2 := rtB_yes h2
  have hT15 : T 15 = 1000000000000000 := by decide
  have n1 : nd ma.natAbs ≤ 15 := (nd_le_iff _ _).2 (by omega)
  have n2 : nd mb.natAbs ≤ 15 := (nd_le_iff _ _).2 (by omega)
  have hsp1 := fun W hW => spread_any ma ea (min ea eb) (ea - min ea eb).toNat W hW hma (by omega) (by omega)
  have hsp2 := fun W hW => spread_any mb eb (min ea eb) (eb - min ea eb).toNat W hW hmb (by omega) (by omega)
  have hlx : (sprd ma (ea - min ea eb).toNat).length ≤ 200 := by unfold sprd; rw [List.length_append, dig0_length, List.length_replicate]; omega
  have hly : (sprd mb (eb - min ea eb).toNat).length ≤ 200 := by unfold sprd; rw [List.length_append, dig0_length, List.length_replicate]; omega
  have hax := sprd_all ma (ea - min ea eb).toNat
  have hay := sprd_all mb (eb - min ea eb).toNat
  have hsum : sumI ma ea mb eb = sg (decide (ma < 0)) (val (sprd ma (ea - min ea eb).toNat)) + sg (decide (mb < 0)) (val (sprd mb (eb - min ea eb).toNat)) := by
    rw [sprd_val, sprd_val, sg_mul_nat, sg_mul_nat, sg_nat, sg_nat]; rfl
  rw [hsum]
  generalize sprd ma (ea - min ea eb).toNat = X at *
  generalize sprd mb (eb - min ea eb).toNat = Y at *
  have hlen := both_length (na := decide (ma < 0)) (nb := decide (mb < 0)) (n := max X.length Y.length + 1) (X := X) (Y := Y) (by omega) (by omega)
  have hok := both_ok (na := decide (ma < 0)) (nb := decide (mb < 0)) (n := max X.length Y.length + 1) hax hay
  have hval := both_val (na := decide (ma < 0)) (nb := decide (mb < 0)) (n := max X.length Y.length + 1) (X := X) (Y := Y) (by omega) (by omega)
  have hlt := both_lt (na := decide (ma < 0)) (nb := decide (mb < 0)) hax hay rfl
  rw [← hval]
  generalize hRR : rndI (valI (both (decide (ma < 0)) (decide (mb < 0)) (max X.length Y.length + 1) X Y)) (min ea eb) = R
  have HRR := Lib.hid hRR
  have HLEN := Lib.hid hlen
  have HOK := Lib.hid hok
  have HLT := Lib.hid hlt
  have HT := Lib.hid htab
  have HAX := Lib.hid hax
  have HAY := Lib.hid hay
  clear h1 h2 hRR hlen hok hlt hval hsum htab hax hay n1 n2 hT15
  go_enter Tryz.func95, Tryz.ntmps95
  go_wp2_with (go_at_call 122; (with_reducible refine (right_rt _ _ _ (by assumption)).mono ?_); rintro e w' ⟨rfl, hbr⟩; obtain ⟨osr, dr, rfl⟩ := hbr.more)
  refine wp_plan (S := Ext _) [(0, 0), (1, 0), (3, 0), (4, 0), (2, 1), (5, 1), (6, 0), (7, 0)] [] (by kernel_rfl) (by kernel_rfl) (by kernel_rfl) (fun _ _ d _ _ h => by cases d <;> exact h) (Ext.drew (Ext.refl _)) ?_
  iterate 4 ((refine wpPl_read (v := ?_) rfl ?_ (fun _ h => ?_) ?_; rotate_left 1; rfl; (obtain ⟨_, _, rfl⟩ := h.more; go_simp; try rfl)); try simp only [Act.put, zqA, zqB, zqC])
  (refine wpPl_eff rfl ?_ (fun K hK => ?_); rfl; go_simp; (go_at_call 148; (with_reducible refine (hsp1 _ (HT.out.ext (by with_reducible repeat (first | exact Ext.refl _ | apply Ext.drew | apply Ext.alloc | apply Ext.more_)))).mono ?_); rintro e w' ⟨v1, rfl, ho1, hx1⟩; obtain ⟨os1, d1, rfl⟩ := hx1.more; obtain ⟨A1, p1, rfl, hg1, _⟩ := Dg.of_own (l := X) (k := .u8) ho1; clear ho1); refine hK _ _ ?_ ?_; (repeat (first | (with_reducible (first | exact Ext.refl _ | exact ext_d _ _ _ _ | exact ext_app _ _ _ _ _ | exact ext_app2 _ _ _ _ _ _ | exact ext_app3 _ _ _ _ _ _ _ | exact ext_app4 _ _ _ _ _ _ _ _ | exact ext_app5 _ _ _ _ _ _ _ _ _)) | ((with_reducible refine ext_suffix ⟨_, ?_⟩); (try simp only [Array.append_assoc]); rfl) | (with_reducible (first | apply Ext.drew | apply Ext.alloc | apply Ext.more_)) | apply Ext.drew | apply Ext.alloc | apply Ext.more_)))
  try simp only [Act.put, zqA, zqB, zqC]
  (refine wpPl_eff rfl ?_ (fun K hK => ?_); rfl; go_simp; (go_at_call 148; (with_reducible refine (hsp2 _ (HT.out.ext (by with_reducible repeat (first | exact Ext.refl _ | apply Ext.drew | apply Ext.alloc | apply Ext.more_)))).mono ?_); rintro e w' ⟨v2, rfl, ho2, hx2⟩; obtain ⟨os2, d2, rfl⟩ := hx2.more; obtain ⟨A2, p2, rfl, hg2, _⟩ := Dg.of_own (l := Y) (k := .u8) ho2; clear ho2); refine hK _ _ ?_ ?_; (repeat (first | (with_reducible (first | exact Ext.refl _ | exact ext_d _ _ _ _ | exact ext_app _ _ _ _ _ | exact ext_app2 _ _ _ _ _ _ | exact ext_app3 _ _ _ _ _ _ _ | exact ext_app4 _ _ _ _ _ _ _ _ | exact ext_app5 _ _ _ _ _ _ _ _ _)) | ((with_reducible refine ext_suffix ⟨_, ?_⟩); (try simp only [Array.append_assoc]); rfl) | (with_reducible (first | apply Ext.drew | apply Ext.alloc | apply Ext.more_)) | apply Ext.drew | apply Ext.alloc | apply Ext.more_)))
  try simp only [Act.put, zqA, zqB, zqC]
  iterate 2 ((refine wpPl_read (v := ?_) rfl ?_ (fun _ h => ?_) ?_; rotate_left 1; rfl; (obtain ⟨_, _, rfl⟩ := h.more; go_simp; try rfl)); try simp only [Act.put, zqA, zqB, zqC])
  refine wpPl_nil ?_
  go_upto_region 5 with fail
  refine wp_world fun W hW => ?_
  have c0 : W.cell? ⟨w.heap.size, 0, none⟩ = some (.int .i64 ma) := by rw [hW]; go_simp
  have c2 : W.cell? ⟨w.heap.size + 1, 0, none⟩ = some (.int .i64 mb) := by rw [hW]; go_simp
  have c4 : W.cell? ⟨w.heap.size + 1 + 1, 0, none⟩ = some (.int .i64 0) := by rw [hW]; go_simp
  have c5 : W.cell? ⟨w.heap.size + 1 + 1, 1, none⟩ = some (.int .i64 0) := by rw [hW]; go_simp
  have f4 : W.frozen? ⟨w.heap.size + 1 + 1, 0, none⟩ = false := by rw [hW]; go_simp
  have f5 : W.frozen? ⟨w.heap.size + 1 + 1, 1, none⟩ = false := by rw [hW]; go_simp
  have hz : w.heap.size + 1 + 1 < W.heap.size := by rw [hW]; simp; try omega
  have hz1 : w.heap.size + 1 < W.heap.size := by omega
  have hz0 : w.heap.size < W.heap.size := by omega
  have hxW : Ext w W := by rw [hW]; exact by with_reducible repeat (first | exact Ext.refl _ | apply Ext.drew | apply Ext.alloc | apply Ext.more_)
  have HRX : Hid (Rd 0 W A1 (b8 X) ∧ ∀ p, A1 = some p → X ≠ [] → p.block < W.heap.size) := by
    have h3 : Rd 0 W A1 (b8 X) := by rw [hW]; exact Rd.ext (hg1.rd.mono (Nat.zero_le _)) (by (try simp only [more_more, more_drew, drew_more, Array.append_assoc]); repeat (first | (with_reducible (first | exact Ext.refl _ | exact ext_d _ _ _ _ | exact ext_app _ _ _ _ _ | exact ext_app2 _ _ _ _ _ _ | exact ext_app3 _ _ _ _ _ _ _)) | ((with_reducible refine ext_suffix ⟨_, ?_⟩); (try simp only [Array.append_assoc]); rfl) | (with_reducible (first | apply Ext.drew | apply Ext.alloc | apply Ext.more_))))
    refine ⟨h3, fun p hp hne => ?_⟩
    obtain ⟨x, X', rfl⟩ := List.exists_cons_of_ne_nil hne
    obtain ⟨b', o', hA, _, hc⟩ := h3 0 _ rfl
    rw [hp] at hA
    obtain rfl : p = ⟨b', o', none⟩ := Option.some.inj hA
    exact lt_of_cell hc
  have HRY : Hid (Rd 0 W A2 (b8 Y) ∧ ∀ p, A2 = some p → Y ≠ [] → p.block < W.heap.size) := by
    have h3 : Rd 0 W A2 (b8 Y) := by rw [hW]; exact Rd.ext (hg2.rd.mono (Nat.zero_le _)) (by (try simp only [more_more, more_drew, drew_more, Array.append_assoc]); repeat (first | (with_reducible (first | exact Ext.refl _ | exact ext_d _ _ _ _ | exact ext_app _ _ _ _ _ | exact ext_app2 _ _ _ _ _ _ | exact ext_app3 _ _ _ _ _ _ _)) | ((with_reducible refine ext_suffix ⟨_, ?_⟩); (try simp only [Array.append_assoc]); rfl) | (with_reducible (first | apply Ext.drew | apply Ext.alloc | apply Ext.more_))))
    refine ⟨h3, fun p hp hne => ?_⟩
    obtain ⟨x, X', rfl⟩ := List.exists_cons_of_ne_nil hne
    obtain ⟨b', o', hA, _, hc⟩ := h3 0 _ rfl
    rw [hp] at hA
    obtain rfl : p = ⟨b', o', none⟩ := Option.some.inj hA
    exact lt_of_cell hc
  clear hW hg1 hg2 hx1 hx2 hsp1 hsp2
  have hmk := make_int (max X.length Y.length + 1) (by omega)
  rw [show (((max X.length Y.length + 1 : Nat)) : Int) = max (X.length : Int) (Y.length : Int) + 1 by omega] at hmk
  obtain ⟨n, hn⟩ : ∃ n, n = max X.length Y.length + 1 := ⟨_, rfl⟩
  have hnb : n ≤ 1000 := by omega
  have hnx : X.length ≤ n := by omega
  have hny : Y.length ≤ n := by omega
  rw [← hn] at hmk HRR HLEN HOK HLT
  have HI0 : Hid (IRow (W.alloc (.cells (madeCells #[.int .i64 0] n) 3)) W.heap.size (List.replicate n 0)) := by
    show _ = _
    have hC : madeCells #[.int .i64 0] n = ((List.replicate n (0 : Int)).map (Value.int .i64)).toArray := by
      apply Array.ext'
      rw [toList_madeCells_one]
      simp
    rw [hC]
    exact Array.getElem?_push_size
  have hga1 := fun W' (hx : Ext W W') (hi : IRow W' W.heap.size (List.replicate n 0)) => gather_any W.heap.size n (List.replicate n 0) A1 p1 X (decide (ma < 0)) W' (by simp) hi (HRX.out.1.ext hx) (fun p hp h0 => by have := HRX.out.2 p hp h0; omega) hnx (by omega) HAX.out (fun x hx => by rw [List.eq_of_mem_replicate hx]; omega)
  have hga2 := fun W' (hx : Ext W W') (hi : IRow W' W.heap.size (List.zipWith (· + ·) (List.replicate n 0) (pad (decide (ma < 0)) n X.length X))) => gather_any W.heap.size n _ A2 p2 Y (decide (mb < 0)) W' (by rw [List.length_zipWith, pad_length hnx (Nat.le_refl _), List.length_replicate]; omega) hi (HRY.out.1.ext hx) (fun p hp h0 => by have := HRY.out.2 p hp h0; omega) hny (by omega) HAY.out (fun x hx => by
    obtain ⟨u, hu, v, hv, rfl⟩ := mem_zip hx
    rw [List.eq_of_mem_replicate hu]
    have := pad_all HAX.out v hv
    omega)
  have hse := fun W' (hi : IRow W' W.heap.size (both (decide (ma < 0)) (decide (mb < 0)) n X Y)) => settle_any W.heap.size n _ W' HLEN.out hi HOK.out (by omega) HLT.out
  have hx0 : Ext W (W.alloc (.cells (madeCells #[.int .i64 0] n) 3)) := (Ext.refl _).alloc _
  clear hn
  go_upto_region 7 with (go_at_call 149; (with_reducible refine (hga1 _ hx0 HI0.out).mono ?_); rintro e w1 ⟨rfl, hi1, ho1⟩; have hx1 := ho1.ext hx0 (Nat.le_refl _))
  have c2' := hx1.cell_some c2
  go_upto_region 8 with (go_at_call 149; (with_reducible refine (hga2 _ hx1 hi1).mono ?_); rintro e w2 ⟨rfl, hi2, ho2⟩; have hx2 := ho2.ext hx1 (Nat.le_refl _))
  have hse2 := hse w2 hi2
  clear hse hga1 hga2 hi1 hi2 HLEN HOK HLT HRX HRY HI0 hmk ho1 ho2 c2'
  generalize valI (both (decide (ma < 0)) (decide (mb < 0)) n X Y) = V at *
  go_upto_region 9 with (go_at_call 150; (with_reducible refine hse2.mono ?_); rintro e w3 ⟨rfl, ⟨D, hdg, hdl, hda, hdv⟩, hx3⟩)
  have hrd := round_any w2.heap.size (decide (V < 0)) (some ⟨w2.heap.size, 0, none⟩) n D (min ea eb) w3 hdg hda (by omega) hx3.size (by omega)
  rw [hdl, hdv, show rnd (decide (V < 0)) V.natAbs false (min ea eb) = R from HRR.out] at hrd
  clear hdg hda hdv hdl HRR hse2
  go_wp2_with (go_at_call 138; (with_reducible refine hrd.mono ?_); rintro e w4 ⟨rfl, hb4⟩; have hx4 : Ext W w4 := (hx2.trans hx3).trans_below hb4 hx2.size; obtain ⟨os4, d4, rfl⟩ := hx4.more)
  exact bodyPost_ret (v := rnV R) (by simp [results, Tryz.results95, go_sem, c4, c5, hz]) rfl ⟨rfl, ((hxW.set _ (by show w.heap.size ≤ w.heap.size + 1 + 1; omega)).set _ (by show w.heap.size ≤ w.heap.size + 1 + 1; omega)).more_ _ _⟩
theorem add_any (ma ea mb eb : Int) (w : World) (htab : Tab w) (hma : I64 ma) (hmb : I64 mb) :
    Calls Tryz.prog 95 #[NV ma ea, NV mb eb] w fun e w' => e = .returned (rnV (addS ma ea mb eb)) ∧ Ext w w' := by
  unfold addS
  split
  · rename_i h; exact add_yes ma ea mb eb w htab h.1 h.2
  · rename_i h; exact add_no ma ea mb eb w hma hmb h
end Go.Proofs.YtmjmijjbijlhfaaGreatDoor
namespace Go.Proofs.YtmjmijjbijlhfaaGreatDoor
open Go.RowKit NM
theorem own_ext_ {w w' : World} {base : Nat} {ty : TypeId} {v : Value} {n : Nat} {xs : List Value} (h : w.ownsRow base ty 1 v n xs) (hx : Ext w w') : w'.ownsRow base ty 1 v n xs := by
  refine ⟨h.1, ?_⟩
  rcases h.2 with h2 | ⟨g, cap, cur, h3, h4, h5, h6⟩
  · exact Or.inl h2
  · exact Or.inr ⟨g, cap, cur, h3, h4, by rw [hx.block (lt_block h5)]; exact h5, h6⟩
end Go.Proofs.YtmjmijjbijlhfaaGreatDoor
namespace Go.Proofs.YtmjmijjbijlhfaaGreatDoor
open Go.RowKit NM
theorem Rt_i64 {m e : Int} (h : Rt m e) : I64 m ∧ I64 e := by
  obtain ⟨b1, b2, b3⟩ := Rt_bd h
  unfold I64; omega
/-- A variable of type Num in block p. -/
def PV (w : World) (p : Nat) (m e : Int) : Prop := w.heap[p]? = some (.cells #[.int .i64 m, .int .i64 e] 41 (0, 0))
theorem PV.c0 {w : World} {p : Nat} {m e : Int} (h : PV w p m e) : w.cell? ⟨p, 0, none⟩ = some (.int .i64 m) := by rw [cell_of_row w p 0 _ _ (0, 0) h]; rfl
theorem PV.c1 {w : World} {p : Nat} {m e : Int} (h : PV w p m e) : w.cell? ⟨p, 1, none⟩ = some (.int .i64 e) := by rw [cell_of_row w p 1 _ _ (0, 0) h]; rfl
theorem PV.fz {w : World} {p : Nat} {m e : Int} (h : PV w p m e) (o : Nat) : w.frozen? ⟨p, o, none⟩ = false := frozen_of_row w p o _ _ h
theorem PV.lt {w : World} {p : Nat} {m e : Int} (h : PV w p m e) : p < w.heap.size := lt_block h
theorem PV.ext {w w' : World} {p : Nat} {m e : Int} (h : PV w p m e) (hx : Ext w w') : PV w' p m e := by unfold PV; rw [hx.block h.lt]; exact h
theorem PV.set {w : World} {p : Nat} {m e : Int} (h : PV w p m e) (m' e' : Int) : PV ((w.setCell ⟨p, 0, none⟩ (.int .i64 m')).setCell ⟨p, 1, none⟩ (.int .i64 e')) p m' e' := by
  have h1 := heap_setCell_same w p 0 _ _ (.int .i64 m') h
  have h2 := heap_setCell_same _ p 1 _ _ (.int .i64 e') h1
  exact h2
theorem PV.new {w : World} {n : Nat} (m e : Int) (hn : n = w.heap.size) : PV (w.alloc (.cells #[.int .i64 m, .int .i64 e] 41)) n m e := by subst hn; exact Array.getElem?_push_size
end Go.Proofs.YtmjmijjbijlhfaaGreatDoor
namespace Go.Proofs.YtmjmijjbijlhfaaGreatDoor
open Go.RowKit NM
set_option maxHeartbeats 1000000 in
theorem sign_any (m ex : Int) (w : World) :
    Calls Tryz.prog 202 #[NV m ex] w fun e w' => e = .returned (.int .i64 m.sign) ∧ Ext w w' := by
  rcases Int.lt_trichotomy m 0 with h | h | h
  · rw [Int.sign_eq_neg_one_of_neg h]
    go_enter Tryz.func202, Tryz.ntmps202
    go_wp2
    go_ret
    exact ⟨rfl, by with_reducible repeat (first | exact Ext.refl _ | apply Ext.drew | apply Ext.alloc | apply Ext.more_)⟩
  · subst h
    go_enter Tryz.func202, Tryz.ntmps202
    go_wp2
    go_ret
    exact ⟨rfl, by with_reducible repeat (first | exact Ext.refl _ | apply Ext.drew | apply Ext.alloc | apply Ext.more_)⟩
  · rw [Int.sign_eq_one_of_pos h]
    have h' : ¬ m < 0 := by omega
    go_enter Tryz.func202, Tryz.ntmps202
    go_wp2
    go_ret
    exact ⟨rfl, by with_reducible repeat (first | exact Ext.refl _ | apply Ext.drew | apply Ext.alloc | apply Ext.more_)⟩
def cmpN (x y : Nat) : Int := if x < y then -1 else if y < x then 1 else 0
theorem cmp_top {x y ka kb : Nat} (hx : x ≠ 0) (hy : y ≠ 0) (h : nd x + ka < nd y + kb) : x * T ka < y * T kb := by
  have h1 := lt_T_nd (x * T ka)
  rw [nd_mul_T ka hx] at h1
  have h2 := T_le_of_nd (Nat.mul_ne_zero hy (by have := T_pos kb; omega) : y * T kb ≠ 0)
  rw [nd_mul_T kb hy] at h2
  have h3 : T (nd x + ka) ≤ T (nd y + kb - 1) := T_mono (by omega)
  omega
theorem cmp_same {x y ka kb : Nat} (hx : nd x ≤ 15) (hy : nd y ≤ 15) (h : nd x + ka = nd y + kb) : cmpN (x * T ka) (y * T kb) = cmpN (x * T (15 - nd x)) (y * T (15 - nd y)) := by
  have e1 : x * T (15 - nd x) * T (nd x + ka) = x * T ka * T 15 := by
    rw [Nat.mul_assoc, ← T_add, Nat.mul_assoc, ← T_add]; congr 2; omega
  have e2 : y * T (15 - nd y) * T (nd x + ka) = y * T kb * T 15 := by
    rw [Nat.mul_assoc, ← T_add, Nat.mul_assoc, ← T_add]; congr 2; omega
  have p1 := T_pos (nd x + ka)
  have p2 := T_pos 15
  have i1 : x * T ka < y * T kb ↔ x * T (15 - nd x) < y * T (15 - nd y) := by
    rw [← Nat.mul_lt_mul_right p2, ← e1, ← e2, Nat.mul_lt_mul_right p1]
  have i2 : y * T kb < x * T ka ↔ y * T (15 - nd y) < x * T (15 - nd x) := by
    rw [← Nat.mul_lt_mul_right p2, ← e1, ← e2, Nat.mul_lt_mul_right p1]
  unfold cmpN
  rw [ite_iff _ _ i1, ite_iff _ _ i2]
theorem count_nat (n : Nat) (w : World) (h : n < 18446744073709551616) (h0 : n ≠ 0) :
    Calls Tryz.prog 160 #[.int .u64 (n : Int)] w fun e w' => e = .returned (.int .i64 ((nd n : Nat) : Int)) ∧ w = w' := by
  have := count_any n w (by omega) (by omega)
  rw [show countI (n : Int) = ((nd n : Nat) : Int) by unfold countI; rw [Int.toNat_natCast, cnt_nd h0]] at this
  exact this
set_option maxHeartbeats 4000000 in
theorem cmpSize_any (ma ea mb eb : Int) (ka kb : Nat) (w : World) (h1 : Rt ma ea) (h2 : Rt mb eb) (h0 : ma = 0 ↔ mb = 0) (hk : ea - (ka : Int) = eb - (kb : Int)) :
    Calls Tryz.prog 203 #[NV ma ea, NV mb eb] w fun e w' => e = .returned (.int .i64 (cmpN (ma.natAbs * T ka) (mb.natAbs * T kb))) ∧ Ext w w' := by
  by_cases hz : ma = 0
  · have hz' := h0.1 hz
    rw [hz, hz', show (0 : Int).natAbs = 0 from rfl, Nat.zero_mul, Nat.zero_mul]
    go_enter Tryz.func203, Tryz.ntmps203
    go_wp2
    go_ret
    exact ⟨rfl, by with_reducible repeat (first | exact Ext.refl _ | apply Ext.drew | apply Ext.alloc | apply Ext.more_)⟩
  · have hz' : mb ≠ 0 := fun h => hz (h0.2 h)
    have e0 : (ma == 0) = false := by simp [hz]
    obtain ⟨b1, b2, b3⟩ := Rt_bd h1
    obtain ⟨b4, b5, b6⟩ := Rt_bd h2
    have hma : I64 ma := by unfold I64; omega
    have hmb : I64 mb := by unfold I64; omega
    have hsa := fun W => size_nat ma W hma
    have hsb := fun W => size_nat mb W hmb
    have hca := fun W => count_nat ma.natAbs W (by omega) (by omega)
    have hcb := fun W => count_nat mb.natAbs W (by omega) (by omega)
    have hT15 : T 15 = 1000000000000000 := by decide
    have n1 : nd ma.natAbs ≤ 15 := (nd_le_iff _ _).2 (by omega)
    have n2 : nd mb.natAbs ≤ 15 := (nd_le_iff _ _).2 (by omega)
    have hpa := fun W => power_any (15 - nd ma.natAbs) W (by omega)
    have hpb := fun W => power_any (15 - nd mb.natAbs) W (by omega)
    have hna : ma.natAbs ≠ 0 := by omega
    have hnb : mb.natAbs ≠ 0 := by omega
    have l1 : ma.natAbs * T (15 - nd ma.natAbs) < 1000000000000000 := by
      have := Nat.mul_lt_mul_of_pos_right (lt_T_nd ma.natAbs) (T_pos (15 - nd ma.natAbs))
      rw [← T_add, show nd ma.natAbs + (15 - nd ma.natAbs) = 15 by omega, hT15] at this; exact this
    have l2 : mb.natAbs * T (15 - nd mb.natAbs) < 1000000000000000 := by
      have := Nat.mul_lt_mul_of_pos_right (lt_T_nd mb.natAbs) (T_pos (15 - nd mb.natAbs))
      rw [← T_add, show nd mb.natAbs + (15 - nd mb.natAbs) = 15 by omega, hT15] at this; exact this
    have ct1 := cmp_top (x := ma.natAbs) (y := mb.natAbs) (ka := ka) (kb := kb) hna hnb
    have ct2 := cmp_top (x := mb.natAbs) (y := ma.natAbs) (ka := kb) (kb := ka) hnb hna
    have ct3 := cmp_same (x := ma.natAbs) (y := mb.natAbs) (ka := ka) (kb := kb) n1 n2
    clear h1 h2 h0 hz hz' hna hnb hT15
    generalize ma.natAbs = Na at *
    generalize mb.natAbs = Nb at *
    have ca : (15 : Int) - (nd Na : Int) = ((15 - nd Na : Nat) : Int) := by omega
    have cb : (15 : Int) - (nd Nb : Int) = ((15 - nd Nb : Nat) : Int) := by omega
    generalize hda : nd Na = da at *
    generalize hdb : nd Nb = db at *
    clear hda hdb
    rcases Int.lt_trichotomy ((da : Int) + ea) ((db : Int) + eb) with ht | ht | ht
    · have hR : cmpN (Na * T ka) (Nb * T kb) = -1 := by unfold cmpN; rw [if_pos (ct1 (by omega))]
      rw [hR]
      have e1 : ((da : Int) + ea == (db : Int) + eb) = false := by simp; omega
      clear ct1 ct2 ct3 hk
      go_enter Tryz.func203, Tryz.ntmps203
      go_wp2
      refine wp_plan (S := Ext _) [(0, 0), (1, 0), (3, 0), (4, 0), (2, 1), (5, 1), (6, 0), (7, 0)] [] (by kernel_rfl) (by kernel_rfl) (by kernel_rfl) (fun _ _ d _ _ h => by cases d <;> exact h) (Ext.drew (Ext.refl _)) ?_
      iterate 4 ((refine wpPl_read (v := ?_) rfl ?_ (fun _ h => ?_) ?_; rotate_left 1; rfl; (obtain ⟨_, _, rfl⟩ := h.more; go_simp; try rfl)); try simp only [Act.put, zqA, zqB, zqC])
      (refine wpPl_eff rfl ?_ (fun K hK => ?_); rfl; go_simp; (go_at_call 140; (with_reducible refine (hsa _).mono ?_); rintro e w' ⟨rfl, rfl⟩); refine hK _ _ ?_ ?_; (repeat (first | (with_reducible (first | exact Ext.refl _ | exact ext_d _ _ _ _ | exact ext_app _ _ _ _ _ | exact ext_app2 _ _ _ _ _ _ | exact ext_app3 _ _ _ _ _ _ _ | exact ext_app4 _ _ _ _ _ _ _ _ | exact ext_app5 _ _ _ _ _ _ _ _ _)) | ((with_reducible refine ext_suffix ⟨_, ?_⟩); (try simp only [Array.append_assoc]); rfl) | (with_reducible (first | apply Ext.drew | apply Ext.alloc | apply Ext.more_)) | apply Ext.drew | apply Ext.alloc | apply Ext.more_)))
      try simp only [Act.put, zqA, zqB, zqC]
      (refine wpPl_eff rfl ?_ (fun K hK => ?_); rfl; go_simp; (go_at_call 140; (with_reducible refine (hsb _).mono ?_); rintro e w' ⟨rfl, rfl⟩); refine hK _ _ ?_ ?_; (repeat (first | (with_reducible (first | exact Ext.refl _ | exact ext_d _ _ _ _ | exact ext_app _ _ _ _ _ | exact ext_app2 _ _ _ _ _ _ | exact ext_app3 _ _ _ _ _ _ _ | exact ext_app4 _ _ _ _ _ _ _ _ | exact ext_app5 _ _ _ _ _ _ _ _ _)) | ((with_reducible refine ext_suffix ⟨_, ?_⟩); (try simp only [Array.append_assoc]); rfl) | (with_reducible (first | apply Ext.drew | apply Ext.alloc | apply Ext.more_)) | apply Ext.drew | apply Ext.alloc | apply Ext.more_)))
      try simp only [Act.put, zqA, zqB, zqC]
      iterate 2 ((refine wpPl_read (v := ?_) rfl ?_ (fun _ h => ?_) ?_; rotate_left 1; rfl; (obtain ⟨_, _, rfl⟩ := h.more; go_simp; try rfl)); try simp only [Act.put, zqA, zqB, zqC])
      refine wpPl_nil ?_
      go_wp2_with (first | (go_at_call_of 160 (Value.int IntKind.u64 (Na : Int)); (with_reducible refine (hca _).mono ?_); rintro e w' ⟨rfl, rfl⟩) | (go_at_call 160; (with_reducible refine (hcb _).mono ?_); rintro e w' ⟨rfl, rfl⟩))
      refine wp_plan (S := Ext _) [(0, 0), (1, 0), (2, 0), (3, 0), (4, 0), (5, 0), (6, 0), (7, 0), (8, 0), (9, 0)] [] (by kernel_rfl) (by kernel_rfl) (by kernel_rfl) (fun _ _ d _ _ h => by cases d <;> exact h) (Ext.drew (Ext.refl _)) ?_
      iterate 10 ((refine wpPl_read (v := ?_) rfl ?_ (fun _ h => ?_) ?_; rotate_left 1; rfl; (obtain ⟨_, _, rfl⟩ := h.more; go_simp; try rfl)); try simp only [Act.put, zqA, zqB, zqC])
      refine wpPl_nil ?_
      go_wp2
      go_ret
      exact ⟨rfl, by with_reducible repeat (first | exact Ext.refl _ | apply Ext.drew | apply Ext.alloc | apply Ext.more_)⟩
    · have hR := ct3 (by omega)
      rw [hR]
      have e1 : ((da : Int) + ea == (db : Int) + eb) = true := by simp; omega
      clear ct1 ct2 ct3 hk hR
      generalize T (15 - da) = Ta at *
      generalize T (15 - db) = Tb at *
      have m1 : (Na : Int) * (Ta : Int) = ((Na * Ta : Nat) : Int) := by rw [Int.natCast_mul]
      have m2 : (Nb : Int) * (Tb : Int) = ((Nb * Tb : Nat) : Int) := by rw [Int.natCast_mul]
      generalize Na * Ta = Pa at *
      generalize Nb * Tb = Pb at *
      have w1 : IntKind.u64.wrap (Pa : Int) = Pa := by rw [IntKind.wrap_u64]; omega
      have w2 : IntKind.u64.wrap (Pb : Int) = Pb := by rw [IntKind.wrap_u64]; omega
      rcases Nat.lt_trichotomy Pa Pb with hc | hc | hc
      · have hR : cmpN Pa Pb = -1 := by unfold cmpN; rw [if_pos hc]
        rw [hR]
        go_enter Tryz.func203, Tryz.ntmps203
        go_wp2
        refine wp_plan (S := Ext _) [(0, 0), (1, 0), (3, 0), (4, 0), (2, 1), (5, 1), (6, 0), (7, 0)] [] (by kernel_rfl) (by kernel_rfl) (by kernel_rfl) (fun _ _ d _ _ h => by cases d <;> exact h) (Ext.drew (Ext.refl _)) ?_
        iterate 4 ((refine wpPl_read (v := ?_) rfl ?_ (fun _ h => ?_) ?_; rotate_left 1; rfl; (obtain ⟨_, _, rfl⟩ := h.more; go_simp; try rfl)); try simp only [Act.put, zqA, zqB, zqC])
        (refine wpPl_eff rfl ?_ (fun K hK => ?_); rfl; go_simp; (go_at_call 140; (with_reducible refine (hsa _).mono ?_); rintro e w' ⟨rfl, rfl⟩); refine hK _ _ ?_ ?_; (repeat (first | (with_reducible (first | exact Ext.refl _ | exact ext_d _ _ _ _ | exact ext_app _ _ _ _ _ | exact ext_app2 _ _ _ _ _ _ | exact ext_app3 _ _ _ _ _ _ _ | exact ext_app4 _ _ _ _ _ _ _ _ | exact ext_app5 _ _ _ _ _ _ _ _ _)) | ((with_reducible refine ext_suffix ⟨_, ?_⟩); (try simp only [Array.append_assoc]); rfl) | (with_reducible (first | apply Ext.drew | apply Ext.alloc | apply Ext.more_)) | apply Ext.drew | apply Ext.alloc | apply Ext.more_)))
        try simp only [Act.put, zqA, zqB, zqC]
        (refine wpPl_eff rfl ?_ (fun K hK => ?_); rfl; go_simp; (go_at_call 140; (with_reducible refine (hsb _).mono ?_); rintro e w' ⟨rfl, rfl⟩); refine hK _ _ ?_ ?_; (repeat (first | (with_reducible (first | exact Ext.refl _ | exact ext_d _ _ _ _ | exact ext_app _ _ _ _ _ | exact ext_app2 _ _ _ _ _ _ | exact ext_app3 _ _ _ _ _ _ _ | exact ext_app4 _ _ _ _ _ _ _ _ | exact ext_app5 _ _ _ _ _ _ _ _ _)) | ((with_reducible refine ext_suffix ⟨_, ?_⟩); (try simp only [Array.append_assoc]); rfl) | (with_reducible (first | apply Ext.drew | apply Ext.alloc | apply Ext.more_)) | apply Ext.drew | apply Ext.alloc | apply Ext.more_)))
        try simp only [Act.put, zqA, zqB, zqC]
        iterate 2 ((refine wpPl_read (v := ?_) rfl ?_ (fun _ h => ?_) ?_; rotate_left 1; rfl; (obtain ⟨_, _, rfl⟩ := h.more; go_simp; try rfl)); try simp only [Act.put, zqA, zqB, zqC])
        refine wpPl_nil ?_
        go_wp2_with (first | (go_at_call_of 160 (Value.int IntKind.u64 (Na : Int)); (with_reducible refine (hca _).mono ?_); rintro e w' ⟨rfl, rfl⟩) | (go_at_call 160; (with_reducible refine (hcb _).mono ?_); rintro e w' ⟨rfl, rfl⟩))
        refine wp_plan (S := Ext _) [(0, 0), (1, 0), (2, 0), (3, 0), (4, 0), (5, 0), (6, 0), (7, 0), (8, 0), (9, 0)] [] (by kernel_rfl) (by kernel_rfl) (by kernel_rfl) (fun _ _ d _ _ h => by cases d <;> exact h) (Ext.drew (Ext.refl _)) ?_
        iterate 10 ((refine wpPl_read (v := ?_) rfl ?_ (fun _ h => ?_) ?_; rotate_left 1; rfl; (obtain ⟨_, _, rfl⟩ := h.more; go_simp; try rfl)); try simp only [Act.put, zqA, zqB, zqC])
        refine wpPl_nil ?_
        go_wp2_with (first | (go_at_call 173; (with_reducible refine (hpa _).mono ?_); rintro e w' ⟨rfl, rfl⟩) | (go_at_call 173; (with_reducible refine (hpb _).mono ?_); rintro e w' ⟨rfl, rfl⟩))
        go_ret
        exact ⟨rfl, by with_reducible repeat (first | exact Ext.refl _ | apply Ext.drew | apply Ext.alloc | apply Ext.more_)⟩
      · have hR : cmpN Pa Pb = 0 := by unfold cmpN; rw [if_neg (by omega), if_neg (by omega)]
        rw [hR]
        go_enter Tryz.func203, Tryz.ntmps203
        go_wp2
        refine wp_plan (S := Ext _) [(0, 0), (1, 0), (3, 0), (4, 0), (2, 1), (5, 1), (6, 0), (7, 0)] [] (by kernel_rfl) (by kernel_rfl) (by kernel_rfl) (fun _ _ d _ _ h => by cases d <;> exact h) (Ext.drew (Ext.refl _)) ?_
        iterate 4 ((refine wpPl_read (v := ?_) rfl ?_ (fun _ h => ?_) ?_; rotate_left 1; rfl; (obtain ⟨_, _, rfl⟩ := h.more; go_simp; try rfl)); try simp only [Act.put, zqA, zqB, zqC])
        (refine wpPl_eff rfl ?_ (fun K hK => ?_); rfl; go_simp; (go_at_call 140; (with_reducible refine (hsa _).mono ?_); rintro e w' ⟨rfl, rfl⟩); refine hK _ _ ?_ ?_; (repeat (first | (with_reducible (first | exact Ext.refl _ | exact ext_d _ _ _ _ | exact ext_app _ _ _ _ _ | exact ext_app2 _ _ _ _ _ _ | exact ext_app3 _ _ _ _ _ _ _ | exact ext_app4 _ _ _ _ _ _ _ _ | exact ext_app5 _ _ _ _ _ _ _ _ _)) | ((with_reducible refine ext_suffix ⟨_, ?_⟩); (try simp only [Array.append_assoc]); rfl) | (with_reducible (first | apply Ext.drew | apply Ext.alloc | apply Ext.more_)) | apply Ext.drew | apply Ext.alloc | apply Ext.more_)))
        try simp only [Act.put, zqA, zqB, zqC]
        (refine wpPl_eff rfl ?_ (fun K hK => ?_); rfl; go_simp; (go_at_call 140; (with_reducible refine (hsb _).mono ?_); rintro e w' ⟨rfl, rfl⟩); refine hK _ _ ?_ ?_; (repeat (first | (with_reducible (first | exact Ext.refl _ | exact ext_d _ _ _ _ | exact ext_app _ _ _ _ _ | exact ext_app2 _ _ _ _ _ _ | exact ext_app3 _ _ _ _ _ _ _ | exact ext_app4 _ _ _ _ _ _ _ _ | exact ext_app5 _ _ _ _ _ _ _ _ _)) | ((with_reducible refine ext_suffix ⟨_, ?_⟩); (try simp only [Array.append_assoc]); rfl) | (with_reducible (first | apply Ext.drew | apply Ext.alloc | apply Ext.more_)) | apply Ext.drew | apply Ext.alloc | apply Ext.more_)))
        try simp only [Act.put, zqA, zqB, zqC]
        iterate 2 ((refine wpPl_read (v := ?_) rfl ?_ (fun _ h => ?_) ?_; rotate_left 1; rfl; (obtain ⟨_, _, rfl⟩ := h.more; go_simp; try rfl)); try simp only [Act.put, zqA, zqB, zqC])
        refine wpPl_nil ?_
        go_wp2_with (first | (go_at_call_of 160 (Value.int IntKind.u64 (Na : Int)); (with_reducible refine (hca _).mono ?_); rintro e w' ⟨rfl, rfl⟩) | (go_at_call 160; (with_reducible refine (hcb _).mono ?_); rintro e w' ⟨rfl, rfl⟩))
        refine wp_plan (S := Ext _) [(0, 0), (1, 0), (2, 0), (3, 0), (4, 0), (5, 0), (6, 0), (7, 0), (8, 0), (9, 0)] [] (by kernel_rfl) (by kernel_rfl) (by kernel_rfl) (fun _ _ d _ _ h => by cases d <;> exact h) (Ext.drew (Ext.refl _)) ?_
        iterate 10 ((refine wpPl_read (v := ?_) rfl ?_ (fun _ h => ?_) ?_; rotate_left 1; rfl; (obtain ⟨_, _, rfl⟩ := h.more; go_simp; try rfl)); try simp only [Act.put, zqA, zqB, zqC])
        refine wpPl_nil ?_
        go_wp2_with (first | (go_at_call 173; (with_reducible refine (hpa _).mono ?_); rintro e w' ⟨rfl, rfl⟩) | (go_at_call 173; (with_reducible refine (hpb _).mono ?_); rintro e w' ⟨rfl, rfl⟩))
        go_ret
        exact ⟨rfl, by with_reducible repeat (first | exact Ext.refl _ | apply Ext.drew | apply Ext.alloc | apply Ext.more_)⟩
      · have hR : cmpN Pa Pb = 1 := by unfold cmpN; rw [if_neg (by omega), if_pos (by omega)]
        rw [hR]
        have hc' : ¬ Pa < Pb := by omega
        go_enter Tryz.func203, Tryz.ntmps203
        go_wp2
        refine wp_plan (S := Ext _) [(0, 0), (1, 0), (3, 0), (4, 0), (2, 1), (5, 1), (6, 0), (7, 0)] [] (by kernel_rfl) (by kernel_rfl) (by kernel_rfl) (fun _ _ d _ _ h => by cases d <;> exact h) (Ext.drew (Ext.refl _)) ?_
        iterate 4 ((refine wpPl_read (v := ?_) rfl ?_ (fun _ h => ?_) ?_; rotate_left 1; rfl; (obtain ⟨_, _, rfl⟩ := h.more; go_simp; try rfl)); try simp only [Act.put, zqA, zqB, zqC])
        (refine wpPl_eff rfl ?_ (fun K hK => ?_); rfl; go_simp; (go_at_call 140; (with_reducible refine (hsa _).mono ?_); rintro e w' ⟨rfl, rfl⟩); refine hK _ _ ?_ ?_; (repeat (first | (with_reducible (first | exact Ext.refl _ | exact ext_d _ _ _ _ | exact ext_app _ _ _ _ _ | exact ext_app2 _ _ _ _ _ _ | exact ext_app3 _ _ _ _ _ _ _ | exact ext_app4 _ _ _ _ _ _ _ _ | exact ext_app5 _ _ _ _ _ _ _ _ _)) | ((with_reducible refine ext_suffix ⟨_, ?_⟩); (try simp only [Array.append_assoc]); rfl) | (with_reducible (first | apply Ext.drew | apply Ext.alloc | apply Ext.more_)) | apply Ext.drew | apply Ext.alloc | apply Ext.more_)))
        try simp only [Act.put, zqA, zqB, zqC]
        (refine wpPl_eff rfl ?_ (fun K hK => ?_); rfl; go_simp; (go_at_call 140; (with_reducible refine (hsb _).mono ?_); rintro e w' ⟨rfl, rfl⟩); refine hK _ _ ?_ ?_; (repeat (first | (with_reducible (first | exact Ext.refl _ | exact ext_d _ _ _ _ | exact ext_app _ _ _ _ _ | exact ext_app2 _ _ _ _ _ _ | exact ext_app3 _ _ _ _ _ _ _ | exact ext_app4 _ _ _ _ _ _ _ _ | exact ext_app5 _ _ _ _ _ _ _ _ _)) | ((with_reducible refine ext_suffix ⟨_, ?_⟩); (try simp only [Array.append_assoc]); rfl) | (with_reducible (first | apply Ext.drew | apply Ext.alloc | apply Ext.more_)) | apply Ext.drew | apply Ext.alloc | apply Ext.more_)))
        try simp only [Act.put, zqA, zqB, zqC]
        iterate 2 ((refine wpPl_read (v := ?_) rfl ?_ (fun _ h => ?_) ?_; rotate_left 1; rfl; (obtain ⟨_, _, rfl⟩ := h.more; go_simp; try rfl)); try simp only [Act.put, zqA, zqB, zqC])
        refine wpPl_nil ?_
        go_wp2_with (first | (go_at_call_of 160 (Value.int IntKind.u64 (Na : Int)); (with_reducible refine (hca _).mono ?_); rintro e w' ⟨rfl, rfl⟩) | (go_at_call 160; (with_reducible refine (hcb _).mono ?_); rintro e w' ⟨rfl, rfl⟩))
        refine wp_plan (S := Ext _) [(0, 0), (1, 0), (2, 0), (3, 0), (4, 0), (5, 0), (6, 0), (7, 0), (8, 0), (9, 0)] [] (by kernel_rfl) (by kernel_rfl) (by kernel_rfl) (fun _ _ d _ _ h => by cases d <;> exact h) (Ext.drew (Ext.refl _)) ?_
        iterate 10 ((refine wpPl_read (v := ?_) rfl ?_ (fun _ h => ?_) ?_; rotate_left 1; rfl; (obtain ⟨_, _, rfl⟩ := h.more; go_simp; try rfl)); try simp only [Act.put, zqA, zqB, zqC])
        refine wpPl_nil ?_
        go_wp2_with (first | (go_at_call 173; (with_reducible refine (hpa _).mono ?_); rintro e w' ⟨rfl, rfl⟩) | (go_at_call 173; (with_reducible refine (hpb _).mono ?_); rintro e w' ⟨rfl, rfl⟩))
        go_ret
        exact ⟨rfl, by with_reducible repeat (first | exact Ext.refl _ | apply Ext.drew | apply Ext.alloc | apply Ext.more_)⟩
    · have hR : cmpN (Na * T ka) (Nb * T kb) = 1 := by
        have := ct2 (by omega)
        unfold cmpN; rw [if_neg (by omega), if_pos this]
      rw [hR]
      have e1 : ((da : Int) + ea == (db : Int) + eb) = false := by simp; omega
      have e2 : ¬ ((da : Int) + ea < (db : Int) + eb) := by omega
      clear ct1 ct2 ct3 hk
      go_enter Tryz.func203, Tryz.ntmps203
      go_wp2
      refine wp_plan (S := Ext _) [(0, 0), (1, 0), (3, 0), (4, 0), (2, 1), (5, 1), (6, 0), (7, 0)] [] (by kernel_rfl) (by kernel_rfl) (by kernel_rfl) (fun _ _ d _ _ h => by cases d <;> exact h) (Ext.drew (Ext.refl _)) ?_
      iterate 4 ((refine wpPl_read (v := ?_) rfl ?_ (fun _ h => ?_) ?_; rotate_left 1; rfl; (obtain ⟨_, _, rfl⟩ := h.more; go_simp; try rfl)); try simp only [Act.put, zqA, zqB, zqC])
      (refine wpPl_eff rfl ?_ (fun K hK => ?_); rfl; go_simp; (go_at_call 140; (with_reducible refine (hsa _).mono ?_); rintro e w' ⟨rfl, rfl⟩); refine hK _ _ ?_ ?_; (repeat (first | (with_reducible (first | exact Ext.refl _ | exact ext_d _ _ _ _ | exact ext_app _ _ _ _ _ | exact ext_app2 _ _ _ _ _ _ | exact ext_app3 _ _ _ _ _ _ _ | exact ext_app4 _ _ _ _ _ _ _ _ | exact ext_app5 _ _ _ _ _ _ _ _ _)) | ((with_reducible refine ext_suffix ⟨_, ?_⟩); (try simp only [Array.append_assoc]); rfl) | (with_reducible (first | apply Ext.drew | apply Ext.alloc | apply Ext.more_)) | apply Ext.drew | apply Ext.alloc | apply Ext.more_)))
      try simp only [Act.put, zqA, zqB, zqC]
      (refine wpPl_eff rfl ?_ (fun K hK => ?_); rfl; go_simp; (go_at_call 140; (with_reducible refine (hsb _).mono ?_); rintro e w' ⟨rfl, rfl⟩); refine hK _ _ ?_ ?_; (repeat (first | (with_reducible (first | exact Ext.refl _ | exact ext_d _ _ _ _ | exact ext_app _ _ _ _ _ | exact ext_app2 _ _ _ _ _ _ | exact ext_app3 _ _ _ _ _ _ _ | exact ext_app4 _ _ _ _ _ _ _ _ | exact ext_app5 _ _ _ _ _ _ _ _ _)) | ((with_reducible refine ext_suffix ⟨_, ?_⟩); (try simp only [Array.append_assoc]); rfl) | (with_reducible (first | apply Ext.drew | apply Ext.alloc | apply Ext.more_)) | apply Ext.drew | apply Ext.alloc | apply Ext.more_)))
      try simp only [Act.put, zqA, zqB, zqC]
      iterate 2 ((refine wpPl_read (v := ?_) rfl ?_ (fun _ h => ?_) ?_; rotate_left 1; rfl; (obtain ⟨_, _, rfl⟩ := h.more; go_simp; try rfl)); try simp only [Act.put, zqA, zqB, zqC])
      refine wpPl_nil ?_
      go_wp2_with (first | (go_at_call_of 160 (Value.int IntKind.u64 (Na : Int)); (with_reducible refine (hca _).mono ?_); rintro e w' ⟨rfl, rfl⟩) | (go_at_call 160; (with_reducible refine (hcb _).mono ?_); rintro e w' ⟨rfl, rfl⟩))
      refine wp_plan (S := Ext _) [(0, 0), (1, 0), (2, 0), (3, 0), (4, 0), (5, 0), (6, 0), (7, 0), (8, 0), (9, 0)] [] (by kernel_rfl) (by kernel_rfl) (by kernel_rfl) (fun _ _ d _ _ h => by cases d <;> exact h) (Ext.drew (Ext.refl _)) ?_
      iterate 10 ((refine wpPl_read (v := ?_) rfl ?_ (fun _ h => ?_) ?_; rotate_left 1; rfl; (obtain ⟨_, _, rfl⟩ := h.more; go_simp; try rfl)); try simp only [Act.put, zqA, zqB, zqC])
      refine wpPl_nil ?_
      go_wp2
      go_ret
      exact ⟨rfl, by with_reducible repeat (first | exact Ext.refl _ | apply Ext.drew | apply Ext.alloc | apply Ext.more_)⟩
theorem cmp_sign (A B : Int) : (A - B).sign = if A.sign = B.sign then A.sign * cmpN A.natAbs B.natAbs else if A.sign < B.sign then -1 else 1 := by
  have hp : ∀ x : Int, 0 < x → x.sign = 1 := fun x h => Int.sign_eq_one_of_pos h
  have hn : ∀ x : Int, x < 0 → x.sign = -1 := fun x h => Int.sign_eq_neg_one_of_neg h
  have hz : (0 : Int).sign = 0 := rfl
  rcases Int.lt_trichotomy A 0 with a | a | a <;> rcases Int.lt_trichotomy B 0 with b | b | b
  · rw [hn A a, hn B b, if_pos rfl]
    unfold cmpN
    rcases Int.lt_trichotomy A B with c | c | c
    · rw [hn _ (by omega), if_neg (by omega), if_pos (by omega)]; rfl
    · rw [c, Int.sub_self, if_neg (by omega), if_neg (by omega)]; rfl
    · rw [hp _ (by omega), if_pos (by omega)]; rfl
  · rw [hn A a, b, hz, hn _ (by omega)]; rfl
  · rw [hn A a, hp B b, hn _ (by omega)]; rfl
  · rw [hn B b, a, hz, hp _ (by omega)]; rfl
  · rw [a, b]; rfl
  · rw [hp B b, a, hz, hn _ (by omega)]; rfl
  · rw [hp A a, hn B b, hp _ (by omega)]; rfl
  · rw [hp A a, b, hz, hp _ (by omega)]; rfl
  · rw [hp A a, hp B b, if_pos rfl]
    unfold cmpN
    rcases Int.lt_trichotomy A B with c | c | c
    · rw [hn _ (by omega), if_pos (by omega)]; rfl
    · rw [c, Int.sub_self, if_neg (by omega), if_neg (by omega)]; rfl
    · rw [hp _ (by omega), if_neg (by omega), if_pos (by omega)]; rfl
theorem sign_T (m : Int) (k : Nat) : (m * (T k : Nat)).sign = m.sign := by
  have h : ((T k : Nat) : Int).sign = 1 := Int.sign_eq_one_of_pos (by have := T_pos k; omega)
  rw [Int.sign_mul, h, Int.mul_one]
theorem cmp_sum (ma ea mb eb : Int) : (sumI ma ea (-mb) eb).sign = if ma.sign = mb.sign then ma.sign * cmpN (ma.natAbs * T (ea - min ea eb).toNat) (mb.natAbs * T (eb - min ea eb).toNat) else if ma.sign < mb.sign then -1 else 1 := by
  unfold sumI
  rw [Int.neg_mul, ← Int.sub_eq_add_neg, cmp_sign, sign_T, sign_T, Int.natAbs_mul, Int.natAbs_mul, Int.natAbs_natCast, Int.natAbs_natCast]
theorem sign_bd (m : Int) : -1 ≤ m.sign ∧ m.sign ≤ 1 := by
  rcases Int.lt_trichotomy m 0 with a | a | a
  · rw [Int.sign_eq_neg_one_of_neg a]; omega
  · rw [a]; decide
  · rw [Int.sign_eq_one_of_pos a]; omega
theorem cmpN_bd (x y : Nat) : -1 ≤ cmpN x y ∧ cmpN x y ≤ 1 := by unfold cmpN; split <;> (try split) <;> omega
set_option maxHeartbeats 4000000 in
theorem cmp_yes (ma ea mb eb : Int) (w : World) (h1 : Rt ma ea) (h2 : Rt mb eb) :
    Calls Tryz.prog 179 #[NV ma ea, NV mb eb] w fun e w' => e = .returned (.int .i64 (sumI ma ea (-mb) eb).sign) ∧ Ext w w' := by
  obtain ⟨b1, b2, b3⟩ := Rt_bd h1
  obtain ⟨b4, b5, b6⟩ := Rt_bd h2
  have hma : I64 ma := by unfold I64; omega
  have hmb : I64 mb := by unfold I64; omega
  have r1 := rtB_yes h1
  have r2 := rtB_yes h2
  have hsa := fun W => sign_any ma ea W
  have hsb := fun W => sign_any mb eb W
  have s1 := sign_bd ma
  have s2 := sign_bd mb
  rw [cmp_sum]
  by_cases hs : ma.sign = mb.sign
  · have hcs := fun W => cmpSize_any ma ea mb eb (ea - min ea eb).toNat (eb - min ea eb).toNat W h1 h2 (by rw [← Int.sign_eq_zero_iff_zero, ← Int.sign_eq_zero_iff_zero (a := mb), hs]) (by omega)
    rw [if_pos hs]
    have s3 := cmpN_bd (ma.natAbs * T (ea - min ea eb).toNat) (mb.natAbs * T (eb - min ea eb).toNat)
    generalize cmpN (ma.natAbs * T (ea - min ea eb).toNat) (mb.natAbs * T (eb - min ea eb).toNat) = C at *
    rw [← hs] at hsb
    clear s2 hs h1 h2
    generalize ma.sign = sa at *
    have w1 : IntKind.i64.wrap (sa * C) = sa * C := by
      have h6 : sa = -1 ∨ sa = 0 ∨ sa = 1 := by omega
      rcases h6 with h | h | h <;> rw [h] <;> exact i64w (by omega) (by omega)
    have w2 : wrap64 (sa * C) = sa * C := by
      have h6 : sa = -1 ∨ sa = 0 ∨ sa = 1 := by omega
      rcases h6 with h | h | h <;> rw [h] <;> exact IntWalk.wrap64_in _ (by omega)
    go_enter Tryz.func179, Tryz.ntmps179
    go_wp2_with (go_at_call 122; (with_reducible refine (right_rt _ _ _ (by assumption)).mono ?_); rintro e w' ⟨rfl, hbr⟩; obtain ⟨osr, dr, rfl⟩ := hbr.more)
    refine wp_plan (S := Ext _) [(0, 0), (2, 0), (1, 1), (3, 1), (4, 0), (5, 0)] [] (by kernel_rfl) (by kernel_rfl) (by kernel_rfl) (fun _ _ d _ _ h => by cases d <;> exact h) (Ext.drew (Ext.refl _)) ?_
    iterate 2 ((refine wpPl_read (v := ?_) rfl ?_ (fun _ h => ?_) ?_; rotate_left 1; rfl; (obtain ⟨_, _, rfl⟩ := h.more; go_simp; try rfl)); try simp only [Act.put, zqA, zqB, zqC])
    (refine wpPl_eff rfl ?_ (fun K hK => ?_); rfl; go_simp; (go_at_call 202; (with_reducible refine (hsa _).mono ?_); rintro e w' ⟨rfl, hx⟩; obtain ⟨os1, d1, rfl⟩ := hx.more); refine hK _ _ ?_ ?_; (repeat (first | (with_reducible (first | exact Ext.refl _ | exact ext_d _ _ _ _ | exact ext_app _ _ _ _ _ | exact ext_app2 _ _ _ _ _ _ | exact ext_app3 _ _ _ _ _ _ _ | exact ext_app4 _ _ _ _ _ _ _ _ | exact ext_app5 _ _ _ _ _ _ _ _ _)) | ((with_reducible refine ext_suffix ⟨_, ?_⟩); (try simp only [Array.append_assoc]); rfl) | (with_reducible (first | apply Ext.drew | apply Ext.alloc | apply Ext.more_)) | apply Ext.drew | apply Ext.alloc | apply Ext.more_)))
    try simp only [Act.put, zqA, zqB, zqC]
    (refine wpPl_eff rfl ?_ (fun K hK => ?_); rfl; go_simp; (go_at_call 202; (with_reducible refine (hsb _).mono ?_); rintro e w' ⟨rfl, hx⟩; obtain ⟨os2, d2, rfl⟩ := hx.more); refine hK _ _ ?_ ?_; (repeat (first | (with_reducible (first | exact Ext.refl _ | exact ext_d _ _ _ _ | exact ext_app _ _ _ _ _ | exact ext_app2 _ _ _ _ _ _ | exact ext_app3 _ _ _ _ _ _ _ | exact ext_app4 _ _ _ _ _ _ _ _ | exact ext_app5 _ _ _ _ _ _ _ _ _)) | ((with_reducible refine ext_suffix ⟨_, ?_⟩); (try simp only [Array.append_assoc]); rfl) | (with_reducible (first | apply Ext.drew | apply Ext.alloc | apply Ext.more_)) | apply Ext.drew | apply Ext.alloc | apply Ext.more_)))
    try simp only [Act.put, zqA, zqB, zqC]
    iterate 2 ((refine wpPl_read (v := ?_) rfl ?_ (fun _ h => ?_) ?_; rotate_left 1; rfl; (obtain ⟨_, _, rfl⟩ := h.more; go_simp; try rfl)); try simp only [Act.put, zqA, zqB, zqC])
    refine wpPl_nil ?_
    go_wp2
    refine wp_plan (S := Ext _) [(0, 0), (2, 0), (3, 0), (1, 1), (4, 1), (5, 0), (6, 0)] [] (by kernel_rfl) (by kernel_rfl) (by kernel_rfl) (fun _ _ d _ _ h => by cases d <;> exact h) (Ext.drew (Ext.refl _)) ?_
    iterate 3 ((refine wpPl_read (v := ?_) rfl ?_ (fun _ h => ?_) ?_; rotate_left 1; rfl; (obtain ⟨_, _, rfl⟩ := h.more; go_simp; try rfl)); try simp only [Act.put, zqA, zqB, zqC])
    (refine wpPl_eff rfl ?_ (fun K hK => ?_); rfl; go_simp; (go_at_call 202; (with_reducible refine (hsa _).mono ?_); rintro e w' ⟨rfl, hx⟩; obtain ⟨os1, d1, rfl⟩ := hx.more); refine hK _ _ ?_ ?_; (repeat (first | (with_reducible (first | exact Ext.refl _ | exact ext_d _ _ _ _ | exact ext_app _ _ _ _ _ | exact ext_app2 _ _ _ _ _ _ | exact ext_app3 _ _ _ _ _ _ _ | exact ext_app4 _ _ _ _ _ _ _ _ | exact ext_app5 _ _ _ _ _ _ _ _ _)) | ((with_reducible refine ext_suffix ⟨_, ?_⟩); (try simp only [Array.append_assoc]); rfl) | (with_reducible (first | apply Ext.drew | apply Ext.alloc | apply Ext.more_)) | apply Ext.drew | apply Ext.alloc | apply Ext.more_)))
    try simp only [Act.put, zqA, zqB, zqC]
    (refine wpPl_eff rfl ?_ (fun K hK => ?_); rfl; go_simp; (go_at_call 203; (with_reducible refine (hcs _).mono ?_); rintro e w' ⟨rfl, hx⟩; obtain ⟨os2, d2, rfl⟩ := hx.more); refine hK _ _ ?_ ?_; (repeat (first | (with_reducible (first | exact Ext.refl _ | exact ext_d _ _ _ _ | exact ext_app _ _ _ _ _ | exact ext_app2 _ _ _ _ _ _ | exact ext_app3 _ _ _ _ _ _ _ | exact ext_app4 _ _ _ _ _ _ _ _ | exact ext_app5 _ _ _ _ _ _ _ _ _)) | ((with_reducible refine ext_suffix ⟨_, ?_⟩); (try simp only [Array.append_assoc]); rfl) | (with_reducible (first | apply Ext.drew | apply Ext.alloc | apply Ext.more_)) | apply Ext.drew | apply Ext.alloc | apply Ext.more_)))
    try simp only [Act.put, zqA, zqB, zqC]
    iterate 2 ((refine wpPl_read (v := ?_) rfl ?_ (fun _ h => ?_) ?_; rotate_left 1; rfl; (obtain ⟨_, _, rfl⟩ := h.more; go_simp; try rfl)); try simp only [Act.put, zqA, zqB, zqC])
    refine wpPl_nil ?_
    go_wp2
    go_ret
    exact ⟨rfl, by with_reducible repeat (first | exact Ext.refl _ | apply Ext.drew | apply Ext.alloc | apply Ext.more_)⟩
  · rw [if_neg hs]
    have e1 : (ma.sign == mb.sign) = false := by simp [hs]
    generalize ma.sign = sa at *
    generalize mb.sign = sb at *
    by_cases hl : sa < sb
    · rw [if_pos hl]
      clear h1 h2 hs
      go_enter Tryz.func179, Tryz.ntmps179
      go_wp2_with (go_at_call 122; (with_reducible refine (right_rt _ _ _ (by assumption)).mono ?_); rintro e w' ⟨rfl, hbr⟩; obtain ⟨osr, dr, rfl⟩ := hbr.more)
      refine wp_plan (S := Ext _) [(0, 0), (2, 0), (1, 1), (3, 1), (4, 0), (5, 0)] [] (by kernel_rfl) (by kernel_rfl) (by kernel_rfl) (fun _ _ d _ _ h => by cases d <;> exact h) (Ext.drew (Ext.refl _)) ?_
      iterate 2 ((refine wpPl_read (v := ?_) rfl ?_ (fun _ h => ?_) ?_; rotate_left 1; rfl; (obtain ⟨_, _, rfl⟩ := h.more; go_simp; try rfl)); try simp only [Act.put, zqA, zqB, zqC])
      (refine wpPl_eff rfl ?_ (fun K hK => ?_); rfl; go_simp; (go_at_call 202; (with_reducible refine (hsa _).mono ?_); rintro e w' ⟨rfl, hx⟩; obtain ⟨os1, d1, rfl⟩ := hx.more); refine hK _ _ ?_ ?_; (repeat (first | (with_reducible (first | exact Ext.refl _ | exact ext_d _ _ _ _ | exact ext_app _ _ _ _ _ | exact ext_app2 _ _ _ _ _ _ | exact ext_app3 _ _ _ _ _ _ _ | exact ext_app4 _ _ _ _ _ _ _ _ | exact ext_app5 _ _ _ _ _ _ _ _ _)) | ((with_reducible refine ext_suffix ⟨_, ?_⟩); (try simp only [Array.append_assoc]); rfl) | (with_reducible (first | apply Ext.drew | apply Ext.alloc | apply Ext.more_)) | apply Ext.drew | apply Ext.alloc | apply Ext.more_)))
      try simp only [Act.put, zqA, zqB, zqC]
      (refine wpPl_eff rfl ?_ (fun K hK => ?_); rfl; go_simp; (go_at_call 202; (with_reducible refine (hsb _).mono ?_); rintro e w' ⟨rfl, hx⟩; obtain ⟨os2, d2, rfl⟩ := hx.more); refine hK _ _ ?_ ?_; (repeat (first | (with_reducible (first | exact Ext.refl _ | exact ext_d _ _ _ _ | exact ext_app _ _ _ _ _ | exact ext_app2 _ _ _ _ _ _ | exact ext_app3 _ _ _ _ _ _ _ | exact ext_app4 _ _ _ _ _ _ _ _ | exact ext_app5 _ _ _ _ _ _ _ _ _)) | ((with_reducible refine ext_suffix ⟨_, ?_⟩); (try simp only [Array.append_assoc]); rfl) | (with_reducible (first | apply Ext.drew | apply Ext.alloc | apply Ext.more_)) | apply Ext.drew | apply Ext.alloc | apply Ext.more_)))
      try simp only [Act.put, zqA, zqB, zqC]
      iterate 2 ((refine wpPl_read (v := ?_) rfl ?_ (fun _ h => ?_) ?_; rotate_left 1; rfl; (obtain ⟨_, _, rfl⟩ := h.more; go_simp; try rfl)); try simp only [Act.put, zqA, zqB, zqC])
      refine wpPl_nil ?_
      go_wp2
      go_ret
      exact ⟨rfl, by with_reducible repeat (first | exact Ext.refl _ | apply Ext.drew | apply Ext.alloc | apply Ext.more_)⟩
    · rw [if_neg hl]
      clear h1 h2 hs
      go_enter Tryz.func179, Tryz.ntmps179
      go_wp2_with (go_at_call 122; (with_reducible refine (right_rt _ _ _ (by assumption)).mono ?_); rintro e w' ⟨rfl, hbr⟩; obtain ⟨osr, dr, rfl⟩ := hbr.more)
      refine wp_plan (S := Ext _) [(0, 0), (2, 0), (1, 1), (3, 1), (4, 0), (5, 0)] [] (by kernel_rfl) (by kernel_rfl) (by kernel_rfl) (fun _ _ d _ _ h => by cases d <;> exact h) (Ext.drew (Ext.refl _)) ?_
      iterate 2 ((refine wpPl_read (v := ?_) rfl ?_ (fun _ h => ?_) ?_; rotate_left 1; rfl; (obtain ⟨_, _, rfl⟩ := h.more; go_simp; try rfl)); try simp only [Act.put, zqA, zqB, zqC])
      (refine wpPl_eff rfl ?_ (fun K hK => ?_); rfl; go_simp; (go_at_call 202; (with_reducible refine (hsa _).mono ?_); rintro e w' ⟨rfl, hx⟩; obtain ⟨os1, d1, rfl⟩ := hx.more); refine hK _ _ ?_ ?_; (repeat (first | (with_reducible (first | exact Ext.refl _ | exact ext_d _ _ _ _ | exact ext_app _ _ _ _ _ | exact ext_app2 _ _ _ _ _ _ | exact ext_app3 _ _ _ _ _ _ _ | exact ext_app4 _ _ _ _ _ _ _ _ | exact ext_app5 _ _ _ _ _ _ _ _ _)) | ((with_reducible refine ext_suffix ⟨_, ?_⟩); (try simp only [Array.append_assoc]); rfl) | (with_reducible (first | apply Ext.drew | apply Ext.alloc | apply Ext.more_)) | apply Ext.drew | apply Ext.alloc | apply Ext.more_)))
      try simp only [Act.put, zqA, zqB, zqC]
      (refine wpPl_eff rfl ?_ (fun K hK => ?_); rfl; go_simp; (go_at_call 202; (with_reducible refine (hsb _).mono ?_); rintro e w' ⟨rfl, hx⟩; obtain ⟨os2, d2, rfl⟩ := hx.more); refine hK _ _ ?_ ?_; (repeat (first | (with_reducible (first | exact Ext.refl _ | exact ext_d _ _ _ _ | exact ext_app _ _ _ _ _ | exact ext_app2 _ _ _ _ _ _ | exact ext_app3 _ _ _ _ _ _ _ | exact ext_app4 _ _ _ _ _ _ _ _ | exact ext_app5 _ _ _ _ _ _ _ _ _)) | ((with_reducible refine ext_suffix ⟨_, ?_⟩); (try simp only [Array.append_assoc]); rfl) | (with_reducible (first | apply Ext.drew | apply Ext.alloc | apply Ext.more_)) | apply Ext.drew | apply Ext.alloc | apply Ext.more_)))
      try simp only [Act.put, zqA, zqB, zqC]
      iterate 2 ((refine wpPl_read (v := ?_) rfl ?_ (fun _ h => ?_) ?_; rotate_left 1; rfl; (obtain ⟨_, _, rfl⟩ := h.more; go_simp; try rfl)); try simp only [Act.put, zqA, zqB, zqC])
      refine wpPl_nil ?_
      go_wp2
      go_ret
      exact ⟨rfl, by with_reducible repeat (first | exact Ext.refl _ | apply Ext.drew | apply Ext.alloc | apply Ext.more_)⟩
set_option maxHeartbeats 2000000 in
theorem cmp_any (ma ea mb eb : Int) (w : World) (hma : I64 ma) (hmb : I64 mb) :
    Calls Tryz.prog 179 #[NV ma ea, NV mb eb] w fun e w' => e = .returned (.int .i64 (cmpS ma ea mb eb)) ∧ Ext w w' := by
  unfold cmpS
  by_cases h1 : Rt ma ea
  · have r1 := rtB_yes h1
    by_cases h2 : Rt mb eb
    · rw [if_pos ⟨h1, h2⟩]; exact cmp_yes ma ea mb eb w h1 h2
    · have r2 := rtB_no h2
      rw [if_neg (fun h => h2 h.2)]
      clear h1 h2
      go_enter Tryz.func179, Tryz.ntmps179
      go_wp2_with (go_at_call 122; (with_reducible refine (right_rt _ _ _ (by assumption)).mono ?_); rintro e w' ⟨rfl, hbr⟩; obtain ⟨osr, dr, rfl⟩ := hbr.more)
      go_ret
      exact ⟨rfl, by with_reducible repeat (first | exact Ext.refl _ | apply Ext.drew | apply Ext.alloc | apply Ext.more_)⟩
  · have r1 := rtB_no h1
    rw [if_neg (fun h => h1 h.1)]
    clear h1
    go_enter Tryz.func179, Tryz.ntmps179
    go_wp2_with (go_at_call 122; (with_reducible refine (right_rt _ _ _ (by assumption)).mono ?_); rintro e w' ⟨rfl, hbr⟩; obtain ⟨osr, dr, rfl⟩ := hbr.more)
    go_ret
    exact ⟨rfl, by with_reducible repeat (first | exact Ext.refl _ | apply Ext.drew | apply Ext.alloc | apply Ext.more_)⟩
end Go.Proofs.YtmjmijjbijlhfaaGreatDoor
namespace Go.Proofs.YtmjmijjbijlhfaaGreatDoor
open Go.RowKit NM
theorem sum_flip (ma ea mb eb : Int) : sumI mb eb (-ma) ea = - sumI ma ea (-mb) eb := by
  unfold sumI
  rw [Int.min_comm eb ea, Int.neg_mul, Int.neg_mul]; omega
theorem cmp_flip (ma ea mb eb : Int) : cmpS mb eb ma ea = - cmpS ma ea mb eb := by
  unfold cmpS
  by_cases h : Rt ma ea ∧ Rt mb eb
  · rw [if_pos h, if_pos h.symm, sum_flip, Int.sign_neg]
  · rw [if_neg h, if_neg (fun h' => h h'.symm)]; rfl
theorem cmp_bd (ma ea mb eb : Int) : -1 ≤ cmpS ma ea mb eb ∧ cmpS ma ea mb eb ≤ 1 := by
  unfold cmpS; split
  · exact sign_bd _
  · omega
end Go.Proofs.YtmjmijjbijlhfaaGreatDoor
namespace Go.Proofs.YtmjmijjbijlhfaaGreatDoor
open NM
theorem T_cast_mul (a b : Nat) : ((T (a + b) : Nat) : Int) = (T a : Nat) * (T b : Nat) := by rw [T_add, Int.natCast_mul]
theorem sum_sc {ma ea mb eb : Int} (h1 : -100 ≤ ea) (h2 : -100 ≤ eb) : sumI ma ea mb eb * (T (min ea eb + 100).toNat : Nat) = sc ma ea + sc mb eb := by
  unfold sumI sc
  rw [Int.add_mul, Int.mul_assoc, Int.mul_assoc, ← T_cast_mul, ← T_cast_mul]
  congr 3
  · congr 2; omega
  · congr 2; omega
theorem sc_neg (m e : Int) : sc (-m) e = - sc m e := by unfold sc; rw [Int.neg_mul]
theorem cmp_sc {ma ea mb eb : Int} (h1 : Rt ma ea) (h2 : Rt mb eb) : cmpS ma ea mb eb = (sc ma ea - sc mb eb).sign := by
  obtain ⟨_, b2, b3⟩ := Rt_bd h1
  obtain ⟨_, b5, b6⟩ := Rt_bd h2
  unfold cmpS
  rw [if_pos ⟨h1, h2⟩, ← sign_T _ (min ea eb + 100).toNat, sum_sc (by omega) (by omega), sc_neg, Int.sub_eq_add_neg]
theorem sign_le {x : Int} : x.sign ≤ 0 ↔ x ≤ 0 := by
  rcases Int.lt_trichotomy x 0 with h | h | h
  · rw [Int.sign_eq_neg_one_of_neg h]; omega
  · subst h; simp
  · rw [Int.sign_eq_one_of_pos h]; omega
theorem cmp_le {ma ea mb eb : Int} (h1 : Rt ma ea) (h2 : Rt mb eb) : cmpS ma ea mb eb ≤ 0 ↔ sc ma ea ≤ sc mb eb := by
  rw [cmp_sc h1 h2, sign_le]; omega
end Go.Proofs.YtmjmijjbijlhfaaGreatDoor
namespace Go.Proofs.YtmjmijjbijlhfaaGreatDoor
open Go.RowKit NM
def tl (t : ByteArray) : List UInt8 := t.data.toList
theorem tl_append (a b : ByteArray) : tl (a ++ b) = tl a ++ tl b := by unfold tl; simp
theorem tl_size (a : ByteArray) : (tl a).length = a.size := rfl
theorem tl_eq {a : ByteArray} {l : List UInt8} (h : tl a = l) : a = ⟨l.toArray⟩ := bytes_eq h
end Go.Proofs.YtmjmijjbijlhfaaGreatDoor
namespace Go.Proofs.YtmjmijjbijlhfaaGreatDoor
open Go.RowKit NM
def upB (b : UInt8) : UInt8 := if 97 ≤ b ∧ b ≤ 122 then b - 32 else b
def foldB (s : ByteArray) : ByteArray := ⟨((tl s).map upB).toArray⟩
theorem tl_fold (s : ByteArray) : tl (foldB s) = (tl s).map upB := by unfold foldB; rfl
theorem foldB_size (s : ByteArray) : (foldB s).size = s.size := by rw [← tl_size, tl_fold, List.length_map, tl_size]
def cmpT (a b : ByteArray) : Int := Lib.compareBytes (tl (foldB a)) (tl (foldB b))
def sgI (a b : Int) : Int := if a < b then -1 else if b < a then 1 else 0
def sgB (a b : Bool) : Int := if a = b then 0 else if b then -1 else 1
def Val.only (k : Int) : Val := ⟨k, 0, 0, ⟨#[]⟩, false, 0⟩
/-- value.beside. -/
def besideV (v w : Val) : Val := if v.kind ≠ 0 then v else if w.kind = 1 ∨ w.kind = 2 ∨ w.kind = 3 then Val.only w.kind else v
def cmpK (a b : Val) : Int :=
  if a.kind ≠ b.kind then (if a.kind < b.kind then -1 else 1)
  else if a.kind = 1 then cmpS a.mant a.exp b.mant b.exp
  else if a.kind = 2 then cmpT a.text b.text
  else if a.kind = 3 then sgB a.truth b.truth
  else if a.kind = 4 then sgI a.fault b.fault
  else 0
/-- value.Compare. -/
def cmpV (a b : Val) : Int := cmpK (besideV a b) (besideV b a)
/-- value.Order. -/
def ordV (a b : Val) : Int := if a.kind = 0 ∧ b.kind = 0 then 0 else if a.kind = 0 then 1 else if b.kind = 0 then -1 else cmpV a b
/-- counterpaneref02.sign. -/
def sgn2 (l m : Bool) : Int := if l then -1 else if m then 1 else 0
theorem cb_refl : ∀ a : List UInt8, Lib.compareBytes a a = 0
  | [] => rfl
  | a :: l => by
    unfold Lib.compareBytes
    rw [if_neg (UInt8.lt_irrefl a), if_neg (UInt8.lt_irrefl a)]
    exact cb_refl l
theorem cb_flip : ∀ a b : List UInt8, Lib.compareBytes b a = - Lib.compareBytes a b
  | [], [] => rfl
  | [], _ :: _ => rfl
  | _ :: _, [] => rfl
  | a :: l, b :: m => by
    unfold Lib.compareBytes
    by_cases h1 : a < b
    · rw [if_pos h1, if_neg (UInt8.lt_asymm h1), if_pos h1]; rfl
    · by_cases h2 : b < a
      · rw [if_pos h2, if_neg h1, if_pos h2]
      · rw [if_neg h2, if_neg h1, if_neg h1, if_neg h2]; exact cb_flip l m
theorem cb_vals : ∀ a b : List UInt8, Lib.compareBytes a b = -1 ∨ Lib.compareBytes a b = 0 ∨ Lib.compareBytes a b = 1
  | [], [] => Or.inr (Or.inl rfl)
  | [], _ :: _ => Or.inl rfl
  | _ :: _, [] => Or.inr (Or.inr rfl)
  | a :: l, b :: m => by
    unfold Lib.compareBytes
    split
    · exact Or.inl rfl
    · split
      · exact Or.inr (Or.inr rfl)
      · exact cb_vals l m
theorem cb_zero : ∀ {a b : List UInt8}, Lib.compareBytes a b = 0 → a = b
  | [], [], _ => rfl
  | [], _ :: _, h => by cases h
  | _ :: _, [], h => by cases h
  | a :: l, b :: m, h => by
    unfold Lib.compareBytes at h
    by_cases h1 : a < b
    · rw [if_pos h1] at h; cases h
    · rw [if_neg h1] at h
      by_cases h2 : b < a
      · rw [if_pos h2] at h; cases h
      · rw [if_neg h2] at h
        have : a = b := by
          rw [UInt8.lt_iff_toNat_lt] at h1 h2
          exact UInt8.toNat_inj.1 (by omega)
        rw [this, cb_zero h]
theorem cb_trans : ∀ {a b c : List UInt8}, Lib.compareBytes a b ≤ 0 → Lib.compareBytes b c ≤ 0 → Lib.compareBytes a c ≤ 0
  | [], _, [], _, _ => by unfold Lib.compareBytes; omega
  | [], _, _ :: _, _, _ => by unfold Lib.compareBytes; omega
  | _ :: _, [], _, h, _ => by unfold Lib.compareBytes at h; omega
  | _ :: _, _ :: _, [], _, h => by unfold Lib.compareBytes at h; omega
  | a :: l, b :: m, c :: n, h1, h2 => by
    unfold Lib.compareBytes at h1 h2 ⊢
    have hab : a ≤ b := by
      rw [UInt8.le_iff_toNat_le]
      by_cases h : b < a
      · rw [if_neg (UInt8.lt_asymm h), if_pos h] at h1; omega
      · rw [UInt8.lt_iff_toNat_lt] at h; omega
    have hbc : b ≤ c := by
      rw [UInt8.le_iff_toNat_le]
      by_cases h : c < b
      · rw [if_neg (UInt8.lt_asymm h), if_pos h] at h2; omega
      · rw [UInt8.lt_iff_toNat_lt] at h; omega
    rw [UInt8.le_iff_toNat_le] at hab hbc
    by_cases hac : a < c
    · rw [if_pos hac]; omega
    · rw [if_neg hac, if_neg (by rw [UInt8.lt_iff_toNat_lt]; omega)]
      rw [UInt8.lt_iff_toNat_lt] at hac
      have e1 : ¬ a < b := by rw [UInt8.lt_iff_toNat_lt]; omega
      have e2 : ¬ b < a := by rw [UInt8.lt_iff_toNat_lt]; omega
      have e3 : ¬ b < c := by rw [UInt8.lt_iff_toNat_lt]; omega
      have e4 : ¬ c < b := by rw [UInt8.lt_iff_toNat_lt]; omega
      rw [if_neg e1, if_neg e2] at h1
      rw [if_neg e3, if_neg e4] at h2
      exact cb_trans h1 h2
/-- The model's order of strings, and what compares them. -/
theorem less_cb : ∀ a b : List UInt8, Op.bytesLess a b = decide (Lib.compareBytes a b = -1)
  | [], [] => rfl
  | [], _ :: _ => rfl
  | _ :: _, [] => rfl
  | a :: l, b :: m => by
    unfold Op.bytesLess Lib.compareBytes
    by_cases h1 : a < b
    · rw [if_pos h1, decide_eq_true h1]; rfl
    · rw [if_neg h1, decide_eq_false h1, Bool.false_or]
      by_cases h2 : b < a
      · rw [if_pos h2]
        have : (a == b) = false := by
          rw [beq_eq_false_iff_ne]; rintro rfl; exact UInt8.lt_irrefl _ h2
        rw [this]; rfl
      · rw [if_neg h2]
        have : (a == b) = true := by
          rw [beq_iff_eq]
          rw [UInt8.lt_iff_toNat_lt] at h1 h2
          exact UInt8.toNat_inj.1 (by omega)
        rw [this, Bool.true_and]; exact less_cb l m
theorem sgn2_cb (a b : List UInt8) : sgn2 (Op.bytesLess a b) (!(Op.bytesLess a b || a == b)) = Lib.compareBytes a b := by
  rw [less_cb]
  rcases cb_vals a b with h | h | h
  · rw [h]; rfl
  · have : (a == b) = true := by rw [beq_iff_eq]; exact cb_zero h
    rw [h, this]; rfl
  · have : (a == b) = false := by rw [beq_eq_false_iff_ne]; rintro rfl; rw [cb_refl] at h; cases h
    rw [h, this]; rfl
theorem sgn2_bool (a b : Bool) : sgn2 (!a && b) (a && !b) = sgB a b := by cases a <;> cases b <;> rfl
theorem sgn2_int (a b : Int) : sgn2 (decide (a < b)) (decide (b < a)) = sgI a b := by
  unfold sgn2 sgI
  by_cases h1 : a < b
  · simp [h1]
  · by_cases h2 : b < a <;> simp [h1, h2]
/-- A kind that may be, and nothing told beside it where there is nothing. -/
def Val.sane (x : Val) : Prop := 0 ≤ x.kind ∧ x.kind ≤ 4 ∧ (x.kind = 0 → x.fault = 0)
/-- Blank has nothing told. -/
def Val.tidy (x : Val) : Prop := x.sane ∧ (x.kind = 0 → x = Val.only 0)
theorem cmpV_same {a b : Val} (h : a.kind = b.kind) : cmpV a b = cmpK a b := by
  unfold cmpV
  have h1 : ∀ x y : Val, x.kind = y.kind → besideV x y = x := fun x y e => by
    unfold besideV
    by_cases h0 : x.kind = 0
    · rw [if_neg (show ¬ (x.kind ≠ 0) from fun h => h h0), if_neg (show ¬ (y.kind = 1 ∨ y.kind = 2 ∨ y.kind = 3) by omega)]
    · rw [if_pos h0]
  rw [h1 a b h, h1 b a h.symm]
/-- What a right value is. -/
theorem right_cases {x : Val} (h : valRight x = true) : x.tidy ∧ (x.kind = 1 → numRightB x.mant x.exp = true) ∧ (x.kind = 2 → x.text.size ≤ 255) ∧ (x.kind = 4 → 1 ≤ x.fault ∧ x.fault ≤ 9) := by
  unfold valRight at h
  by_cases h0 : x.kind = 0
  · rw [if_pos h0] at h
    have := of_decide_eq_true h
    subst this
    exact ⟨⟨⟨by decide, by decide, fun _ => rfl⟩, fun _ => rfl⟩, fun h => absurd h (by decide), fun h => absurd h (by decide), fun h => absurd h (by decide)⟩
  · rw [if_neg h0] at h
    by_cases h1 : x.kind = 1
    · rw [if_pos h1, Bool.and_eq_true] at h
      exact ⟨⟨⟨by omega, by omega, fun h => by omega⟩, fun h => by omega⟩, fun _ => h.1, fun h => by omega, fun h => by omega⟩
    · rw [if_neg h1] at h
      by_cases h2 : x.kind = 2
      · rw [if_pos h2] at h
        have := of_decide_eq_true h
        refine ⟨⟨⟨by omega, by omega, fun h => by omega⟩, fun h => by omega⟩, fun h => by omega, fun _ => ?_, fun h => by omega⟩
        unfold textV at this
        by_cases h5 : 255 < x.text.size
        · rw [if_pos h5] at this; rw [this] at h2; cases h2
        · omega
      · rw [if_neg h2] at h
        by_cases h3 : x.kind = 3
        · exact ⟨⟨⟨by omega, by omega, fun h => by omega⟩, fun h => by omega⟩, fun h => by omega, fun h => by omega, fun h => by omega⟩
        · rw [if_neg h3] at h
          by_cases h4 : x.kind = 4
          · rw [if_pos h4] at h
            have := of_decide_eq_true h
            refine ⟨⟨⟨by omega, by omega, fun h => by omega⟩, fun h => by omega⟩, fun h => by omega, fun h => by omega, fun _ => ?_⟩
            have hf : x.fault = badF x.fault := congrArg Val.fault this
            unfold badF at hf
            split at hf <;> omega
          · rw [if_neg h4] at h; cases h
end Go.Proofs.YtmjmijjbijlhfaaGreatDoor
namespace Go.Proofs.YtmjmijjbijlhfaaGreatDoor
open Go.RowKit NM
/-- Where num's reader stands. -/
structure St where
  st : Nat
  neg : Bool
  npow : Bool
  ds : List Nat
  beh : Nat
  pow : Nat
def isD (c : Nat) : Bool := decide (48 ≤ c ∧ c ≤ 57)
def digS (s : St) (c : Nat) : St :=
  if s.st ≤ 2 then { s with st := 2, ds := s.ds ++ [c - 48] }
  else if s.st ≤ 4 then { s with st := 4, beh := s.beh + 1, ds := s.ds ++ [c - 48] }
  else { s with st := 7, pow := if s.pow < 100000 then s.pow * 10 + (c - 48) else s.pow }
def takeS (s : St) (c : Nat) : Option St :=
  if isD c = true then some (digS s c)
  else if c = 45 ∧ s.st = 0 then some { s with neg := true, st := 1 }
  else if c = 46 ∧ s.st ≤ 2 then some { s with st := 3 }
  else if (c = 101 ∨ c = 69) ∧ (s.st = 2 ∨ s.st = 4) then some { s with st := 5 }
  else if (c = 45 ∨ c = 43) ∧ s.st = 5 then some { s with npow := decide (c = 45), st := 6 }
  else none
def runS : List Nat → St → Option St
  | [], s => some s
  | c :: l, s => (takeS s c).bind (runS l)
def endS (s : St) : Option (Int × Int) :=
  if s.st = 2 ∨ s.st = 4 ∨ s.st = 7 then rnd s.neg (val s.ds) false ((if s.npow then -(s.pow : Int) else s.pow) - s.beh) else none
def st0 : St := ⟨0, false, false, [], 0, 0⟩
def parM (l : List Nat) : Option (Int × Int) := (runS l st0).bind endS
/-- What the document says. -/
def powC (c : Nat) (t : List Nat) : Option Int :=
    if c ≠ 101 ∧ c ≠ 69 then none else
    let ng := t.head? = some 45
    let t' := if t.head? = some 43 ∨ t.head? = some 45 then t.tail else t
    if t' = [] ∨ ¬ (∀ c ∈ t', isD c = true) then none else
    let n : Nat := t'.foldl (fun n c => min 1000 (10 * n + (c - 48))) 0
    some (if ng then -(n : Int) else n)
def powR : List Nat → Option Int
  | [] => some 0
  | c :: t => powC c t
theorem powR_cons (c : Nat) (t : List Nat) : powR (c :: t) = powC c t := rfl
def parR (l : List Nat) : Option (Int × Int) :=
  let ng := decide (l.head? = some 45)
  let l1 := if l.head? = some 45 then l.tail else l
  let A := l1.takeWhile isD
  let l2 := l1.dropWhile isD
  let B := if l2.head? = some 46 then l2.tail.takeWhile isD else []
  let l3 := if l2.head? = some 46 then l2.tail.dropWhile isD else l2
  if l2.head? = some 46 ∧ B = [] then none else
  match powR l3 with
  | none => none
  | some e => if A.length + B.length = 0 then none else rnd ng (val ((A ++ B).map (· - 48))) false (e - B.length)
theorem runS_append (a b : List Nat) : ∀ s, runS (a ++ b) s = (runS a s).bind (runS b) := by
  induction a with
  | nil => intro s; rfl
  | cons c l ih =>
    intro s
    show (takeS s c).bind (runS (l ++ b)) = ((takeS s c).bind (runS l)).bind (runS b)
    cases takeS s c with
    | none => rfl
    | some s' => exact ih s'
theorem run_whole (a : List Nat) (h : ∀ c ∈ a, isD c = true) : ∀ s : St, s.st ≤ 2 → runS a s = some { s with st := if a = [] then s.st else 2, ds := s.ds ++ a.map (· - 48) } := by
  induction a with
  | nil => intro s hs; simp [runS]
  | cons c l ih =>
    intro s hs
    have hc := h c (List.mem_cons_self ..)
    show (takeS s c).bind (runS l) = _
    unfold takeS
    rw [if_pos hc]
    unfold digS
    rw [if_pos hs, Option.bind_some, ih (fun c hc => h c (List.mem_cons_of_mem _ hc)) _ (Nat.le_refl 2)]
    simp
theorem run_part (a : List Nat) (h : ∀ c ∈ a, isD c = true) : ∀ s : St, s.st = 3 ∨ s.st = 4 → runS a s = some { s with st := if a = [] then s.st else 4, ds := s.ds ++ a.map (· - 48), beh := s.beh + a.length } := by
  induction a with
  | nil => intro s hs; simp [runS]
  | cons c l ih =>
    intro s hs
    have hc := h c (List.mem_cons_self ..)
    show (takeS s c).bind (runS l) = _
    unfold takeS
    rw [if_pos hc]
    unfold digS
    rw [if_neg (by omega), if_pos (by omega), Option.bind_some, ih (fun c hc => h c (List.mem_cons_of_mem _ hc)) _ (Or.inr rfl)]
    simp; omega
def powF (p : Nat) (l : List Nat) : Nat := l.foldl (fun p c => if p < 100000 then p * 10 + (c - 48) else p) p
theorem run_pow (a : List Nat) (h : ∀ c ∈ a, isD c = true) : ∀ s : St, 5 ≤ s.st → runS a s = some { s with st := if a = [] then s.st else 7, pow := powF s.pow a } := by
  induction a with
  | nil => intro s hs; simp [runS, powF]
  | cons c l ih =>
    intro s hs
    have hc := h c (List.mem_cons_self ..)
    show (takeS s c).bind (runS l) = _
    unfold takeS
    rw [if_pos hc]
    unfold digS
    rw [if_neg (by omega), if_neg (by omega), Option.bind_some, ih (fun c hc => h c (List.mem_cons_of_mem _ hc)) _ (show 5 ≤ 7 by omega)]
    simp [powF]
theorem pow_two (l : List Nat) : ∀ p n : Nat, (p = n ∧ n < 1000 ∨ 1000 ≤ p ∧ n = 1000) → (powF p l = l.foldl (fun n c => min 1000 (10 * n + (c - 48))) n ∧ l.foldl (fun n c => min 1000 (10 * n + (c - 48))) n < 1000 ∨ 1000 ≤ powF p l ∧ l.foldl (fun n c => min 1000 (10 * n + (c - 48))) n = 1000) := by
  induction l with
  | nil => intro p n h; exact h
  | cons c l ih =>
    intro p n h
    show (powF (if p < 100000 then p * 10 + (c - 48) else p) l = _ ∧ _ ∨ _)
    apply ih
    show _ = min 1000 (10 * n + (c - 48)) ∧ min 1000 (10 * n + (c - 48)) < 1000 ∨ _ ∧ min 1000 (10 * n + (c - 48)) = 1000
    split <;> omega
theorem rnd_low_ {neg : Bool} {N : Nat} {e : Int} (h : nd N + e ≤ -100) : rnd neg N false e = some (0, 0) := by
  apply rnd_of_zero
  unfold n2
  apply cutN_far
  have h1 := n1_le N false
  have h2 : nd (n1 N false) ≤ 16 := (nd_le_iff _ _).2 (Nat.lt_of_le_of_lt h1 (T_lt (by omega)))
  omega
/-- Beyond a thousand a power of ten counts no more. -/
theorem rnd_same {neg ng : Bool} {N b p n : Nat} (hN : nd N ≤ 300) (hb : b ≤ 300) (h : p = n ∧ n < 1000 ∨ 1000 ≤ p ∧ n = 1000) : rnd neg N false ((if ng then -(p : Int) else p) - b) = rnd neg N false ((if ng then -(n : Int) else n) - b) := by
  rcases h with ⟨rfl, _⟩ | ⟨h1, rfl⟩
  · rfl
  · cases ng with
    | true =>
      simp only [if_true]
      rw [rnd_low_ (by omega), rnd_low_ (by omega)]
    | false =>
      simp only [Bool.false_eq_true, if_false]
      by_cases h0 : N = 0
      · rw [h0, rnd_nought, rnd_nought]
      · rw [rnd_far_up h0 (by omega), rnd_far_up h0 (by omega)]
theorem split_d (l : List Nat) : l = l.takeWhile isD ++ l.dropWhile isD := (List.takeWhile_append_dropWhile).symm
theorem take_d (l : List Nat) : ∀ c ∈ l.takeWhile isD, isD c = true := by
  intro c hc
  have := List.all_takeWhile (l := l) (p := isD)
  exact List.all_eq_true.1 this c hc
theorem drop_d {l : List Nat} {c : Nat} {t : List Nat} (h : l.dropWhile isD = c :: t) : isD c = false := by
  have := List.head?_dropWhile_not isD l
  rw [h] at this
  simpa using this
theorem run_digits {s : St} {t : List Nat} (hs : s.st = 5 ∨ s.st = 6) (hh : s.st = 5 → t.head? ≠ some 43 ∧ t.head? ≠ some 45) :
    (runS t s).bind endS = if t = [] ∨ ¬ (∀ c ∈ t, isD c = true) then none else rnd s.neg (val s.ds) false ((if s.npow then -(powF s.pow t : Int) else powF s.pow t) - s.beh) := by
  have h1 := split_d t
  have h2 := take_d t
  have h3 := fun c u => drop_d (l := t) (c := c) (t := u)
  generalize t.takeWhile isD = K at *
  generalize t.dropWhile isD = l4 at *
  subst h1
  rw [runS_append, run_pow K h2 s (by omega), Option.bind_some]
  cases l4 with
  | nil =>
    rw [List.append_nil]
    by_cases hK : K = []
    · subst hK
      rw [if_pos (Or.inl rfl)]
      show endS _ = none
      unfold endS
      rw [if_neg]
      simp; omega
    · have hcond : ¬ (K = [] ∨ ¬ (∀ c ∈ K, isD c = true)) := fun hx => hx.elim hK (fun h => h h2)
      rw [if_neg hcond]
      show endS _ = _
      unfold endS
      rw [if_pos (by simp [hK])]
  | cons c u =>
    have hc := h3 c u rfl
    rw [if_pos (Or.inr (fun h => by rw [h c (by simp)] at hc; cases hc))]
    have : takeS { s with st := if K = [] then s.st else 7, pow := powF s.pow K } c = none := by
      unfold takeS
      rw [if_neg (by rw [hc]; simp)]
      by_cases hK : K = []
      · subst hK
        simp only [if_true]
        rw [if_neg (by omega), if_neg (by omega), if_neg (by omega), if_neg]
        rintro ⟨h, h5⟩
        have := hh h5
        simp at this
        omega
      · simp only [if_neg hK]
        rw [if_neg (by omega), if_neg (by omega), if_neg (by omega), if_neg (by omega)]
    show ((takeS _ c).bind (runS u)).bind endS = none
    rw [this]; rfl
theorem run_tail {s : St} {l : List Nat} (hs : s.st = 2 ∧ l.head? ≠ some 46 ∨ s.st = 4) (hp : s.pow = 0) (hn : s.npow = false) (hd : ∀ c t, l = c :: t → isD c = false) (h1 : nd (val s.ds) ≤ 300) (h2 : s.beh ≤ 300) :
    (runS l s).bind endS = match powR l with
      | none => none
      | some e => rnd s.neg (val s.ds) false (e - s.beh) := by
  cases l with
  | nil =>
    show endS s = rnd s.neg (val s.ds) false (0 - s.beh)
    unfold endS
    rw [if_pos (by omega), hp, hn]; rfl
  | cons c t =>
    have hc := hd c t rfl
    by_cases he : c ≠ 101 ∧ c ≠ 69
    · have : powR (c :: t) = none := by rw [powR_cons]; unfold powC; rw [if_pos he]
      rw [this]
      have : takeS s c = none := by
        unfold takeS
        simp at hs
        rw [if_neg (by rw [hc]; simp), if_neg (by omega), if_neg (by omega), if_neg (by omega), if_neg (by omega)]
      show ((takeS s c).bind (runS t)).bind endS = none
      rw [this]; rfl
    · have ht : takeS s c = some { s with st := 5 } := by
        unfold takeS
        rw [if_neg (by rw [hc]; simp), if_neg (by omega), if_neg (by omega), if_pos (by omega)]
      show ((takeS s c).bind (runS t)).bind endS = _
      rw [ht, Option.bind_some]
      rw [powR_cons]
      unfold powC
      rw [if_neg he]
      simp only
      by_cases hsg : t.head? = some 43 ∨ t.head? = some 45
      · rw [if_pos hsg]
        obtain ⟨c', u, rfl⟩ : ∃ c' u, t = c' :: u := by
          cases t with
          | nil => simp at hsg
          | cons c' u => exact ⟨c', u, rfl⟩
        simp only [List.head?_cons, Option.some.injEq, List.tail_cons] at hsg ⊢
        have ht' : takeS { s with st := 5 } c' = some { s with npow := decide (c' = 45), st := 6 } := by
          rcases hsg with rfl | rfl <;> simp [takeS, isD]
        show ((takeS { s with st := 5 } c').bind (runS u)).bind endS = _
        rw [ht', Option.bind_some, run_digits (Or.inr rfl) (fun h => absurd h (by simp))]
        by_cases hb : u = [] ∨ ¬ (∀ c ∈ u, isD c = true)
        · rw [if_pos hb, if_pos hb]
        · rw [if_neg hb, if_neg hb]
          simp only [hp]
          have hpw := pow_two u 0 0 (Or.inl ⟨rfl, by omega⟩)
          have := rnd_same (neg := s.neg) (ng := decide (c' = 45)) h1 h2 hpw
          rw [this]
          by_cases h45 : c' = 45 <;> simp [h45]
      · rw [if_neg hsg, run_digits (Or.inl rfl) (fun _ => ⟨fun h => hsg (Or.inl h), fun h => hsg (Or.inr h)⟩)]
        by_cases hb : t = [] ∨ ¬ (∀ c ∈ t, isD c = true)
        · rw [if_pos hb, if_pos hb]
        · rw [if_neg hb, if_neg hb]
          simp only [hp, hn]
          have hpw := pow_two t 0 0 (Or.inl ⟨rfl, by omega⟩)
          have := rnd_same (neg := s.neg) (ng := false) h1 h2 hpw
          rw [this, if_neg (fun h => hsg (Or.inr h))]
          simp
def parR1 (ng : Bool) (l1 : List Nat) : Option (Int × Int) :=
  let A := l1.takeWhile isD
  let l2 := l1.dropWhile isD
  let B := if l2.head? = some 46 then l2.tail.takeWhile isD else []
  let l3 := if l2.head? = some 46 then l2.tail.dropWhile isD else l2
  if l2.head? = some 46 ∧ B = [] then none else
  match powR l3 with
  | none => none
  | some e => if A.length + B.length = 0 then none else rnd ng (val ((A ++ B).map (· - 48))) false (e - B.length)
theorem parR_one (l : List Nat) : parR l = parR1 (decide (l.head? = some 45)) (if l.head? = some 45 then l.tail else l) := rfl
theorem dig_len (a : List Nat) (h : ∀ c ∈ a, isD c = true) (hl : a.length ≤ 300) : nd (val (a.map (· - 48))) ≤ 300 := by
  have h1 : AllD (a.map (· - 48)) := by
    intro d hd
    obtain ⟨c, hc, rfl⟩ := List.mem_map.1 hd
    have := h c hc
    unfold isD at this
    have := of_decide_eq_true this
    omega
  have h2 := val_lt h1
  rw [List.length_map] at h2
  have := (nd_le_iff _ _).2 h2
  omega
theorem run_one {s : St} {l : List Nat} (hs : s.st = 0 ∧ l.head? ≠ some 45 ∨ s.st = 1) (hds : s.ds = []) (hbh : s.beh = 0) (hp : s.pow = 0) (hn : s.npow = false) (hl : l.length ≤ 300) :
    (runS l s).bind endS = parR1 s.neg l := by
  unfold parR1
  have hst : s.st ≤ 1 := by rcases hs with ⟨h, _⟩ | h <;> omega
  have h1 := split_d l
  have h2 := take_d l
  have h3 := fun c u => drop_d (l := l) (c := c) (t := u)
  generalize l.takeWhile isD = A at *
  generalize l.dropWhile isD = l2 at *
  subst h1
  simp only
  rw [runS_append, run_whole A h2 s (by omega), Option.bind_some, hds, List.nil_append]
  cases l2 with
  | nil =>
    simp only [List.head?_nil, if_neg (show ¬ (none : Option Nat) = some 46 by simp), false_and, if_false, reduceCtorEq]
    show endS _ = if A.length + 0 = 0 then none else _
    by_cases hA : A = []
    · subst hA
      show endS _ = none
      unfold endS
      exact if_neg (show ¬ (s.st = 2 ∨ s.st = 4 ∨ s.st = 7) by omega)
    · have hA0 : ¬ A.length + 0 = 0 := by cases A; exact absurd rfl hA; simp
      rw [if_neg hA0]
      unfold endS
      rw [if_pos (by simp [hA])]
      simp [hp, hn, hbh]
  | cons c t =>
    have hc := h3 c t rfl
    simp only [List.head?_cons, Option.some.injEq, List.tail_cons]
    by_cases h46 : c = 46
    · subst h46
      simp only [if_true, true_and]
      have ht : takeS { s with st := if A = [] then s.st else 2, ds := A.map (· - 48) } 46 = some { s with st := 3, ds := A.map (· - 48) } := by
        unfold takeS
        rw [if_neg (by unfold isD; simp), if_neg (by omega), if_pos]
        by_cases hA : A = [] <;> simp [hA]; omega
      show ((takeS _ 46).bind (runS t)).bind endS = _
      rw [ht, Option.bind_some]
      have k1 := split_d t
      have k2 := take_d t
      have k3 := fun c u => drop_d (l := t) (c := c) (t := u)
      generalize t.takeWhile isD = B at *
      generalize t.dropWhile isD = l3 at *
      subst k1
      rw [runS_append, run_part B k2 _ (Or.inl rfl), Option.bind_some]
      by_cases hB : B = []
      · subst hB
        rw [if_pos rfl]
        simp only [if_true]
        cases l3 with
        | nil => show endS _ = none; unfold endS; rw [if_neg (by simp)]
        | cons c u =>
          have hcd := k3 c u rfl
          have : takeS { s with st := 3, ds := A.map (· - 48) ++ [].map (· - 48), beh := s.beh + ([] : List Nat).length } c = none := by
            unfold takeS
            rw [if_neg (by rw [hcd]; simp), if_neg (by simp), if_neg (by simp), if_neg (by simp), if_neg (by simp)]
          show ((takeS _ c).bind (runS u)).bind endS = none
          rw [this]; rfl
      · rw [if_neg hB]
        simp only [if_neg hB]
        have hlen : A.length + (B.length + l3.length) + 1 ≤ 300 := by simp at hl; omega
        rw [run_tail (s := { s with st := 4, ds := A.map (· - 48) ++ B.map (· - 48), beh := s.beh + B.length }) (Or.inr rfl) hp hn k3 (by show nd (val (A.map (· - 48) ++ B.map (· - 48))) ≤ 300; rw [← List.map_append]; exact dig_len _ (fun c hc => (List.mem_append.1 hc).elim (h2 c) (k2 c)) (by simp; omega)) (by simp [hbh]; omega)]
        have hB0 : ¬ A.length + B.length = 0 := by cases B; exact absurd rfl hB; simp
        simp only [if_neg hB0, hbh, Nat.zero_add, List.map_append]
    · simp only [if_neg h46]
      rw [if_neg (show ¬ (c = 46 ∧ _) from fun h => h46 h.1)]
      by_cases hA : A = []
      · subst hA
        have : takeS { s with st := if ([] : List Nat) = [] then s.st else 2, ds := [].map (· - 48) } c = none := by
          unfold takeS
          simp only [if_true]
          simp at hs
          rw [if_neg (by rw [hc]; simp), if_neg (by omega), if_neg (by omega), if_neg (by omega), if_neg (by omega)]
        show ((takeS _ c).bind (runS t)).bind endS = _
        rw [this]
        cases powR (c :: t) <;> rfl
      · simp only [if_neg hA]
        have hlen : A.length + t.length + 1 ≤ 300 := by simp at hl; omega
        rw [run_tail (s := { s with st := 2, ds := A.map (· - 48) }) (Or.inl ⟨rfl, by simpa using h46⟩) hp hn (fun c' u hu => by cases hu; exact hc) (dig_len A h2 (by omega)) (by simp [hbh])]
        have hA0 : ¬ A.length + 0 = 0 := by cases A; exact absurd rfl hA; simp
        simp only [List.length_nil, if_neg hA0, hbh, List.append_nil]
/-- The reader and the document tell the same. -/
theorem parse_law (l : List Nat) (hl : l.length ≤ 300) : parM l = parR l := by
  rw [parR_one]
  unfold parM
  by_cases h : l.head? = some 45
  · cases l with
    | nil => simp at h
    | cons c t =>
      simp only [List.head?_cons, Option.some.injEq] at h
      subst h
      simp only [List.head?_cons, if_true, List.tail_cons, decide_true]
      show ((takeS st0 45).bind (runS t)).bind endS = _
      have : takeS st0 45 = some { st0 with neg := true, st := 1 } := by simp [takeS, isD, st0]
      rw [this, Option.bind_some]
      exact run_one (Or.inr rfl) rfl rfl rfl rfl (by simp at hl; omega)
  · rw [if_neg h, decide_eq_false h]
    exact run_one (Or.inl ⟨rfl, h⟩) rfl rfl rfl rfl hl
end Go.Proofs.YtmjmijjbijlhfaaGreatDoor
namespace Go.Proofs.YtmjmijjbijlhfaaGreatDoor
open Go.RowKit NM
theorem own_slice1 {w : World} {base : Nat} {e : TypeId} {v : Value} {n : Nat} {xs : List Value} (h : w.ownsRow base e 1 v n xs) : ∃ A L c, v = .slice A L c := by
  obtain ⟨_, h2⟩ := h
  rcases h2 with ⟨rfl, _⟩ | ⟨g, cap, cur, rfl, _⟩
  · exact ⟨_, _, _, rfl⟩
  · exact ⟨_, _, _, rfl⟩
/-- What a reader leaves as it was. -/
structure Fr (base : Nat) (w w' : World) : Prop where
  low : Below base w w'
  it : ∀ (b : Nat) (s : ByteArray) (pos : Nat), w.heap[b]? = some (Obj.stringIter s pos) → w'.heap[b]? = some (Obj.stringIter s pos)
theorem Fr.refl (base : Nat) (w : World) : Fr base w w := ⟨Below.refl _ _, fun _ _ _ h => h⟩
theorem Fr.trans {base : Nat} {a b c : World} (h : Fr base a b) (k : Fr base b c) : Fr base a c := ⟨Below.trans h.low k.low, fun i s pos hi => k.it i s pos (h.it i s pos hi)⟩
/-- A reader in block q. -/
structure RD (base q : Nat) (st : Nat) (neg npow : Bool) (ds : List Nat) (beh pow : Nat) (v : Value) (w : World) : Prop where
  row : w.heap[q]? = some (.cells #[.int .i64 (st : Int), .bool neg, .bool npow, v, .int .i64 (beh : Int), .int .i64 (pow : Int)] 163 (0, 0))
  own : w.ownsRow base 5 1 v ds.length (b8 ds)
  qb : base ≤ q
section
variable {base q st beh pow : Nat} {neg npow : Bool} {ds : List Nat} {v : Value} {w : World}
theorem RD.at (h : RD base q st neg npow ds beh pow v w) : w.cell? ⟨q, 0, none⟩ = some (.int .i64 (st : Int)) ∧ w.cell? ⟨q, 1, none⟩ = some (.bool neg) ∧ w.cell? ⟨q, 2, none⟩ = some (.bool npow) ∧ w.cell? ⟨q, 3, none⟩ = some v ∧ w.cell? ⟨q, 4, none⟩ = some (.int .i64 (beh : Int)) ∧ w.cell? ⟨q, 5, none⟩ = some (.int .i64 (pow : Int)) := by
  refine ⟨?_, ?_, ?_, ?_, ?_, ?_⟩ <;> rw [cell_of_row w q _ _ _ (0, 0) h.row] <;> rfl
theorem RD.fz (h : RD base q st neg npow ds beh pow v w) (o : Nat) : w.frozen? ⟨q, o, none⟩ = false := frozen_of_row w q o _ _ h.row
theorem RD.lt (h : RD base q st neg npow ds beh pow v w) : q < w.heap.size := lt_block h.row
theorem RD.fr (h : RD base q st neg npow ds beh pow v w) (o : Nat) (x : Value) : Fr base w (w.setCell ⟨q, o, none⟩ x) :=
  ⟨Below.setCell (Below.refl _ _) h.qb x, fun b s pos hb => by
    rw [RowKit.Below.heap_setCell _ _ _ _ (fun he => by subst he; rw [h.row] at hb; cases hb)]; exact hb⟩
theorem RD.keep (h : RD base q st neg npow ds beh pow v w) (o : Nat) (x : Value) : (w.setCell ⟨q, o, none⟩ x).ownsRow base 5 1 v ds.length (b8 ds) :=
  own_keep h.own fun g cur hg => RowKit.Below.heap_setCell _ _ _ _ (fun he => by subst he; rw [h.row] at hg; cases hg)
theorem RD.set0 (h : RD base q st neg npow ds beh pow v w) (st' : Nat) : RD base q st' neg npow ds beh pow v (w.setCell ⟨q, 0, none⟩ (.int .i64 (st' : Int))) := ⟨heap_setCell_same w q 0 _ _ _ h.row, h.keep _ _, h.qb⟩
theorem RD.set1 (h : RD base q st neg npow ds beh pow v w) (n' : Bool) : RD base q st n' npow ds beh pow v (w.setCell ⟨q, 1, none⟩ (.bool n')) := ⟨heap_setCell_same w q 1 _ _ _ h.row, h.keep _ _, h.qb⟩
theorem RD.set2 (h : RD base q st neg npow ds beh pow v w) (n' : Bool) : RD base q st neg n' ds beh pow v (w.setCell ⟨q, 2, none⟩ (.bool n')) := ⟨heap_setCell_same w q 2 _ _ _ h.row, h.keep _ _, h.qb⟩
theorem RD.set4 (h : RD base q st neg npow ds beh pow v w) (b' : Nat) : RD base q st neg npow ds b' pow v (w.setCell ⟨q, 4, none⟩ (.int .i64 (b' : Int))) := ⟨heap_setCell_same w q 4 _ _ _ h.row, h.keep _ _, h.qb⟩
theorem RD.set5 (h : RD base q st neg npow ds beh pow v w) (p' : Nat) : RD base q st neg npow ds beh p' v (w.setCell ⟨q, 5, none⟩ (.int .i64 (p' : Int))) := ⟨heap_setCell_same w q 5 _ _ _ h.row, h.keep _ _, h.qb⟩
/-- One digit more. -/
theorem RD.grown {w3 : World} {v3 : Value} {o : Obj} {d : Nat} (h : RD base q st neg npow ds beh pow v w) (hg : (w.alloc o).grownBy w3 v.ownBlock) (ho : w3.ownsRow base 5 1 v3 (ds.length + 1) (b8 ds ++ [.int .u8 (d : Int)])) (hb : base ≤ w.heap.size) :
    w3.heap[q]? = w.heap[q]? ∧ RD base q st neg npow (ds ++ [d]) beh pow v3 (w3.setCell ⟨q, 3, none⟩ v3) ∧ Fr base w (w3.setCell ⟨q, 3, none⟩ v3) := by
  have hob := own_block1 h.own
  have hne : ∀ b, (∀ cur, w.heap[b]? ≠ some (.cells cur 5 (0, 0))) → some b ≠ v.ownBlock := fun b hb he => by
    obtain ⟨_, cur, hc⟩ := hob b he.symm
    exact hb cur hc
  have hk : ∀ b, b < w.heap.size → some b ≠ v.ownBlock → w3.heap[b]? = w.heap[b]? := fun b hb he => by
    rw [hg.block b (by simp; omega) he, RowKit.Below.heap_alloc _ o b hb]
  have hq : w3.heap[q]? = w.heap[q]? := hk q h.lt (hne q fun cur hc => by rw [h.row] at hc; cases hc)
  have hrow := h.row
  rw [← hq] at hrow
  have hsz := hg.size
  simp at hsz
  refine ⟨hq, ⟨heap_setCell_same w3 q 3 _ _ v3 hrow, ?_, h.qb⟩, ?_, ?_⟩
  · rw [List.length_append, b8, List.map_append]
    exact own_keep ho fun g cur hc => RowKit.Below.heap_setCell _ _ _ _ (fun he => by subst he; rw [hrow] at hc; cases hc)
  · have hbl : Below base w w3 := ⟨hg.os, hg.tape, hg.output, by omega, fun b hb' => hk b (by omega) fun he => by have := (hob b he.symm).1; omega⟩
    exact Below.setCell hbl h.qb v3
  · intro b s pos hb'
    rw [RowKit.Below.heap_setCell _ _ _ _ (fun he => by subst he; rw [h.row] at hb'; cases hb'), hk b (lt_block hb') (hne b fun cur hc => by rw [hb'] at hc; cases hc)]
    exact hb'
end
set_option maxHeartbeats 1000000 in
theorem digit_any (base q st : Nat) (neg npow : Bool) (ds : List Nat) (beh pow c : Nat) (v : Value) (w : World) (h : RD base q st neg npow ds beh pow v w) (hbw : base ≤ w.heap.size) (hc : 48 ≤ c ∧ c ≤ 57) (hst : st ≤ 7) (hds : ds.length ≤ 300) (hbeh : beh ≤ 300) (hpow : pow ≤ 1000000) :
    Calls Tryz.prog 199 #[.pointer (some ⟨q, 0, none⟩), .int .i32 (c : Int)] w fun r w' => r = .returned (.tuple #[]) ∧ ∃ s' v', digS ⟨st, neg, npow, ds, beh, pow⟩ c = s' ∧ RD base q s'.st s'.neg s'.npow s'.ds s'.beh s'.pow v' w' ∧ Fr base w w' := by
  obtain ⟨i0, hi, hz0, hz1, hz2⟩ := info_parts info_byte
  have hcd : (c : Int) - 48 = ((c - 48 : Nat) : Int) := by omega
  obtain ⟨c0, c1, c2, c3, c4, c5⟩ := h.at
  have f0 := h.fz 0
  have f4 := h.fz 4
  have f5 := h.fz 5
  have lq := h.lt
  have HR := Lib.hid h
  clear h
  have hst' : st = 0 ∨ st = 1 ∨ st = 2 ∨ st = 3 ∨ st = 4 ∨ st = 5 ∨ st = 6 ∨ st = 7 := by omega
  rcases hst' with rfl | rfl | rfl | rfl | rfl | rfl | rfl | rfl
  · go_enter Tryz.func199, Tryz.ntmps199; go_upto_region 12 with fail; refine wp_world fun W hW => ?_; (have hR : RD base q 2 neg npow ds beh pow v W := by rw [hW]; exact HR.out.set0 2); (have hF : Fr base w W := by rw [hW]; exact HR.out.fr _ _); (have hbW : base ≤ W.heap.size := Nat.le_trans hbw hF.low.size); clear hW HR c0 c1 c2 c3 c4 c5 f0 f4 f5 lq hbw; obtain ⟨c0, c1, c2, c3, c4, c5⟩ := hR.at; have lq := hR.lt; have HR := Lib.hid hR; clear hR; go_wp2_with (at_builtin; refine wpList_append_own _ rfl _ _ _ rfl base 5 i0 (.int .u8 0) 1 1 Tryz.underlying135 hi hz0 hz1 hz2 rfl (by decide) _ ds.length (b8 ds) rfl (own_keep HR.out.own fun g cur hg => RowKit.Below.heap_alloc _ _ g (lt_block hg)) _ 1 1 [.int .u8 ((c - 48 : Nat) : Int)] rfl rfl (Rd.one_ _ _ rfl).add (one_u8 _) (by simp [maxLen]; omega) (by omega) (by simp; omega) ?_; intro v3 w3 ho3 hg3 _; obtain ⟨A3, L3, C3, hv3⟩ := own_slice1 ho3; subst hv3; obtain ⟨hq3, hRD3, hFr3⟩ := HR.out.grown hg3 ho3 hbW; have hrow3 := HR.out.row; rw [← hq3] at hrow3; have fz3 := frozen_of_row w3 q 3 _ _ hrow3; have lt3 := lt_block hrow3; have q3 : w3.cell? ⟨q, 3, none⟩ = some v := by rw [cell_of_row w3 q 3 _ _ (0, 0) hrow3]; rfl); exact bodyPost_end (v := .tuple #[]) (by simp [results, Tryz.results199, go_sem]) rfl ⟨rfl, _, _, rfl, hRD3, hF.trans hFr3⟩
  · go_enter Tryz.func199, Tryz.ntmps199; go_upto_region 12 with fail; refine wp_world fun W hW => ?_; (have hR : RD base q 2 neg npow ds beh pow v W := by rw [hW]; exact HR.out.set0 2); (have hF : Fr base w W := by rw [hW]; exact HR.out.fr _ _); (have hbW : base ≤ W.heap.size := Nat.le_trans hbw hF.low.size); clear hW HR c0 c1 c2 c3 c4 c5 f0 f4 f5 lq hbw; obtain ⟨c0, c1, c2, c3, c4, c5⟩ := hR.at; have lq := hR.lt; have HR := Lib.hid hR; clear hR; go_wp2_with (at_builtin; refine wpList_append_own _ rfl _ _ _ rfl base 5 i0 (.int .u8 0) 1 1 Tryz.underlying135 hi hz0 hz1 hz2 rfl (by decide) _ ds.length (b8 ds) rfl (own_keep HR.out.own fun g cur hg => RowKit.Below.heap_alloc _ _ g (lt_block hg)) _ 1 1 [.int .u8 ((c - 48 : Nat) : Int)] rfl rfl (Rd.one_ _ _ rfl).add (one_u8 _) (by simp [maxLen]; omega) (by omega) (by simp; omega) ?_; intro v3 w3 ho3 hg3 _; obtain ⟨A3, L3, C3, hv3⟩ := own_slice1 ho3; subst hv3; obtain ⟨hq3, hRD3, hFr3⟩ := HR.out.grown hg3 ho3 hbW; have hrow3 := HR.out.row; rw [← hq3] at hrow3; have fz3 := frozen_of_row w3 q 3 _ _ hrow3; have lt3 := lt_block hrow3; have q3 : w3.cell? ⟨q, 3, none⟩ = some v := by rw [cell_of_row w3 q 3 _ _ (0, 0) hrow3]; rfl); exact bodyPost_end (v := .tuple #[]) (by simp [results, Tryz.results199, go_sem]) rfl ⟨rfl, _, _, rfl, hRD3, hF.trans hFr3⟩
  · go_enter Tryz.func199, Tryz.ntmps199; go_upto_region 12 with fail; refine wp_world fun W hW => ?_; (have hR : RD base q 2 neg npow ds beh pow v W := by rw [hW]; exact HR.out.set0 2); (have hF : Fr base w W := by rw [hW]; exact HR.out.fr _ _); (have hbW : base ≤ W.heap.size := Nat.le_trans hbw hF.low.size); clear hW HR c0 c1 c2 c3 c4 c5 f0 f4 f5 lq hbw; obtain ⟨c0, c1, c2, c3, c4, c5⟩ := hR.at; have lq := hR.lt; have HR := Lib.hid hR; clear hR; go_wp2_with (at_builtin; refine wpList_append_own _ rfl _ _ _ rfl base 5 i0 (.int .u8 0) 1 1 Tryz.underlying135 hi hz0 hz1 hz2 rfl (by decide) _ ds.length (b8 ds) rfl (own_keep HR.out.own fun g cur hg => RowKit.Below.heap_alloc _ _ g (lt_block hg)) _ 1 1 [.int .u8 ((c - 48 : Nat) : Int)] rfl rfl (Rd.one_ _ _ rfl).add (one_u8 _) (by simp [maxLen]; omega) (by omega) (by simp; omega) ?_; intro v3 w3 ho3 hg3 _; obtain ⟨A3, L3, C3, hv3⟩ := own_slice1 ho3; subst hv3; obtain ⟨hq3, hRD3, hFr3⟩ := HR.out.grown hg3 ho3 hbW; have hrow3 := HR.out.row; rw [← hq3] at hrow3; have fz3 := frozen_of_row w3 q 3 _ _ hrow3; have lt3 := lt_block hrow3; have q3 : w3.cell? ⟨q, 3, none⟩ = some v := by rw [cell_of_row w3 q 3 _ _ (0, 0) hrow3]; rfl); exact bodyPost_end (v := .tuple #[]) (by simp [results, Tryz.results199, go_sem]) rfl ⟨rfl, _, _, rfl, hRD3, hF.trans hFr3⟩
  · go_enter Tryz.func199, Tryz.ntmps199; go_upto_region 12 with fail; refine wp_world fun W hW => ?_; (have hR : RD base q 4 neg npow ds (beh + 1) pow v W := by rw [hW]; exact (HR.out.set0 4).set4 (beh + 1)); (have hF : Fr base w W := by rw [hW]; exact (HR.out.fr _ _).trans ((HR.out.set0 4).fr _ _)); (have hbW : base ≤ W.heap.size := Nat.le_trans hbw hF.low.size); clear hW HR c0 c1 c2 c3 c4 c5 f0 f4 f5 lq hbw; obtain ⟨c0, c1, c2, c3, c4, c5⟩ := hR.at; have lq := hR.lt; have HR := Lib.hid hR; clear hR; go_wp2_with (at_builtin; refine wpList_append_own _ rfl _ _ _ rfl base 5 i0 (.int .u8 0) 1 1 Tryz.underlying135 hi hz0 hz1 hz2 rfl (by decide) _ ds.length (b8 ds) rfl (own_keep HR.out.own fun g cur hg => RowKit.Below.heap_alloc _ _ g (lt_block hg)) _ 1 1 [.int .u8 ((c - 48 : Nat) : Int)] rfl rfl (Rd.one_ _ _ rfl).add (one_u8 _) (by simp [maxLen]; omega) (by omega) (by simp; omega) ?_; intro v3 w3 ho3 hg3 _; obtain ⟨A3, L3, C3, hv3⟩ := own_slice1 ho3; subst hv3; obtain ⟨hq3, hRD3, hFr3⟩ := HR.out.grown hg3 ho3 hbW; have hrow3 := HR.out.row; rw [← hq3] at hrow3; have fz3 := frozen_of_row w3 q 3 _ _ hrow3; have lt3 := lt_block hrow3; have q3 : w3.cell? ⟨q, 3, none⟩ = some v := by rw [cell_of_row w3 q 3 _ _ (0, 0) hrow3]; rfl); exact bodyPost_end (v := .tuple #[]) (by simp [results, Tryz.results199, go_sem]) rfl ⟨rfl, _, _, rfl, hRD3, hF.trans hFr3⟩
  · go_enter Tryz.func199, Tryz.ntmps199; go_upto_region 12 with fail; refine wp_world fun W hW => ?_; (have hR : RD base q 4 neg npow ds (beh + 1) pow v W := by rw [hW]; exact (HR.out.set0 4).set4 (beh + 1)); (have hF : Fr base w W := by rw [hW]; exact (HR.out.fr _ _).trans ((HR.out.set0 4).fr _ _)); (have hbW : base ≤ W.heap.size := Nat.le_trans hbw hF.low.size); clear hW HR c0 c1 c2 c3 c4 c5 f0 f4 f5 lq hbw; obtain ⟨c0, c1, c2, c3, c4, c5⟩ := hR.at; have lq := hR.lt; have HR := Lib.hid hR; clear hR; go_wp2_with (at_builtin; refine wpList_append_own _ rfl _ _ _ rfl base 5 i0 (.int .u8 0) 1 1 Tryz.underlying135 hi hz0 hz1 hz2 rfl (by decide) _ ds.length (b8 ds) rfl (own_keep HR.out.own fun g cur hg => RowKit.Below.heap_alloc _ _ g (lt_block hg)) _ 1 1 [.int .u8 ((c - 48 : Nat) : Int)] rfl rfl (Rd.one_ _ _ rfl).add (one_u8 _) (by simp [maxLen]; omega) (by omega) (by simp; omega) ?_; intro v3 w3 ho3 hg3 _; obtain ⟨A3, L3, C3, hv3⟩ := own_slice1 ho3; subst hv3; obtain ⟨hq3, hRD3, hFr3⟩ := HR.out.grown hg3 ho3 hbW; have hrow3 := HR.out.row; rw [← hq3] at hrow3; have fz3 := frozen_of_row w3 q 3 _ _ hrow3; have lt3 := lt_block hrow3; have q3 : w3.cell? ⟨q, 3, none⟩ = some v := by rw [cell_of_row w3 q 3 _ _ (0, 0) hrow3]; rfl); exact bodyPost_end (v := .tuple #[]) (by simp [results, Tryz.results199, go_sem]) rfl ⟨rfl, _, _, rfl, hRD3, hF.trans hFr3⟩
  · go_enter Tryz.func199, Tryz.ntmps199; go_upto_region 2 with fail; refine wp_world fun W hW => ?_; (have hR : RD base q 7 neg npow ds beh pow v W := by rw [hW]; exact HR.out.set0 7); (have hF : Fr base w W := by rw [hW]; exact HR.out.fr _ _); clear hW HR c0 c1 c2 c3 c4 c5 f0 f4 f5 lq hbw; obtain ⟨c0, c1, c2, c3, c4, c5⟩ := hR.at; have f5 := hR.fz 5; have lq := hR.lt; have HR := Lib.hid hR; clear hR; by_cases hp : pow < 100000
    · have hd : decide ((pow : Int) < 100000) = true := decide_eq_true (by omega)
      have HP := Lib.hid hp
      clear hp
      go_wp2_with fail
      refine bodyPost_ret (v := .tuple #[]) (by simp [results, Tryz.results199, go_sem]) rfl ⟨rfl, ⟨7, neg, npow, ds, beh, pow * 10 + (c - 48)⟩, v, by simp [digS, HP.out], ?_, hF.trans (HR.out.fr _ _)⟩
      have := HR.out.set5 (pow * 10 + (c - 48))
      rw [Int.natCast_add, Int.natCast_mul] at this
      exact this
    · have hd : decide ((pow : Int) < 100000) = false := decide_eq_false (by omega)
      have HP := Lib.hid hp
      clear hp
      go_wp2_with fail
      exact bodyPost_ret (v := .tuple #[]) (by simp [results, Tryz.results199, go_sem]) rfl ⟨rfl, ⟨7, neg, npow, ds, beh, pow⟩, v, by simp [digS, HP.out], HR.out, hF⟩
  · go_enter Tryz.func199, Tryz.ntmps199; go_upto_region 2 with fail; refine wp_world fun W hW => ?_; (have hR : RD base q 7 neg npow ds beh pow v W := by rw [hW]; exact HR.out.set0 7); (have hF : Fr base w W := by rw [hW]; exact HR.out.fr _ _); clear hW HR c0 c1 c2 c3 c4 c5 f0 f4 f5 lq hbw; obtain ⟨c0, c1, c2, c3, c4, c5⟩ := hR.at; have f5 := hR.fz 5; have lq := hR.lt; have HR := Lib.hid hR; clear hR; by_cases hp : pow < 100000
    · have hd : decide ((pow : Int) < 100000) = true := decide_eq_true (by omega)
      have HP := Lib.hid hp
      clear hp
      go_wp2_with fail
      refine bodyPost_ret (v := .tuple #[]) (by simp [results, Tryz.results199, go_sem]) rfl ⟨rfl, ⟨7, neg, npow, ds, beh, pow * 10 + (c - 48)⟩, v, by simp [digS, HP.out], ?_, hF.trans (HR.out.fr _ _)⟩
      have := HR.out.set5 (pow * 10 + (c - 48))
      rw [Int.natCast_add, Int.natCast_mul] at this
      exact this
    · have hd : decide ((pow : Int) < 100000) = false := decide_eq_false (by omega)
      have HP := Lib.hid hp
      clear hp
      go_wp2_with fail
      exact bodyPost_ret (v := .tuple #[]) (by simp [results, Tryz.results199, go_sem]) rfl ⟨rfl, ⟨7, neg, npow, ds, beh, pow⟩, v, by simp [digS, HP.out], HR.out, hF⟩
  · go_enter Tryz.func199, Tryz.ntmps199; go_upto_region 2 with fail; refine wp_world fun W hW => ?_; (have hR : RD base q 7 neg npow ds beh pow v W := by rw [hW]; exact HR.out.set0 7); (have hF : Fr base w W := by rw [hW]; exact HR.out.fr _ _); clear hW HR c0 c1 c2 c3 c4 c5 f0 f4 f5 lq hbw; obtain ⟨c0, c1, c2, c3, c4, c5⟩ := hR.at; have f5 := hR.fz 5; have lq := hR.lt; have HR := Lib.hid hR; clear hR; by_cases hp : pow < 100000
    · have hd : decide ((pow : Int) < 100000) = true := decide_eq_true (by omega)
      have HP := Lib.hid hp
      clear hp
      go_wp2_with fail
      refine bodyPost_ret (v := .tuple #[]) (by simp [results, Tryz.results199, go_sem]) rfl ⟨rfl, ⟨7, neg, npow, ds, beh, pow * 10 + (c - 48)⟩, v, by simp [digS, HP.out], ?_, hF.trans (HR.out.fr _ _)⟩
      have := HR.out.set5 (pow * 10 + (c - 48))
      rw [Int.natCast_add, Int.natCast_mul] at this
      exact this
    · have hd : decide ((pow : Int) < 100000) = false := decide_eq_false (by omega)
      have HP := Lib.hid hp
      clear hp
      go_wp2_with fail
      exact bodyPost_ret (v := .tuple #[]) (by simp [results, Tryz.results199, go_sem]) rfl ⟨rfl, ⟨7, neg, npow, ds, beh, pow⟩, v, by simp [digS, HP.out], HR.out, hF⟩
end Go.Proofs.YtmjmijjbijlhfaaGreatDoor
namespace Go.Proofs.YtmjmijjbijlhfaaGreatDoor
open Go.RowKit NM
set_option maxHeartbeats 1000000 in
theorem take_any (base q st : Nat) (neg npow : Bool) (ds : List Nat) (beh pow c : Nat) (v : Value) (w : World) (h : RD base q st neg npow ds beh pow v w) (hbw : base ≤ w.heap.size) (hst : st ≤ 7) (hds : ds.length ≤ 300) (hbeh : beh ≤ 300) (hpow : pow ≤ 1000000) :
    Calls Tryz.prog 176 #[.pointer (some ⟨q, 0, none⟩), .int .i32 (c : Int)] w fun r w' => r = .returned (.bool (takeS ⟨st, neg, npow, ds, beh, pow⟩ c).isSome) ∧ Fr base w w' ∧ ∀ s', takeS ⟨st, neg, npow, ds, beh, pow⟩ c = some s' → ∃ v', RD base q s'.st s'.neg s'.npow s'.ds s'.beh s'.pow v' w' := by
  obtain ⟨c0, c1, c2, c3, c4, c5⟩ := h.at
  have f0 := h.fz 0
  have f1 := h.fz 1
  have f2 := h.fz 2
  have lq := h.lt
  by_cases hd : 48 ≤ c ∧ c ≤ 57
  · have hdg := digit_any base q st neg npow ds beh pow c v w h hbw hd hst hds hbeh hpow
    have hS : takeS ⟨st, neg, npow, ds, beh, pow⟩ c = some (digS ⟨st, neg, npow, ds, beh, pow⟩ c) := by unfold takeS isD; rw [if_pos (decide_eq_true hd)]
    have g1 : decide (48 ≤ (c : Int)) = true := decide_eq_true (by omega)
    have g2 : decide ((c : Int) ≤ 57) = true := decide_eq_true (by omega)
    have HS := Lib.hid hS
    clear h hS
    go_enter Tryz.func176, Tryz.ntmps176
    go_wp2_with (go_at_call 199; (with_reducible refine hdg.mono ?_); rintro e w' ⟨rfl, s', v', hs, hrd, hfr⟩)
    exact bodyPost_ret (v := .bool true) (by simp [results, Tryz.results176, go_sem]) rfl ⟨by rw [HS.out]; rfl, hfr, fun s'' h'' => by rw [HS.out] at h''; cases h''; rw [hs]; exact ⟨v', hrd⟩⟩
  · have HR := Lib.hid h
    have hst0 : (st = 0 ∨ st = 1 ∨ st = 2 ∨ st = 3 ∨ st = 4 ∨ st = 5 ∨ st = 6 ∨ st = 7) := by omega
    clear h
    by_cases h45 : c = 45
    · subst h45
      clear hd
      rcases hst0 with rfl | rfl | rfl | rfl | rfl | rfl | rfl | rfl
      · have HS : Hid (takeS ⟨0, neg, npow, ds, beh, pow⟩ 45 = some ⟨1, true, npow, ds, beh, pow⟩) := by show takeS _ _ = _; simp [takeS, isD]
        (go_enter Tryz.func176, Tryz.ntmps176; go_wp2_with fail; exact bodyPost_ret (v := .bool true) (by simp [results, Tryz.results176, go_sem]) rfl ⟨by rw [HS.out]; rfl, (HR.out.fr _ _).trans ((HR.out.set1 true).fr _ _), fun s' hs => by rw [HS.out] at hs; cases hs; exact ⟨v, (HR.out.set1 true).set0 1⟩⟩)
      · have HS : Hid (takeS ⟨1, neg, npow, ds, beh, pow⟩ 45 = none) := by show takeS _ _ = _; simp [takeS, isD]
        (go_enter Tryz.func176, Tryz.ntmps176; go_wp2_with fail; exact bodyPost_ret (v := .bool false) (by simp [results, Tryz.results176, go_sem]) rfl ⟨by rw [HS.out]; rfl, Fr.refl _ _, fun s' hs => by rw [HS.out] at hs; cases hs⟩)
      · have HS : Hid (takeS ⟨2, neg, npow, ds, beh, pow⟩ 45 = none) := by show takeS _ _ = _; simp [takeS, isD]
        (go_enter Tryz.func176, Tryz.ntmps176; go_wp2_with fail; exact bodyPost_ret (v := .bool false) (by simp [results, Tryz.results176, go_sem]) rfl ⟨by rw [HS.out]; rfl, Fr.refl _ _, fun s' hs => by rw [HS.out] at hs; cases hs⟩)
      · have HS : Hid (takeS ⟨3, neg, npow, ds, beh, pow⟩ 45 = none) := by show takeS _ _ = _; simp [takeS, isD]
        (go_enter Tryz.func176, Tryz.ntmps176; go_wp2_with fail; exact bodyPost_ret (v := .bool false) (by simp [results, Tryz.results176, go_sem]) rfl ⟨by rw [HS.out]; rfl, Fr.refl _ _, fun s' hs => by rw [HS.out] at hs; cases hs⟩)
      · have HS : Hid (takeS ⟨4, neg, npow, ds, beh, pow⟩ 45 = none) := by show takeS _ _ = _; simp [takeS, isD]
        (go_enter Tryz.func176, Tryz.ntmps176; go_wp2_with fail; exact bodyPost_ret (v := .bool false) (by simp [results, Tryz.results176, go_sem]) rfl ⟨by rw [HS.out]; rfl, Fr.refl _ _, fun s' hs => by rw [HS.out] at hs; cases hs⟩)
      · have HS : Hid (takeS ⟨5, neg, npow, ds, beh, pow⟩ 45 = some ⟨6, neg, true, ds, beh, pow⟩) := by show takeS _ _ = _; simp [takeS, isD]
        (go_enter Tryz.func176, Tryz.ntmps176; go_wp2_with fail; exact bodyPost_ret (v := .bool true) (by simp [results, Tryz.results176, go_sem]) rfl ⟨by rw [HS.out]; rfl, (HR.out.fr _ _).trans ((HR.out.set2 true).fr _ _), fun s' hs => by rw [HS.out] at hs; cases hs; exact ⟨v, (HR.out.set2 true).set0 6⟩⟩)
      · have HS : Hid (takeS ⟨6, neg, npow, ds, beh, pow⟩ 45 = none) := by show takeS _ _ = _; simp [takeS, isD]
        (go_enter Tryz.func176, Tryz.ntmps176; go_wp2_with fail; exact bodyPost_ret (v := .bool false) (by simp [results, Tryz.results176, go_sem]) rfl ⟨by rw [HS.out]; rfl, Fr.refl _ _, fun s' hs => by rw [HS.out] at hs; cases hs⟩)
      · have HS : Hid (takeS ⟨7, neg, npow, ds, beh, pow⟩ 45 = none) := by show takeS _ _ = _; simp [takeS, isD]
        (go_enter Tryz.func176, Tryz.ntmps176; go_wp2_with fail; exact bodyPost_ret (v := .bool false) (by simp [results, Tryz.results176, go_sem]) rfl ⟨by rw [HS.out]; rfl, Fr.refl _ _, fun s' hs => by rw [HS.out] at hs; cases hs⟩)
    by_cases h43 : c = 43
    · subst h43
      clear hd
      rcases hst0 with rfl | rfl | rfl | rfl | rfl | rfl | rfl | rfl
      · have HS : Hid (takeS ⟨0, neg, npow, ds, beh, pow⟩ 43 = none) := by show takeS _ _ = _; simp [takeS, isD]
        (go_enter Tryz.func176, Tryz.ntmps176; go_wp2_with fail; exact bodyPost_ret (v := .bool false) (by simp [results, Tryz.results176, go_sem]) rfl ⟨by rw [HS.out]; rfl, Fr.refl _ _, fun s' hs => by rw [HS.out] at hs; cases hs⟩)
      · have HS : Hid (takeS ⟨1, neg, npow, ds, beh, pow⟩ 43 = none) := by show takeS _ _ = _; simp [takeS, isD]
        (go_enter Tryz.func176, Tryz.ntmps176; go_wp2_with fail; exact bodyPost_ret (v := .bool false) (by simp [results, Tryz.results176, go_sem]) rfl ⟨by rw [HS.out]; rfl, Fr.refl _ _, fun s' hs => by rw [HS.out] at hs; cases hs⟩)
      · have HS : Hid (takeS ⟨2, neg, npow, ds, beh, pow⟩ 43 = none) := by show takeS _ _ = _; simp [takeS, isD]
        (go_enter Tryz.func176, Tryz.ntmps176; go_wp2_with fail; exact bodyPost_ret (v := .bool false) (by simp [results, Tryz.results176, go_sem]) rfl ⟨by rw [HS.out]; rfl, Fr.refl _ _, fun s' hs => by rw [HS.out] at hs; cases hs⟩)
      · have HS : Hid (takeS ⟨3, neg, npow, ds, beh, pow⟩ 43 = none) := by show takeS _ _ = _; simp [takeS, isD]
        (go_enter Tryz.func176, Tryz.ntmps176; go_wp2_with fail; exact bodyPost_ret (v := .bool false) (by simp [results, Tryz.results176, go_sem]) rfl ⟨by rw [HS.out]; rfl, Fr.refl _ _, fun s' hs => by rw [HS.out] at hs; cases hs⟩)
      · have HS : Hid (takeS ⟨4, neg, npow, ds, beh, pow⟩ 43 = none) := by show takeS _ _ = _; simp [takeS, isD]
        (go_enter Tryz.func176, Tryz.ntmps176; go_wp2_with fail; exact bodyPost_ret (v := .bool false) (by simp [results, Tryz.results176, go_sem]) rfl ⟨by rw [HS.out]; rfl, Fr.refl _ _, fun s' hs => by rw [HS.out] at hs; cases hs⟩)
      · have HS : Hid (takeS ⟨5, neg, npow, ds, beh, pow⟩ 43 = some ⟨6, neg, false, ds, beh, pow⟩) := by show takeS _ _ = _; simp [takeS, isD]
        (go_enter Tryz.func176, Tryz.ntmps176; go_wp2_with fail; exact bodyPost_ret (v := .bool true) (by simp [results, Tryz.results176, go_sem]) rfl ⟨by rw [HS.out]; rfl, (HR.out.fr _ _).trans ((HR.out.set2 false).fr _ _), fun s' hs => by rw [HS.out] at hs; cases hs; exact ⟨v, (HR.out.set2 false).set0 6⟩⟩)
      · have HS : Hid (takeS ⟨6, neg, npow, ds, beh, pow⟩ 43 = none) := by show takeS _ _ = _; simp [takeS, isD]
        (go_enter Tryz.func176, Tryz.ntmps176; go_wp2_with fail; exact bodyPost_ret (v := .bool false) (by simp [results, Tryz.results176, go_sem]) rfl ⟨by rw [HS.out]; rfl, Fr.refl _ _, fun s' hs => by rw [HS.out] at hs; cases hs⟩)
      · have HS : Hid (takeS ⟨7, neg, npow, ds, beh, pow⟩ 43 = none) := by show takeS _ _ = _; simp [takeS, isD]
        (go_enter Tryz.func176, Tryz.ntmps176; go_wp2_with fail; exact bodyPost_ret (v := .bool false) (by simp [results, Tryz.results176, go_sem]) rfl ⟨by rw [HS.out]; rfl, Fr.refl _ _, fun s' hs => by rw [HS.out] at hs; cases hs⟩)
    by_cases h46 : c = 46
    · subst h46
      clear hd
      rcases hst0 with rfl | rfl | rfl | rfl | rfl | rfl | rfl | rfl
      · have HS : Hid (takeS ⟨0, neg, npow, ds, beh, pow⟩ 46 = some ⟨3, neg, npow, ds, beh, pow⟩) := by show takeS _ _ = _; simp [takeS, isD]
        (go_enter Tryz.func176, Tryz.ntmps176; go_wp2_with fail; exact bodyPost_ret (v := .bool true) (by simp [results, Tryz.results176, go_sem]) rfl ⟨by rw [HS.out]; rfl, HR.out.fr _ _, fun s' hs => by rw [HS.out] at hs; cases hs; exact ⟨v, HR.out.set0 3⟩⟩)
      · have HS : Hid (takeS ⟨1, neg, npow, ds, beh, pow⟩ 46 = some ⟨3, neg, npow, ds, beh, pow⟩) := by show takeS _ _ = _; simp [takeS, isD]
        (go_enter Tryz.func176, Tryz.ntmps176; go_wp2_with fail; exact bodyPost_ret (v := .bool true) (by simp [results, Tryz.results176, go_sem]) rfl ⟨by rw [HS.out]; rfl, HR.out.fr _ _, fun s' hs => by rw [HS.out] at hs; cases hs; exact ⟨v, HR.out.set0 3⟩⟩)
      · have HS : Hid (takeS ⟨2, neg, npow, ds, beh, pow⟩ 46 = some ⟨3, neg, npow, ds, beh, pow⟩) := by show takeS _ _ = _; simp [takeS, isD]
        (go_enter Tryz.func176, Tryz.ntmps176; go_wp2_with fail; exact bodyPost_ret (v := .bool true) (by simp [results, Tryz.results176, go_sem]) rfl ⟨by rw [HS.out]; rfl, HR.out.fr _ _, fun s' hs => by rw [HS.out] at hs; cases hs; exact ⟨v, HR.out.set0 3⟩⟩)
      · have HS : Hid (takeS ⟨3, neg, npow, ds, beh, pow⟩ 46 = none) := by show takeS _ _ = _; simp [takeS, isD]
        (go_enter Tryz.func176, Tryz.ntmps176; go_wp2_with fail; exact bodyPost_ret (v := .bool false) (by simp [results, Tryz.results176, go_sem]) rfl ⟨by rw [HS.out]; rfl, Fr.refl _ _, fun s' hs => by rw [HS.out] at hs; cases hs⟩)
      · have HS : Hid (takeS ⟨4, neg, npow, ds, beh, pow⟩ 46 = none) := by show takeS _ _ = _; simp [takeS, isD]
        (go_enter Tryz.func176, Tryz.ntmps176; go_wp2_with fail; exact bodyPost_ret (v := .bool false) (by simp [results, Tryz.results176, go_sem]) rfl ⟨by rw [HS.out]; rfl, Fr.refl _ _, fun s' hs => by rw [HS.out] at hs; cases hs⟩)
      · have HS : Hid (takeS ⟨5, neg, npow, ds, beh, pow⟩ 46 = none) := by show takeS _ _ = _; simp [takeS, isD]
        (go_enter Tryz.func176, Tryz.ntmps176; go_wp2_with fail; exact bodyPost_ret (v := .bool false) (by simp [results, Tryz.results176, go_sem]) rfl ⟨by rw [HS.out]; rfl, Fr.refl _ _, fun s' hs => by rw [HS.out] at hs; cases hs⟩)
      · have HS : Hid (takeS ⟨6, neg, npow, ds, beh, pow⟩ 46 = none) := by show takeS _ _ = _; simp [takeS, isD]
        (go_enter Tryz.func176, Tryz.ntmps176; go_wp2_with fail; exact bodyPost_ret (v := .bool false) (by simp [results, Tryz.results176, go_sem]) rfl ⟨by rw [HS.out]; rfl, Fr.refl _ _, fun s' hs => by rw [HS.out] at hs; cases hs⟩)
      · have HS : Hid (takeS ⟨7, neg, npow, ds, beh, pow⟩ 46 = none) := by show takeS _ _ = _; simp [takeS, isD]
        (go_enter Tryz.func176, Tryz.ntmps176; go_wp2_with fail; exact bodyPost_ret (v := .bool false) (by simp [results, Tryz.results176, go_sem]) rfl ⟨by rw [HS.out]; rfl, Fr.refl _ _, fun s' hs => by rw [HS.out] at hs; cases hs⟩)
    by_cases h101 : c = 101
    · subst h101
      clear hd
      rcases hst0 with rfl | rfl | rfl | rfl | rfl | rfl | rfl | rfl
      · have HS : Hid (takeS ⟨0, neg, npow, ds, beh, pow⟩ 101 = none) := by show takeS _ _ = _; simp [takeS, isD]
        (go_enter Tryz.func176, Tryz.ntmps176; go_wp2_with fail; exact bodyPost_ret (v := .bool false) (by simp [results, Tryz.results176, go_sem]) rfl ⟨by rw [HS.out]; rfl, Fr.refl _ _, fun s' hs => by rw [HS.out] at hs; cases hs⟩)
      · have HS : Hid (takeS ⟨1, neg, npow, ds, beh, pow⟩ 101 = none) := by show takeS _ _ = _; simp [takeS, isD]
        (go_enter Tryz.func176, Tryz.ntmps176; go_wp2_with fail; exact bodyPost_ret (v := .bool false) (by simp [results, Tryz.results176, go_sem]) rfl ⟨by rw [HS.out]; rfl, Fr.refl _ _, fun s' hs => by rw [HS.out] at hs; cases hs⟩)
      · have HS : Hid (takeS ⟨2, neg, npow, ds, beh, pow⟩ 101 = some ⟨5, neg, npow, ds, beh, pow⟩) := by show takeS _ _ = _; simp [takeS, isD]
        (go_enter Tryz.func176, Tryz.ntmps176; go_wp2_with fail; exact bodyPost_ret (v := .bool true) (by simp [results, Tryz.results176, go_sem]) rfl ⟨by rw [HS.out]; rfl, HR.out.fr _ _, fun s' hs => by rw [HS.out] at hs; cases hs; exact ⟨v, HR.out.set0 5⟩⟩)
      · have HS : Hid (takeS ⟨3, neg, npow, ds, beh, pow⟩ 101 = none) := by show takeS _ _ = _; simp [takeS, isD]
        (go_enter Tryz.func176, Tryz.ntmps176; go_wp2_with fail; exact bodyPost_ret (v := .bool false) (by simp [results, Tryz.results176, go_sem]) rfl ⟨by rw [HS.out]; rfl, Fr.refl _ _, fun s' hs => by rw [HS.out] at hs; cases hs⟩)
      · have HS : Hid (takeS ⟨4, neg, npow, ds, beh, pow⟩ 101 = some ⟨5, neg, npow, ds, beh, pow⟩) := by show takeS _ _ = _; simp [takeS, isD]
        (go_enter Tryz.func176, Tryz.ntmps176; go_wp2_with fail; exact bodyPost_ret (v := .bool true) (by simp [results, Tryz.results176, go_sem]) rfl ⟨by rw [HS.out]; rfl, HR.out.fr _ _, fun s' hs => by rw [HS.out] at hs; cases hs; exact ⟨v, HR.out.set0 5⟩⟩)
      · have HS : Hid (takeS ⟨5, neg, npow, ds, beh, pow⟩ 101 = none) := by show takeS _ _ = _; simp [takeS, isD]
        (go_enter Tryz.func176, Tryz.ntmps176; go_wp2_with fail; exact bodyPost_ret (v := .bool false) (by simp [results, Tryz.results176, go_sem]) rfl ⟨by rw [HS.out]; rfl, Fr.refl _ _, fun s' hs => by rw [HS.out] at hs; cases hs⟩)
      · have HS : Hid (takeS ⟨6, neg, npow, ds, beh, pow⟩ 101 = none) := by show takeS _ _ = _; simp [takeS, isD]
        (go_enter Tryz.func176, Tryz.ntmps176; go_wp2_with fail; exact bodyPost_ret (v := .bool false) (by simp [results, Tryz.results176, go_sem]) rfl ⟨by rw [HS.out]; rfl, Fr.refl _ _, fun s' hs => by rw [HS.out] at hs; cases hs⟩)
      · have HS : Hid (takeS ⟨7, neg, npow, ds, beh, pow⟩ 101 = none) := by show takeS _ _ = _; simp [takeS, isD]
        (go_enter Tryz.func176, Tryz.ntmps176; go_wp2_with fail; exact bodyPost_ret (v := .bool false) (by simp [results, Tryz.results176, go_sem]) rfl ⟨by rw [HS.out]; rfl, Fr.refl _ _, fun s' hs => by rw [HS.out] at hs; cases hs⟩)
    by_cases h69 : c = 69
    · subst h69
      clear hd
      rcases hst0 with rfl | rfl | rfl | rfl | rfl | rfl | rfl | rfl
      · have HS : Hid (takeS ⟨0, neg, npow, ds, beh, pow⟩ 69 = none) := by show takeS _ _ = _; simp [takeS, isD]
        (go_enter Tryz.func176, Tryz.ntmps176; go_wp2_with fail; exact bodyPost_ret (v := .bool false) (by simp [results, Tryz.results176, go_sem]) rfl ⟨by rw [HS.out]; rfl, Fr.refl _ _, fun s' hs => by rw [HS.out] at hs; cases hs⟩)
      · have HS : Hid (takeS ⟨1, neg, npow, ds, beh, pow⟩ 69 = none) := by show takeS _ _ = _; simp [takeS, isD]
        (go_enter Tryz.func176, Tryz.ntmps176; go_wp2_with fail; exact bodyPost_ret (v := .bool false) (by simp [results, Tryz.results176, go_sem]) rfl ⟨by rw [HS.out]; rfl, Fr.refl _ _, fun s' hs => by rw [HS.out] at hs; cases hs⟩)
      · have HS : Hid (takeS ⟨2, neg, npow, ds, beh, pow⟩ 69 = some ⟨5, neg, npow, ds, beh, pow⟩) := by show takeS _ _ = _; simp [takeS, isD]
        (go_enter Tryz.func176, Tryz.ntmps176; go_wp2_with fail; exact bodyPost_ret (v := .bool true) (by simp [results, Tryz.results176, go_sem]) rfl ⟨by rw [HS.out]; rfl, HR.out.fr _ _, fun s' hs => by rw [HS.out] at hs; cases hs; exact ⟨v, HR.out.set0 5⟩⟩)
      · have HS : Hid (takeS ⟨3, neg, npow, ds, beh, pow⟩ 69 = none) := by show takeS _ _ = _; simp [takeS, isD]
        (go_enter Tryz.func176, Tryz.ntmps176; go_wp2_with fail; exact bodyPost_ret (v := .bool false) (by simp [results, Tryz.results176, go_sem]) rfl ⟨by rw [HS.out]; rfl, Fr.refl _ _, fun s' hs => by rw [HS.out] at hs; cases hs⟩)
      · have HS : Hid (takeS ⟨4, neg, npow, ds, beh, pow⟩ 69 = some ⟨5, neg, npow, ds, beh, pow⟩) := by show takeS _ _ = _; simp [takeS, isD]
        (go_enter Tryz.func176, Tryz.ntmps176; go_wp2_with fail; exact bodyPost_ret (v := .bool true) (by simp [results, Tryz.results176, go_sem]) rfl ⟨by rw [HS.out]; rfl, HR.out.fr _ _, fun s' hs => by rw [HS.out] at hs; cases hs; exact ⟨v, HR.out.set0 5⟩⟩)
      · have HS : Hid (takeS ⟨5, neg, npow, ds, beh, pow⟩ 69 = none) := by show takeS _ _ = _; simp [takeS, isD]
        (go_enter Tryz.func176, Tryz.ntmps176; go_wp2_with fail; exact bodyPost_ret (v := .bool false) (by simp [results, Tryz.results176, go_sem]) rfl ⟨by rw [HS.out]; rfl, Fr.refl _ _, fun s' hs => by rw [HS.out] at hs; cases hs⟩)
      · have HS : Hid (takeS ⟨6, neg, npow, ds, beh, pow⟩ 69 = none) := by show takeS _ _ = _; simp [takeS, isD]
        (go_enter Tryz.func176, Tryz.ntmps176; go_wp2_with fail; exact bodyPost_ret (v := .bool false) (by simp [results, Tryz.results176, go_sem]) rfl ⟨by rw [HS.out]; rfl, Fr.refl _ _, fun s' hs => by rw [HS.out] at hs; cases hs⟩)
      · have HS : Hid (takeS ⟨7, neg, npow, ds, beh, pow⟩ 69 = none) := by show takeS _ _ = _; simp [takeS, isD]
        (go_enter Tryz.func176, Tryz.ntmps176; go_wp2_with fail; exact bodyPost_ret (v := .bool false) (by simp [results, Tryz.results176, go_sem]) rfl ⟨by rw [HS.out]; rfl, Fr.refl _ _, fun s' hs => by rw [HS.out] at hs; cases hs⟩)
    have HS : Hid (takeS ⟨st, neg, npow, ds, beh, pow⟩ c = none) := by
      show takeS _ _ = _
      unfold takeS isD
      rw [if_neg (by rw [decide_eq_true_eq]; exact hd), if_neg (by omega), if_neg (by omega), if_neg (by omega), if_neg (by omega)]
    have e1 : ((c : Int) == 45) = false := by simp; omega
    have e2 : ((c : Int) == 46) = false := by simp; omega
    have e3 : ((c : Int) == 101) = false := by simp; omega
    have e4 : ((c : Int) == 69) = false := by simp; omega
    have e5 : ((c : Int) == 43) = false := by simp; omega
    by_cases h48 : 48 ≤ c
    · have g1 : decide (48 ≤ (c : Int)) = true := decide_eq_true (by omega)
      have g2 : decide ((c : Int) ≤ 57) = false := decide_eq_false (by omega)
      clear hd h45 h43 h46 h101 h69 h48 hst0
      (go_enter Tryz.func176, Tryz.ntmps176; go_wp2_with fail; exact bodyPost_ret (v := .bool false) (by simp [results, Tryz.results176, go_sem]) rfl ⟨by rw [HS.out]; rfl, Fr.refl _ _, fun s' hs => by rw [HS.out] at hs; cases hs⟩)
    · have g1 : decide (48 ≤ (c : Int)) = false := decide_eq_false (by omega)
      clear hd h45 h43 h46 h101 h69 h48 hst0
      (go_enter Tryz.func176, Tryz.ntmps176; go_wp2_with fail; exact bodyPost_ret (v := .bool false) (by simp [results, Tryz.results176, go_sem]) rfl ⟨by rw [HS.out]; rfl, Fr.refl _ _, fun s' hs => by rw [HS.out] at hs; cases hs⟩)
end Go.Proofs.YtmjmijjbijlhfaaGreatDoor
