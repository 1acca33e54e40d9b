/- What the rows' proofs lean on: the contracts of the functions that they reach, and plain facts (part F4). -/
import Derived.WalkKit
import Derived.WalkLawsBesides
import Derived.WalkSpells
import Derived.Outline
import Derived.Below
import Derived.Deep.RegionHeld3
import Derived.Deep.DeepCutAuto
import Derived.Deep.AppendLies
import Derived.Maps.AppendAt
import Derived.Lib.Hide
import Derived.OrdersHeld
import Derived.Test.YteigcfflljoioaaGreatDoorProg
import Derived.Shelf.Strings.Builder1
import Derived.Shelf.Strings.Builder2
import Derived.Shelf.Small.Bits
import Derived.Shelf.Small.Strs
import Derived.Shelf.Strings.BuilderF
import Derived.Shelf.Strconv.Itoa0
import Derived.Shelf.Strconv.Itoa1
import Derived.Shelf.LaysM
import Derived.Shelf.Strconv.Itoa2
import Derived.Shelf.Strings.Prefix
import Derived.Shelf.Bits.Mul64
import Derived.Shelf.Strings.Repeat
import Derived.Lib.ItoaMem
import Derived.Lib.OthersKept
import Derived.Deep.CutBlock
import Derived.Laws.Bits64b
import Derived.Lib.AppendZeros
import Derived.Lib.Bytealg
import Derived.Laws.RangeAny
import Derived.Lib.ConvBytes
import Derived.Lib.SlBytesRow
import Derived.Lib.SmallJoins
import Derived.RegionTactic
import Derived.Maps.OwnSet
import Derived.Maps.Own
import Derived.Laws.EntriesVeiled
import Derived.Test.YteigcfflljoioaaGreatDoorRows
import Derived.Test.YteigcfflljoioaaGreatDoorCards
import Derived.Test.YteigcfflljoioaaGreatDoorTie
import Derived.ProofKit
import Derived.LaidMore
import Derived.OpenShut
import Derived.ShutString
import Derived.ChangeOld
import Derived.Stop.Joined
import Derived.Deep.Slices
import Derived.SevenTiedAt
import Derived.Test.YteigcfflljoioaaGreatDoorF3
set_option linter.unusedSimpArgs false
set_option linter.unusedVariables false
set_option maxRecDepth 100000
namespace Go.Proofs.YteigcfflljoioaaGreatDoor
open Go.RowKit NM
set_option maxHeartbeats 1000000 in
theorem quotient_any (x y : Val) (w : World) (htab : Tab w) (hx : x.right) (hy : y.right) (z : Val) (hz : quotV x y = z) :
    Calls Tryz.prog 80 #[VV x.kind x.mant x.exp x.text x.truth x.fault, VV y.kind y.mant y.exp y.text y.truth y.fault] w fun e w' => e = .returned (VV z.kind z.mant z.exp z.text z.truth z.fault) ∧ Ext w w' := by
  have hnb := fun W => numbers_any x y W hx hy
  have HT := Lib.hid htab
  clear htab
  by_cases h1 : tnF x = 0
  · by_cases h2 : tnF y = 0
    · have hnv : nbV x y = .tuple #[NV (tnP x).1 (tnP x).2, NV (tnP y).1 (tnP y).2, .int .i64 0] := by unfold nbV; simp [h1, h2]
      rw [hnv] at hnb
      have rx := tn_rt hx
      have ry := tn_rt hy
      by_cases h0 : (tnP y).1 = 0
      · obtain rfl : z = badV 1 := by rw [← hz]; unfold quotV; simp [h1, h2, h0]
        have hbad := fun W => bad_any 1 W
        rw [show badF 1 = 1 by decide] at hbad
        have q1 : ((tnP y).1 == 0) = true := by simp [h0]
        simp only [badV]
        clear h1 h2 hnv hz hx hy rx ry h0
        generalize (tnP x).1 = a at *
        generalize (tnP x).2 = b at *
        generalize (tnP y).1 = c at *
        generalize (tnP y).2 = d at *
        generalize x.kind = xk at *; generalize x.mant = xm at *; generalize x.exp = xe at *; generalize x.text = xt at *; generalize x.truth = xb at *; generalize x.fault = xf at *
        generalize y.kind = yk at *; generalize y.mant = ym at *; generalize y.exp = ye at *; generalize y.text = yt at *; generalize y.truth = yb at *; generalize y.fault = yf at *
        go_enter Tryz.func80, Tryz.ntmps80
        go_wp2_with (first | (go_at_call 109; (with_reducible refine (hnb _).mono ?_); rintro e w' ⟨rfl, hb⟩; obtain ⟨os, d, rfl⟩ := hb.more; clear hb) | (go_at_call 74; (with_reducible refine (hbad _).mono ?_); rintro e w' ⟨rfl, hb⟩; obtain ⟨os, d, rfl⟩ := hb.more; clear hb))
        exact bodyPost_ret (v := VV 4 0 0 ⟨#[]⟩ false 1) (by simp [results, Tryz.results80, go_sem]) rfl ⟨rfl, by with_reducible repeat (first | exact Ext.refl _ | apply Ext.drew | apply Ext.alloc | apply Ext.more_)⟩
      · have hzz : z = numRes (divS (tnP x).1 (tnP x).2 (tnP y).1 (tnP y).2) := by rw [← hz]; unfold quotV; simp [h1, h2, h0]
        have hfn := fun W hW => fn_div (tnP x).1 (tnP x).2 (tnP y).1 (tnP y).2 W hW (Rt_i64 rx).1 (Rt_i64 ry).1
        have htd := fun W => oper_told_any (divS (tnP x).1 (tnP x).2 (tnP y).1 (tnP y).2) W
        rw [← hzz] at htd
        have q1 : ((tnP y).1 == 0) = false := by simp [h0]
        clear h1 h2 hnv hz hx hy rx ry h0 hzz
        generalize divS (tnP x).1 (tnP x).2 (tnP y).1 (tnP y).2 = R at *
        generalize (tnP x).1 = a at *
        generalize (tnP x).2 = b at *
        generalize (tnP y).1 = c at *
        generalize (tnP y).2 = d at *
        simp only [rnV] at hfn
        generalize x.kind = xk at *; generalize x.mant = xm at *; generalize x.exp = xe at *; generalize x.text = xt at *; generalize x.truth = xb at *; generalize x.fault = xf at *
        generalize y.kind = yk at *; generalize y.mant = ym at *; generalize y.exp = ye at *; generalize y.text = yt at *; generalize y.truth = yb at *; generalize y.fault = yf at *
        generalize z.kind = zk at *; generalize z.mant = zm at *; generalize z.exp = ze at *; generalize z.text = zt at *; generalize z.truth = zb at *; generalize z.fault = zf at *
        go_enter Tryz.func80, Tryz.ntmps80
        go_wp2_with (first | (go_at_call 109; (with_reducible refine (hnb _).mono ?_); rintro e w' ⟨rfl, hb⟩; obtain ⟨os, d, rfl⟩ := hb.more; clear hb) | (go_at_call 60; (with_reducible refine (hfn _ (HT.out.ext (by with_reducible repeat (first | exact Ext.refl _ | apply Ext.drew | apply Ext.alloc | apply Ext.more_)))).mono ?_); rintro e w' ⟨rfl, hb⟩; obtain ⟨os, d, rfl⟩ := hb.more; clear hb) | (go_at_call 110; (with_reducible refine (htd _).mono ?_); rintro e w' ⟨rfl, hb⟩; obtain ⟨os, d, rfl⟩ := hb.more; clear hb))
        exact bodyPost_ret (v := VV zk zm ze zt zb zf) (by simp [results, Tryz.results80, go_sem]) rfl ⟨rfl, by with_reducible repeat (first | exact Ext.refl _ | apply Ext.drew | apply Ext.alloc | apply Ext.more_)⟩
    · have hnv : nbV x y = .tuple #[NV 0 0, NV 0 0, .int .i64 (tnF y)] := by unfold nbV; simp [h1, h2]
      rw [hnv] at hnb
      obtain rfl : z = bad_ (tnF y) := by rw [← hz]; unfold quotV; simp [h1, h2]
      have h1' := h1
      clear h1
      have h1 : tnF y ≠ 0 := h2
      have hbad := fun W => bad_any (tnF y) W
      have q0 : (tnF y != 0) = true := by simpa using h1
      generalize tnF y = f at *
      simp only [bad_, badV]
      clear h1 h1' h2 hnv hz hx hy
      generalize x.kind = xk at *; generalize x.mant = xm at *; generalize x.exp = xe at *; generalize x.text = xt at *; generalize x.truth = xb at *; generalize x.fault = xf at *
      generalize y.kind = yk at *; generalize y.mant = ym at *; generalize y.exp = ye at *; generalize y.text = yt at *; generalize y.truth = yb at *; generalize y.fault = yf at *
      go_enter Tryz.func80, Tryz.ntmps80
      go_wp2_with (first | (go_at_call 109; (with_reducible refine (hnb _).mono ?_); rintro e w' ⟨rfl, hb⟩; obtain ⟨os, d, rfl⟩ := hb.more; clear hb) | (go_at_call 74; (with_reducible refine (hbad _).mono ?_); rintro e w' ⟨rfl, hb⟩; obtain ⟨os, d, rfl⟩ := hb.more; clear hb))
      exact bodyPost_ret (v := VV 4 0 0 ⟨#[]⟩ false (badF f)) (by simp [results, Tryz.results80, go_sem]) rfl ⟨rfl, by with_reducible repeat (first | exact Ext.refl _ | apply Ext.drew | apply Ext.alloc | apply Ext.more_)⟩
  · have hnv : nbV x y = .tuple #[NV 0 0, NV 0 0, .int .i64 (tnF x)] := by unfold nbV; simp [h1]
    rw [hnv] at hnb
    obtain rfl : z = bad_ (tnF x) := by rw [← hz]; unfold quotV; simp [h1]
    have hbad := fun W => bad_any (tnF x) W
    have q0 : (tnF x != 0) = true := by simpa using h1
    generalize tnF x = f at *
    simp only [bad_, badV]
    clear h1 hnv hz hx hy
    generalize x.kind = xk at *; generalize x.mant = xm at *; generalize x.exp = xe at *; generalize x.text = xt at *; generalize x.truth = xb at *; generalize x.fault = xf at *
    generalize y.kind = yk at *; generalize y.mant = ym at *; generalize y.exp = ye at *; generalize y.text = yt at *; generalize y.truth = yb at *; generalize y.fault = yf at *
    go_enter Tryz.func80, Tryz.ntmps80
    go_wp2_with (first | (go_at_call 109; (with_reducible refine (hnb _).mono ?_); rintro e w' ⟨rfl, hb⟩; obtain ⟨os, d, rfl⟩ := hb.more; clear hb) | (go_at_call 74; (with_reducible refine (hbad _).mono ?_); rintro e w' ⟨rfl, hb⟩; obtain ⟨os, d, rfl⟩ := hb.more; clear hb))
    exact bodyPost_ret (v := VV 4 0 0 ⟨#[]⟩ false (badF f)) (by simp [results, Tryz.results80, go_sem]) rfl ⟨rfl, by with_reducible repeat (first | exact Ext.refl _ | apply Ext.drew | apply Ext.alloc | apply Ext.more_)⟩
theorem intGo_i64 : ∀ (k : Nat) (n m : Int), I64 n → intGo n k = some m → I64 m
  | 0, n, m, h, e => by cases e; exact h
  | k + 1, n, m, h, e => by
    unfold intGo at e
    split at e
    · cases e
    · exact intGo_i64 k (n * 10) m (by unfold I64; omega) e
theorem intS_i64 {m e n : Int} (h : intS m e = some n) : I64 n := by
  unfold intS at h
  split at h
  · cases h
  · rename_i h1
    refine intGo_i64 _ m n ?_ h
    have : Rt m e := Decidable.byContradiction fun h2 => h1 (Or.inl h2)
    exact (Rt_i64 this).1
set_option maxHeartbeats 1000000 in
theorem power_op_any (x y : Val) (w : World) (htab : Tab w) (hx : x.right) (hy : y.right) (z : Val) (hz : powV x y = z) :
    Calls Tryz.prog 81 #[VV x.kind x.mant x.exp x.text x.truth x.fault, VV y.kind y.mant y.exp y.text y.truth y.fault] w fun e w' => e = .returned (VV z.kind z.mant z.exp z.text z.truth z.fault) ∧ Ext w w' := by
  have hnb := fun W => numbers_any x y W hx hy
  have HT := Lib.hid htab
  clear htab
  by_cases h1 : tnF x = 0
  · by_cases h2 : tnF y = 0
    · have hnv : nbV x y = .tuple #[NV (tnP x).1 (tnP x).2, NV (tnP y).1 (tnP y).2, .int .i64 0] := by unfold nbV; simp [h1, h2]
      rw [hnv] at hnb
      have rx := tn_rt hx
      have ry := tn_rt hy
      have hfl := fun W => floor_any (tnP y).1 (tnP y).2 W (Rt_i64 ry).1
      have hbad5 := fun W => bad_any 5 W
      rw [show badF 5 = 5 by decide] at hbad5
      by_cases h0 : floorS (tnP y).1 (tnP y).2 = tnP y
      · rw [h0] at hfl
        by_cases h3 : (tnP x).1 = 0 ∧ (tnP y).1 < 0
        · obtain rfl : z = badV 1 := by rw [← hz]; unfold powV; simp [h1, h2, h0, h3]
          have hbad := fun W => bad_any 1 W
          rw [show badF 1 = 1 by decide] at hbad
          simp only [badV]
          obtain ⟨h3, h4⟩ := h3
          have q1 : ((tnP x).1 == 0) = true := by simp [h3]
          clear h1 h2 hnv hz hx hy rx ry h0 h3
          generalize (tnP x).1 = a at *
          generalize (tnP x).2 = b at *
          generalize (tnP y).1 = c at *
          generalize (tnP y).2 = d at *
          generalize x.kind = xk at *; generalize x.mant = xm at *; generalize x.exp = xe at *; generalize x.text = xt at *; generalize x.truth = xb at *; generalize x.fault = xf at *
          generalize y.kind = yk at *; generalize y.mant = ym at *; generalize y.exp = ye at *; generalize y.text = yt at *; generalize y.truth = yb at *; generalize y.fault = yf at *
          go_enter Tryz.func81, Tryz.ntmps81
          go_upto_region 4 with (go_at_call 109; (with_reducible refine (hnb _).mono ?_); rintro e w' ⟨rfl, hb⟩; obtain ⟨os, d, rfl⟩ := hb.more; clear hb)
          refine wp_plan (S := Ext _) [(0, 0), (2, 0), (1, 1), (3, 0), (4, 0)] [] (by kernel_rfl) (by kernel_rfl) (by kernel_rfl) (fun _ _ d _ _ h => by cases d <;> exact h) (Ext.drew (Ext.refl _)) ?_
          iterate 2 ((refine wpPl_read (v := ?_) rfl ?_ (fun _ h => ?_) ?_; rotate_left 1; rfl; (obtain ⟨_, _, rfl⟩ := h.more; go_simp; try rfl)); try simp only [Act.put, zqA, zqB, zqC])
          (refine wpPl_eff rfl ?_ (fun K hK => ?_); rfl; go_simp; refine (hfl _).mono ?_; rintro e w' ⟨rfl, hb⟩; obtain ⟨os4, d4, rfl⟩ := hb.more; clear hb; refine hK _ _ ?_ ?_; (repeat (first | (with_reducible (first | exact Ext.refl _ | exact ext_d _ _ _ _ | exact ext_app _ _ _ _ _ | exact ext_app2 _ _ _ _ _ _ | exact ext_app3 _ _ _ _ _ _ _ | exact ext_app4 _ _ _ _ _ _ _ _ | exact ext_app5 _ _ _ _ _ _ _ _ _)) | ((with_reducible refine ext_suffix ⟨_, ?_⟩); (try simp only [Array.append_assoc]); rfl) | (with_reducible (first | apply Ext.drew | apply Ext.alloc | apply Ext.more_)) | apply Ext.drew | apply Ext.alloc | apply Ext.more_)))
          try simp only [Act.put, zqA, zqB, zqC]
          iterate 2 ((refine wpPl_read (v := ?_) rfl ?_ (fun _ h => ?_) ?_; rotate_left 1; rfl; (obtain ⟨_, _, rfl⟩ := h.more; go_simp; try rfl)); try simp only [Act.put, zqA, zqB, zqC])
          refine wpPl_nil ?_
          go_wp2_with (go_at_call 74; (with_reducible refine (hbad _).mono ?_); rintro e w' ⟨rfl, hb⟩; obtain ⟨os, d, rfl⟩ := hb.more; clear hb)
          exact bodyPost_ret (v := VV 4 0 0 ⟨#[]⟩ false 1) (by simp [results, Tryz.results81, go_sem]) rfl ⟨rfl, by with_reducible repeat (first | exact Ext.refl _ | apply Ext.drew | apply Ext.alloc | apply Ext.more_)⟩
        · have hin := fun W => int_any (tnP y).1 (tnP y).2 W (Rt_i64 ry).1
          have q2 : ((tnP x).1 == 0) = false ∨ ((tnP x).1 == 0) = true ∧ ¬ (tnP y).1 < 0 := by
            by_cases h4 : (tnP x).1 = 0
            · exact Or.inr ⟨by simp [h4], fun h => h3 ⟨h4, h⟩⟩
            · exact Or.inl (by simp [h4])
          cases hI : intS (tnP y).1 (tnP y).2 with
          | none =>
            obtain rfl : z = badV 5 := by rw [← hz]; unfold powV; simp [h1, h2, h0, h3, hI]
            rw [hI] at hin
            simp only [inV, Option.getD_none, Option.isSome_none] at hin
            simp only [badV]
            clear h1 h2 hnv hz hx hy rx ry h0 h3 hI
            generalize (tnP x).1 = a at *
            generalize (tnP x).2 = b at *
            generalize (tnP y).1 = c at *
            generalize (tnP y).2 = d at *
            generalize x.kind = xk at *; generalize x.mant = xm at *; generalize x.exp = xe at *; generalize x.text = xt at *; generalize x.truth = xb at *; generalize x.fault = xf at *
            generalize y.kind = yk at *; generalize y.mant = ym at *; generalize y.exp = ye at *; generalize y.text = yt at *; generalize y.truth = yb at *; generalize y.fault = yf at *
            rcases q2 with q2 | ⟨q2, q3⟩
            · go_enter Tryz.func81, Tryz.ntmps81
              go_upto_region 4 with (go_at_call 109; (with_reducible refine (hnb _).mono ?_); rintro e w' ⟨rfl, hb⟩; obtain ⟨os, d, rfl⟩ := hb.more; clear hb)
              refine wp_plan (S := Ext _) [(0, 0), (2, 0), (1, 1), (3, 0), (4, 0)] [] (by kernel_rfl) (by kernel_rfl) (by kernel_rfl) (fun _ _ d _ _ h => by cases d <;> exact h) (Ext.drew (Ext.refl _)) ?_
              iterate 2 ((refine wpPl_read (v := ?_) rfl ?_ (fun _ h => ?_) ?_; rotate_left 1; rfl; (obtain ⟨_, _, rfl⟩ := h.more; go_simp; try rfl)); try simp only [Act.put, zqA, zqB, zqC])
              (refine wpPl_eff rfl ?_ (fun K hK => ?_); rfl; go_simp; refine (hfl _).mono ?_; rintro e w' ⟨rfl, hb⟩; obtain ⟨os4, d4, rfl⟩ := hb.more; clear hb; refine hK _ _ ?_ ?_; (repeat (first | (with_reducible (first | exact Ext.refl _ | exact ext_d _ _ _ _ | exact ext_app _ _ _ _ _ | exact ext_app2 _ _ _ _ _ _ | exact ext_app3 _ _ _ _ _ _ _ | exact ext_app4 _ _ _ _ _ _ _ _ | exact ext_app5 _ _ _ _ _ _ _ _ _)) | ((with_reducible refine ext_suffix ⟨_, ?_⟩); (try simp only [Array.append_assoc]); rfl) | (with_reducible (first | apply Ext.drew | apply Ext.alloc | apply Ext.more_)) | apply Ext.drew | apply Ext.alloc | apply Ext.more_)))
              try simp only [Act.put, zqA, zqB, zqC]
              iterate 2 ((refine wpPl_read (v := ?_) rfl ?_ (fun _ h => ?_) ?_; rotate_left 1; rfl; (obtain ⟨_, _, rfl⟩ := h.more; go_simp; try rfl)); try simp only [Act.put, zqA, zqB, zqC])
              refine wpPl_nil ?_
              go_wp2_with (first | (go_at_call 74; (with_reducible refine (hbad5 _).mono ?_); rintro e w' ⟨rfl, hb⟩; obtain ⟨os, d, rfl⟩ := hb.more; clear hb) | (go_at_call 139; (with_reducible refine (hin _).mono ?_); rintro e w' ⟨rfl, hb⟩; obtain ⟨os, d, rfl⟩ := hb.more; clear hb))
              exact bodyPost_ret (v := VV 4 0 0 ⟨#[]⟩ false 5) (by simp [results, Tryz.results81, go_sem]) rfl ⟨rfl, by with_reducible repeat (first | exact Ext.refl _ | apply Ext.drew | apply Ext.alloc | apply Ext.more_)⟩
            · go_enter Tryz.func81, Tryz.ntmps81
              go_upto_region 4 with (go_at_call 109; (with_reducible refine (hnb _).mono ?_); rintro e w' ⟨rfl, hb⟩; obtain ⟨os, d, rfl⟩ := hb.more; clear hb)
              refine wp_plan (S := Ext _) [(0, 0), (2, 0), (1, 1), (3, 0), (4, 0)] [] (by kernel_rfl) (by kernel_rfl) (by kernel_rfl) (fun _ _ d _ _ h => by cases d <;> exact h) (Ext.drew (Ext.refl _)) ?_
              iterate 2 ((refine wpPl_read (v := ?_) rfl ?_ (fun _ h => ?_) ?_; rotate_left 1; rfl; (obtain ⟨_, _, rfl⟩ := h.more; go_simp; try rfl)); try simp only [Act.put, zqA, zqB, zqC])
              (refine wpPl_eff rfl ?_ (fun K hK => ?_); rfl; go_simp; refine (hfl _).mono ?_; rintro e w' ⟨rfl, hb⟩; obtain ⟨os4, d4, rfl⟩ := hb.more; clear hb; refine hK _ _ ?_ ?_; (repeat (first | (with_reducible (first | exact Ext.refl _ | exact ext_d _ _ _ _ | exact ext_app _ _ _ _ _ | exact ext_app2 _ _ _ _ _ _ | exact ext_app3 _ _ _ _ _ _ _ | exact ext_app4 _ _ _ _ _ _ _ _ | exact ext_app5 _ _ _ _ _ _ _ _ _)) | ((with_reducible refine ext_suffix ⟨_, ?_⟩); (try simp only [Array.append_assoc]); rfl) | (with_reducible (first | apply Ext.drew | apply Ext.alloc | apply Ext.more_)) | apply Ext.drew | apply Ext.alloc | apply Ext.more_)))
              try simp only [Act.put, zqA, zqB, zqC]
              iterate 2 ((refine wpPl_read (v := ?_) rfl ?_ (fun _ h => ?_) ?_; rotate_left 1; rfl; (obtain ⟨_, _, rfl⟩ := h.more; go_simp; try rfl)); try simp only [Act.put, zqA, zqB, zqC])
              refine wpPl_nil ?_
              go_wp2_with (first | (go_at_call 74; (with_reducible refine (hbad5 _).mono ?_); rintro e w' ⟨rfl, hb⟩; obtain ⟨os, d, rfl⟩ := hb.more; clear hb) | (go_at_call 139; (with_reducible refine (hin _).mono ?_); rintro e w' ⟨rfl, hb⟩; obtain ⟨os, d, rfl⟩ := hb.more; clear hb))
              exact bodyPost_ret (v := VV 4 0 0 ⟨#[]⟩ false 5) (by simp [results, Tryz.results81, go_sem]) rfl ⟨rfl, by with_reducible repeat (first | exact Ext.refl _ | apply Ext.drew | apply Ext.alloc | apply Ext.more_)⟩
          | some n =>
            have hzz : z = numRes (powS (tnP x).1 (tnP x).2 n) := by rw [← hz]; unfold powV; simp [h1, h2, h0, h3, hI]
            rw [hI] at hin
            simp only [inV, Option.getD_some, Option.isSome_some] at hin
            have hn : I64 n := intS_i64 hI
            have hfn := fun W hW => pow_any (tnP x).1 (tnP x).2 n W hW (Rt_i64 rx).1 hn
            have htd := fun W => oper_told_any (powS (tnP x).1 (tnP x).2 n) W
            rw [← hzz] at htd
            clear h1 h2 hnv hz hx hy rx ry h0 h3 hI hzz hn
            generalize powS (tnP x).1 (tnP x).2 n = R at *
            simp only [rnV] at hfn
            generalize (tnP x).1 = a at *
            generalize (tnP x).2 = b at *
            generalize (tnP y).1 = c at *
            generalize (tnP y).2 = d at *
            generalize x.kind = xk at *; generalize x.mant = xm at *; generalize x.exp = xe at *; generalize x.text = xt at *; generalize x.truth = xb at *; generalize x.fault = xf at *
            generalize y.kind = yk at *; generalize y.mant = ym at *; generalize y.exp = ye at *; generalize y.text = yt at *; generalize y.truth = yb at *; generalize y.fault = yf at *
            generalize z.kind = zk at *; generalize z.mant = zm at *; generalize z.exp = ze at *; generalize z.text = zt at *; generalize z.truth = zb at *; generalize z.fault = zf at *
            rcases q2 with q2 | ⟨q2, q3⟩
            · go_enter Tryz.func81, Tryz.ntmps81
              go_upto_region 4 with (go_at_call 109; (with_reducible refine (hnb _).mono ?_); rintro e w' ⟨rfl, hb⟩; obtain ⟨os, d, rfl⟩ := hb.more; clear hb)
              refine wp_plan (S := Ext _) [(0, 0), (2, 0), (1, 1), (3, 0), (4, 0)] [] (by kernel_rfl) (by kernel_rfl) (by kernel_rfl) (fun _ _ d _ _ h => by cases d <;> exact h) (Ext.drew (Ext.refl _)) ?_
              iterate 2 ((refine wpPl_read (v := ?_) rfl ?_ (fun _ h => ?_) ?_; rotate_left 1; rfl; (obtain ⟨_, _, rfl⟩ := h.more; go_simp; try rfl)); try simp only [Act.put, zqA, zqB, zqC])
              (refine wpPl_eff rfl ?_ (fun K hK => ?_); rfl; go_simp; refine (hfl _).mono ?_; rintro e w' ⟨rfl, hb⟩; obtain ⟨os4, d4, rfl⟩ := hb.more; clear hb; refine hK _ _ ?_ ?_; (repeat (first | (with_reducible (first | exact Ext.refl _ | exact ext_d _ _ _ _ | exact ext_app _ _ _ _ _ | exact ext_app2 _ _ _ _ _ _ | exact ext_app3 _ _ _ _ _ _ _ | exact ext_app4 _ _ _ _ _ _ _ _ | exact ext_app5 _ _ _ _ _ _ _ _ _)) | ((with_reducible refine ext_suffix ⟨_, ?_⟩); (try simp only [Array.append_assoc]); rfl) | (with_reducible (first | apply Ext.drew | apply Ext.alloc | apply Ext.more_)) | apply Ext.drew | apply Ext.alloc | apply Ext.more_)))
              try simp only [Act.put, zqA, zqB, zqC]
              iterate 2 ((refine wpPl_read (v := ?_) rfl ?_ (fun _ h => ?_) ?_; rotate_left 1; rfl; (obtain ⟨_, _, rfl⟩ := h.more; go_simp; try rfl)); try simp only [Act.put, zqA, zqB, zqC])
              refine wpPl_nil ?_
              go_wp2_with (first | (go_at_call 139; (with_reducible refine (hin _).mono ?_); rintro e w' ⟨rfl, hb⟩; obtain ⟨os, d, rfl⟩ := hb.more; clear hb) | (go_at_call 140; (with_reducible refine (hfn _ (HT.out.ext (by with_reducible repeat (first | exact Ext.refl _ | apply Ext.drew | apply Ext.alloc | apply Ext.more_)))).mono ?_); rintro e w' ⟨rfl, hb⟩; obtain ⟨os, d, rfl⟩ := hb.more; clear hb) | (go_at_call 110; (with_reducible refine (htd _).mono ?_); rintro e w' ⟨rfl, hb⟩; obtain ⟨os, d, rfl⟩ := hb.more; clear hb))
              exact bodyPost_ret (v := VV zk zm ze zt zb zf) (by simp [results, Tryz.results81, go_sem]) rfl ⟨rfl, by with_reducible repeat (first | exact Ext.refl _ | apply Ext.drew | apply Ext.alloc | apply Ext.more_)⟩
            · go_enter Tryz.func81, Tryz.ntmps81
              go_upto_region 4 with (go_at_call 109; (with_reducible refine (hnb _).mono ?_); rintro e w' ⟨rfl, hb⟩; obtain ⟨os, d, rfl⟩ := hb.more; clear hb)
              refine wp_plan (S := Ext _) [(0, 0), (2, 0), (1, 1), (3, 0), (4, 0)] [] (by kernel_rfl) (by kernel_rfl) (by kernel_rfl) (fun _ _ d _ _ h => by cases d <;> exact h) (Ext.drew (Ext.refl _)) ?_
              iterate 2 ((refine wpPl_read (v := ?_) rfl ?_ (fun _ h => ?_) ?_; rotate_left 1; rfl; (obtain ⟨_, _, rfl⟩ := h.more; go_simp; try rfl)); try simp only [Act.put, zqA, zqB, zqC])
              (refine wpPl_eff rfl ?_ (fun K hK => ?_); rfl; go_simp; refine (hfl _).mono ?_; rintro e w' ⟨rfl, hb⟩; obtain ⟨os4, d4, rfl⟩ := hb.more; clear hb; refine hK _ _ ?_ ?_; (repeat (first | (with_reducible (first | exact Ext.refl _ | exact ext_d _ _ _ _ | exact ext_app _ _ _ _ _ | exact ext_app2 _ _ _ _ _ _ | exact ext_app3 _ _ _ _ _ _ _ | exact ext_app4 _ _ _ _ _ _ _ _ | exact ext_app5 _ _ _ _ _ _ _ _ _)) | ((with_reducible refine ext_suffix ⟨_, ?_⟩); (try simp only [Array.append_assoc]); rfl) | (with_reducible (first | apply Ext.drew | apply Ext.alloc | apply Ext.more_)) | apply Ext.drew | apply Ext.alloc | apply Ext.more_)))
              try simp only [Act.put, zqA, zqB, zqC]
              iterate 2 ((refine wpPl_read (v := ?_) rfl ?_ (fun _ h => ?_) ?_; rotate_left 1; rfl; (obtain ⟨_, _, rfl⟩ := h.more; go_simp; try rfl)); try simp only [Act.put, zqA, zqB, zqC])
              refine wpPl_nil ?_
              go_wp2_with (first | (go_at_call 139; (with_reducible refine (hin _).mono ?_); rintro e w' ⟨rfl, hb⟩; obtain ⟨os, d, rfl⟩ := hb.more; clear hb) | (go_at_call 140; (with_reducible refine (hfn _ (HT.out.ext (by with_reducible repeat (first | exact Ext.refl _ | apply Ext.drew | apply Ext.alloc | apply Ext.more_)))).mono ?_); rintro e w' ⟨rfl, hb⟩; obtain ⟨os, d, rfl⟩ := hb.more; clear hb) | (go_at_call 110; (with_reducible refine (htd _).mono ?_); rintro e w' ⟨rfl, hb⟩; obtain ⟨os, d, rfl⟩ := hb.more; clear hb))
              exact bodyPost_ret (v := VV zk zm ze zt zb zf) (by simp [results, Tryz.results81, go_sem]) rfl ⟨rfl, by with_reducible repeat (first | exact Ext.refl _ | apply Ext.drew | apply Ext.alloc | apply Ext.more_)⟩
      · obtain rfl : z = badV 5 := by rw [← hz]; unfold powV; simp [h1, h2, h0]
        simp only [badV]
        have hne : ¬ ((floorS (tnP y).1 (tnP y).2).1 = (tnP y).1 ∧ (floorS (tnP y).1 (tnP y).2).2 = (tnP y).2) := fun h => h0 (Prod.ext h.1 h.2)
        generalize (floorS (tnP y).1 (tnP y).2).1 = u at *
        generalize (floorS (tnP y).1 (tnP y).2).2 = v at *
        clear h1 h2 hnv hz hx hy rx ry h0
        generalize (tnP x).1 = a at *
        generalize (tnP x).2 = b at *
        generalize (tnP y).1 = c at *
        generalize (tnP y).2 = d at *
        generalize x.kind = xk at *; generalize x.mant = xm at *; generalize x.exp = xe at *; generalize x.text = xt at *; generalize x.truth = xb at *; generalize x.fault = xf at *
        generalize y.kind = yk at *; generalize y.mant = ym at *; generalize y.exp = ye at *; generalize y.text = yt at *; generalize y.truth = yb at *; generalize y.fault = yf at *
        by_cases hu : u = c
        · have hv : ¬ v = d := fun h => hne ⟨hu, h⟩
          subst hu
          clear hne
          go_enter Tryz.func81, Tryz.ntmps81
          go_upto_region 4 with (go_at_call 109; (with_reducible refine (hnb _).mono ?_); rintro e w' ⟨rfl, hb⟩; obtain ⟨os, d, rfl⟩ := hb.more; clear hb)
          refine wp_plan (S := Ext _) [(0, 0), (2, 0), (1, 1), (3, 0), (4, 0)] [] (by kernel_rfl) (by kernel_rfl) (by kernel_rfl) (fun _ _ d _ _ h => by cases d <;> exact h) (Ext.drew (Ext.refl _)) ?_
          iterate 2 ((refine wpPl_read (v := ?_) rfl ?_ (fun _ h => ?_) ?_; rotate_left 1; rfl; (obtain ⟨_, _, rfl⟩ := h.more; go_simp; try rfl)); try simp only [Act.put, zqA, zqB, zqC])
          (refine wpPl_eff rfl ?_ (fun K hK => ?_); rfl; go_simp; refine (hfl _).mono ?_; rintro e w' ⟨rfl, hb⟩; obtain ⟨os4, d4, rfl⟩ := hb.more; clear hb; refine hK _ _ ?_ ?_; (repeat (first | (with_reducible (first | exact Ext.refl _ | exact ext_d _ _ _ _ | exact ext_app _ _ _ _ _ | exact ext_app2 _ _ _ _ _ _ | exact ext_app3 _ _ _ _ _ _ _ | exact ext_app4 _ _ _ _ _ _ _ _ | exact ext_app5 _ _ _ _ _ _ _ _ _)) | ((with_reducible refine ext_suffix ⟨_, ?_⟩); (try simp only [Array.append_assoc]); rfl) | (with_reducible (first | apply Ext.drew | apply Ext.alloc | apply Ext.more_)) | apply Ext.drew | apply Ext.alloc | apply Ext.more_)))
          try simp only [Act.put, zqA, zqB, zqC]
          iterate 2 ((refine wpPl_read (v := ?_) rfl ?_ (fun _ h => ?_) ?_; rotate_left 1; rfl; (obtain ⟨_, _, rfl⟩ := h.more; go_simp; try rfl)); try simp only [Act.put, zqA, zqB, zqC])
          refine wpPl_nil ?_
          go_wp2_with (go_at_call 74; (with_reducible refine (hbad5 _).mono ?_); rintro e w' ⟨rfl, hb⟩; obtain ⟨os, d, rfl⟩ := hb.more; clear hb)
          exact bodyPost_ret (v := VV 4 0 0 ⟨#[]⟩ false 5) (by simp [results, Tryz.results81, go_sem]) rfl ⟨rfl, by with_reducible repeat (first | exact Ext.refl _ | apply Ext.drew | apply Ext.alloc | apply Ext.more_)⟩
        · clear hne
          go_enter Tryz.func81, Tryz.ntmps81
          go_upto_region 4 with (go_at_call 109; (with_reducible refine (hnb _).mono ?_); rintro e w' ⟨rfl, hb⟩; obtain ⟨os, d, rfl⟩ := hb.more; clear hb)
          refine wp_plan (S := Ext _) [(0, 0), (2, 0), (1, 1), (3, 0), (4, 0)] [] (by kernel_rfl) (by kernel_rfl) (by kernel_rfl) (fun _ _ d _ _ h => by cases d <;> exact h) (Ext.drew (Ext.refl _)) ?_
          iterate 2 ((refine wpPl_read (v := ?_) rfl ?_ (fun _ h => ?_) ?_; rotate_left 1; rfl; (obtain ⟨_, _, rfl⟩ := h.more; go_simp; try rfl)); try simp only [Act.put, zqA, zqB, zqC])
          (refine wpPl_eff rfl ?_ (fun K hK => ?_); rfl; go_simp; refine (hfl _).mono ?_; rintro e w' ⟨rfl, hb⟩; obtain ⟨os4, d4, rfl⟩ := hb.more; clear hb; refine hK _ _ ?_ ?_; (repeat (first | (with_reducible (first | exact Ext.refl _ | exact ext_d _ _ _ _ | exact ext_app _ _ _ _ _ | exact ext_app2 _ _ _ _ _ _ | exact ext_app3 _ _ _ _ _ _ _ | exact ext_app4 _ _ _ _ _ _ _ _ | exact ext_app5 _ _ _ _ _ _ _ _ _)) | ((with_reducible refine ext_suffix ⟨_, ?_⟩); (try simp only [Array.append_assoc]); rfl) | (with_reducible (first | apply Ext.drew | apply Ext.alloc | apply Ext.more_)) | apply Ext.drew | apply Ext.alloc | apply Ext.more_)))
          try simp only [Act.put, zqA, zqB, zqC]
          iterate 2 ((refine wpPl_read (v := ?_) rfl ?_ (fun _ h => ?_) ?_; rotate_left 1; rfl; (obtain ⟨_, _, rfl⟩ := h.more; go_simp; try rfl)); try simp only [Act.put, zqA, zqB, zqC])
          refine wpPl_nil ?_
          go_wp2_with (go_at_call 74; (with_reducible refine (hbad5 _).mono ?_); rintro e w' ⟨rfl, hb⟩; obtain ⟨os, d, rfl⟩ := hb.more; clear hb)
          exact bodyPost_ret (v := VV 4 0 0 ⟨#[]⟩ false 5) (by simp [results, Tryz.results81, go_sem]) rfl ⟨rfl, by with_reducible repeat (first | exact Ext.refl _ | apply Ext.drew | apply Ext.alloc | apply Ext.more_)⟩
      
    · have hnv : nbV x y = .tuple #[NV 0 0, NV 0 0, .int .i64 (tnF y)] := by unfold nbV; simp [h1, h2]
      rw [hnv] at hnb
      obtain rfl : z = bad_ (tnF y) := by rw [← hz]; unfold powV; simp [h1, h2]
      have h1' := h1
      clear h1
      have h1 : tnF y ≠ 0 := h2
      have hbad := fun W => bad_any (tnF y) W
      have q0 : (tnF y != 0) = true := by simpa using h1
      generalize tnF y = f at *
      simp only [bad_, badV]
      clear h1 h1' h2 hnv hz hx hy
      generalize x.kind = xk at *; generalize x.mant = xm at *; generalize x.exp = xe at *; generalize x.text = xt at *; generalize x.truth = xb at *; generalize x.fault = xf at *
      generalize y.kind = yk at *; generalize y.mant = ym at *; generalize y.exp = ye at *; generalize y.text = yt at *; generalize y.truth = yb at *; generalize y.fault = yf at *
      go_enter Tryz.func81, Tryz.ntmps81
      go_wp2_with (first | (go_at_call 109; (with_reducible refine (hnb _).mono ?_); rintro e w' ⟨rfl, hb⟩; obtain ⟨os, d, rfl⟩ := hb.more; clear hb) | (go_at_call 74; (with_reducible refine (hbad _).mono ?_); rintro e w' ⟨rfl, hb⟩; obtain ⟨os, d, rfl⟩ := hb.more; clear hb))
      exact bodyPost_ret (v := VV 4 0 0 ⟨#[]⟩ false (badF f)) (by simp [results, Tryz.results81, go_sem]) rfl ⟨rfl, by with_reducible repeat (first | exact Ext.refl _ | apply Ext.drew | apply Ext.alloc | apply Ext.more_)⟩
  · have hnv : nbV x y = .tuple #[NV 0 0, NV 0 0, .int .i64 (tnF x)] := by unfold nbV; simp [h1]
    rw [hnv] at hnb
    obtain rfl : z = bad_ (tnF x) := by rw [← hz]; unfold powV; simp [h1]
    have hbad := fun W => bad_any (tnF x) W
    have q0 : (tnF x != 0) = true := by simpa using h1
    generalize tnF x = f at *
    simp only [bad_, badV]
    clear h1 hnv hz hx hy
    generalize x.kind = xk at *; generalize x.mant = xm at *; generalize x.exp = xe at *; generalize x.text = xt at *; generalize x.truth = xb at *; generalize x.fault = xf at *
    generalize y.kind = yk at *; generalize y.mant = ym at *; generalize y.exp = ye at *; generalize y.text = yt at *; generalize y.truth = yb at *; generalize y.fault = yf at *
    go_enter Tryz.func81, Tryz.ntmps81
    go_wp2_with (first | (go_at_call 109; (with_reducible refine (hnb _).mono ?_); rintro e w' ⟨rfl, hb⟩; obtain ⟨os, d, rfl⟩ := hb.more; clear hb) | (go_at_call 74; (with_reducible refine (hbad _).mono ?_); rintro e w' ⟨rfl, hb⟩; obtain ⟨os, d, rfl⟩ := hb.more; clear hb))
    exact bodyPost_ret (v := VV 4 0 0 ⟨#[]⟩ false (badF f)) (by simp [results, Tryz.results81, go_sem]) rfl ⟨rfl, by with_reducible repeat (first | exact Ext.refl _ | apply Ext.drew | apply Ext.alloc | apply Ext.more_)⟩
theorem tt_size {x : Val} (h : x.right) : (ttS x).size ≤ 255 := by
  rcases h.form with rfl | ⟨m, e, rfl, hr⟩ | ⟨t, rfl, ht⟩ | ⟨b, rfl⟩ | ⟨f, rfl, hf⟩
  · exact Nat.zero_le _
  · show (textS m e).size ≤ 255
    have := textS_size hr
    omega
  · exact ht
  · cases b <;> decide
  · exact Nat.zero_le _
set_option maxHeartbeats 1000000 in
theorem joined_any (x y : Val) (w : World) (htab : Tab w) (hx : x.right) (hy : y.right) (z : Val) (hz : joinV x y = z) :
    Calls Tryz.prog 82 #[VV x.kind x.mant x.exp x.text x.truth x.fault, VV y.kind y.mant y.exp y.text y.truth y.fault] w fun e w' => e = .returned (VV z.kind z.mant z.exp z.text z.truth z.fault) ∧ Ext w w' := by
  have ht1 := fun W hW => toText_any x W hW hx
  have ht2 := fun W hW => toText_any y W hW hy
  simp only [ttV] at ht1 ht2
  have s1 := tt_size hx
  have s2 := tt_size hy
  have HT := Lib.hid htab
  clear htab
  by_cases h1 : ttF x = 0
  · by_cases h2 : ttF y = 0
    · have hzz : z = textV (ttS x ++ ttS y) := by rw [← hz]; unfold joinV; simp [h1, h2]
      rw [h1] at ht1
      rw [h2] at ht2
      have htx := fun W => text_any (ttS x ++ ttS y) W (by rw [ByteArray.size_append]; omega)
      have e1 : (textV (ttS x ++ ttS y)).mant = 0 ∧ (textV (ttS x ++ ttS y)).exp = 0 ∧ (textV (ttS x ++ ttS y)).truth = false := by
        unfold textV
        split <;> exact ⟨rfl, rfl, rfl⟩
      rw [← hzz] at htx e1
      obtain ⟨e1, e2, e3⟩ := e1
      rw [e1, e2, e3]
      generalize ttS x = tx at *
      generalize ttS y = ty at *
      clear h1 h2 hzz hz hx hy e1 e2 e3
      generalize z.kind = zk at *
      generalize z.text = zt at *
      generalize z.fault = zf at *
      generalize x.kind = xk at *; generalize x.mant = xm at *; generalize x.exp = xe at *; generalize x.text = xt at *; generalize x.truth = xb at *; generalize x.fault = xf at *
      generalize y.kind = yk at *; generalize y.mant = ym at *; generalize y.exp = ye at *; generalize y.text = yt at *; generalize y.truth = yb at *; generalize y.fault = yf at *
      go_enter Tryz.func82, Tryz.ntmps82
      go_wp2_with (first | (go_at_call 141; first | ((with_reducible refine (ht1 _ (HT.out.ext (by with_reducible repeat (first | exact Ext.refl _ | apply Ext.drew | apply Ext.alloc | apply Ext.more_)))).mono ?_); rintro e w' ⟨rfl, hb⟩; obtain ⟨os1, d1, rfl⟩ := hb.more; clear hb) | ((with_reducible refine (ht2 _ (HT.out.ext (by with_reducible repeat (first | exact Ext.refl _ | apply Ext.drew | apply Ext.alloc | apply Ext.more_)))).mono ?_); rintro e w' ⟨rfl, hb⟩; obtain ⟨os2, d2, rfl⟩ := hb.more; clear hb)) | (go_at_call 130; (with_reducible refine (htx _).mono ?_); rintro e w' ⟨rfl, hb⟩; obtain ⟨os, d, rfl⟩ := hb.more; clear hb))
      exact bodyPost_ret (v := VV zk 0 0 zt false zf) (by simp [results, Tryz.results82, go_sem]) rfl ⟨rfl, by with_reducible repeat (first | exact Ext.refl _ | apply Ext.drew | apply Ext.alloc | apply Ext.more_)⟩
    · obtain rfl : z = bad_ (ttF y) := by rw [← hz]; unfold joinV; simp [h1, h2]
      rw [h1] at ht1
      clear h1
      have h1 : ttF y ≠ 0 := h2
      have hbad := fun W => bad_any (ttF y) W
      have q0 : (ttF y != 0) = true := by simpa using h1
      generalize ttF y = f at *
      generalize ttS x = tx at *
      generalize ttS y = ty at *
      simp only [bad_, badV]
      clear h1 h2 hz hx hy
      generalize x.kind = xk at *; generalize x.mant = xm at *; generalize x.exp = xe at *; generalize x.text = xt at *; generalize x.truth = xb at *; generalize x.fault = xf at *
      generalize y.kind = yk at *; generalize y.mant = ym at *; generalize y.exp = ye at *; generalize y.text = yt at *; generalize y.truth = yb at *; generalize y.fault = yf at *
      go_enter Tryz.func82, Tryz.ntmps82
      go_wp2_with (first | (go_at_call 141; first | ((with_reducible refine (ht1 _ (HT.out.ext (by with_reducible repeat (first | exact Ext.refl _ | apply Ext.drew | apply Ext.alloc | apply Ext.more_)))).mono ?_); rintro e w' ⟨rfl, hb⟩; obtain ⟨os1, d1, rfl⟩ := hb.more; clear hb) | ((with_reducible refine (ht2 _ (HT.out.ext (by with_reducible repeat (first | exact Ext.refl _ | apply Ext.drew | apply Ext.alloc | apply Ext.more_)))).mono ?_); rintro e w' ⟨rfl, hb⟩; obtain ⟨os2, d2, rfl⟩ := hb.more; clear hb)) | (go_at_call 74; (with_reducible refine (hbad _).mono ?_); rintro e w' ⟨rfl, hb⟩; obtain ⟨os, d, rfl⟩ := hb.more; clear hb))
      exact bodyPost_ret (v := VV 4 0 0 ⟨#[]⟩ false (badF f)) (by simp [results, Tryz.results82, go_sem]) rfl ⟨rfl, by with_reducible repeat (first | exact Ext.refl _ | apply Ext.drew | apply Ext.alloc | apply Ext.more_)⟩
  · obtain rfl : z = bad_ (ttF x) := by rw [← hz]; unfold joinV; simp [h1]
    have hbad := fun W => bad_any (ttF x) W
    have q0 : (ttF x != 0) = true := by simpa using h1
    generalize ttF x = f at *
    generalize ttS x = tx at *
    generalize ttS y = ty at *
    simp only [bad_, badV]
    clear h1 hz hx hy
    generalize x.kind = xk at *; generalize x.mant = xm at *; generalize x.exp = xe at *; generalize x.text = xt at *; generalize x.truth = xb at *; generalize x.fault = xf at *
    generalize y.kind = yk at *; generalize y.mant = ym at *; generalize y.exp = ye at *; generalize y.text = yt at *; generalize y.truth = yb at *; generalize y.fault = yf at *
    go_enter Tryz.func82, Tryz.ntmps82
    go_wp2_with (first | (go_at_call 141; first | ((with_reducible refine (ht1 _ (HT.out.ext (by with_reducible repeat (first | exact Ext.refl _ | apply Ext.drew | apply Ext.alloc | apply Ext.more_)))).mono ?_); rintro e w' ⟨rfl, hb⟩; obtain ⟨os1, d1, rfl⟩ := hb.more; clear hb) | ((with_reducible refine (ht2 _ (HT.out.ext (by with_reducible repeat (first | exact Ext.refl _ | apply Ext.drew | apply Ext.alloc | apply Ext.more_)))).mono ?_); rintro e w' ⟨rfl, hb⟩; obtain ⟨os2, d2, rfl⟩ := hb.more; clear hb)) | (go_at_call 74; (with_reducible refine (hbad _).mono ?_); rintro e w' ⟨rfl, hb⟩; obtain ⟨os, d, rfl⟩ := hb.more; clear hb))
    exact bodyPost_ret (v := VV 4 0 0 ⟨#[]⟩ false (badF f)) (by simp [results, Tryz.results82, go_sem]) rfl ⟨rfl, by with_reducible repeat (first | exact Ext.refl _ | apply Ext.drew | apply Ext.alloc | apply Ext.more_)⟩
end Go.Proofs.YteigcfflljoioaaGreatDoor
namespace Go.Proofs.YteigcfflljoioaaGreatDoor
open Go.RowKit
theorem neq_val (k1 m1 e1 f1 k2 m2 e2 f2 : Int) (t1 t2 : ByteArray) (b1 b2 : Bool) (w : World) : (binOp .neq 26 (VV k1 m1 e1 t1 b1 f1) (VV k2 m2 e2 t2 b2 f2)).run Tryz.prog w = .ok (.bool (!eqV ⟨k1, m1, e1, t1, b1, f1⟩ ⟨k2, m2, e2, t2, b2, f2⟩)) w := by
  have ht : (t1.toList = t2.toList) ↔ t1 = t2 := ⟨fun h => by
    cases t1; cases t2
    rename_i a b
    have : a.toList = b.toList := by simpa [ByteArray.toList_eq] using h
    simpa using this, fun h => by rw [h]⟩
  simp only [VV, eqV]
  simp [go_sem, ht]
  by_cases h1 : k1 = k2 <;> simp [h1]
  by_cases h2 : m1 = m2 <;> simp [h2]
  by_cases h3 : e1 = e2 <;> simp [h3]
  by_cases h4 : t1 = t2 <;> simp [h4]
  by_cases h5 : b1 = b2 <;> simp [h5]
  by_cases h6 : f1 = f2 <;> simp [h6]
/-- The first k values are alike. -/
def alike (k : Nat) (l l' : List Val) : Prop := ∀ j x y, j < k → l[j]? = some x → l'[j]? = some y → x = y
theorem alike_all {n : Nat} {l l' : List Val} (h1 : l.length = n) (h2 : l'.length = n) (h : alike n l l') : l = l' := by
  apply List.ext_getElem?
  intro i
  by_cases hi : i < n
  · have := h i l[i] l'[i] hi (List.getElem?_eq_getElem _) (List.getElem?_eq_getElem _)
    rw [List.getElem?_eq_getElem (by omega), List.getElem?_eq_getElem (by omega), this]
  · rw [List.getElem?_eq_none (by omega), List.getElem?_eq_none (by omega)]
theorem alike_succ {k : Nat} {l l' : List Val} {x : Val} (h : alike k l l') (hx : l[k]? = some x) (hy : l'[k]? = some x) : alike (k + 1) l l' := by
  intro j a b hj ha hb
  by_cases hjk : j = k
  · subst hjk
    rw [hx] at ha; rw [hy] at hb
    simp_all
  · exact h j a b (by omega) ha hb
def sameA (r c : Int) (l : List Val) (r' c' : Int) (l' : List Val) : Bool := r == r' && c == c' && decide (l = l')
set_option maxHeartbeats 400000 in
theorem refSame_any (r c r' c' : Int) (A B : Option Addr) (n cap n' cap' : Nat) (l l' : List Val) (w : World) (h : ArrIn w A n cap l) (h' : ArrIn w B n' cap' l') :
    Calls Tryz.prog 20 #[AV r c (.slice A n cap), AV r' c' (.slice B n' cap')] w fun e w' => e = .returned (.bool (sameA r c l r' c' l')) ∧ Ext w w' := by
  have hsm := h.small
  have hsm' := h'.small
  generalize hR : sameA r c l r' c' l' = R
  have HR := Lib.hid hR
  clear hR
  have hneq := neq_val
  go_enter Tryz.func20, Tryz.ntmps20
  go_upto_region 1 with (fail)
  refine wp_region_lit ?_
  iterate 6 ((refine wpL_read (v := ?_) rfl ?_ ?_; rotate_left 1; (go_simp; first | done | rfl)); try simp only [Act.put, zqA, zqB, zqC])
  iterate 5 ((refine wpL_gread (v := ?_) (c := ?_) rfl rfl rfl ?_ (fun hc => ?_) ?_; rotate_left 2; (first | exact gc_t _ | exact gc_f _ | exact gc_gt _ _ | exact gc_gf _ _); ((try simp only [gv_of hc]); (try (have hc1 := and_l hc; (try simp only [gv_of hc1]); (try (have hc2 := and_l hc1; (try simp only [gv_of hc2]))))); go_simp; first | done | rfl)); try simp only [Act.put, zqA, zqB, zqC])
  first | (refine wpL_pick_and rfl rfl rfl rfl rfl ?_) | (refine wpL_pick_or rfl rfl rfl rfl rfl ?_)
  try simp only [Act.put, zqA, zqB, zqC]
  (refine wpL_read (v := ?_) rfl ?_ ?_; rotate_left 1; (go_simp; first | done | rfl))
  try simp only [Act.put, zqA, zqB, zqC]
  iterate 7 ((refine wpL_gread (v := ?_) (c := ?_) rfl rfl rfl ?_ (fun hc => ?_) ?_; rotate_left 2; (first | exact gc_t _ | exact gc_f _ | exact gc_gt _ _ | exact gc_gf _ _); ((try simp only [gv_of hc]); (try (have hc1 := and_l hc; (try simp only [gv_of hc1]); (try (have hc2 := and_l hc1; (try simp only [gv_of hc2]))))); go_simp; first | done | rfl)); try simp only [Act.put, zqA, zqB, zqC])
  first | (refine wpL_pick_and rfl rfl rfl rfl rfl ?_) | (refine wpL_pick_or rfl rfl rfl rfl rfl ?_)
  try simp only [Act.put, zqA, zqB, zqC]
  refine wpList_nil ?_
  try go_simp
  go_wp2
  · rename_i hbad
    go_ret
    refine ⟨ret_bool ?_, by repeat (first | exact Ext.refl _ | apply Ext.drew | apply Ext.alloc | apply Ext.more_)⟩
    rw [← HR.out]
    symm
    simp only [bne_iff_ne, ne_eq] at hbad
    rcases hbad with (hb | hb) | hb
    · simp [sameA, hb]
    · simp [sameA, hb]
    · have : ¬ l = l' := by rintro rfl; exact hb (by rw [← h.len, ← h'.len])
      simp [sameA, this]
  · rename_i hgood _ _
    simp only [bne_eq_false_iff_eq] at hgood
    obtain ⟨⟨g1, g2⟩, g3⟩ := hgood
    obtain rfl : n = n' := by omega
    have HR' : Hid (R = decide (l = l')) := by show _ = _; rw [← HR.out, g1, g2]; simp [sameA]
    clear g1 g2 g3
    go_loopw [5] (fun i wr => ∃ k : Nat, k ≤ n ∧ i = .int .i64 k ∧ Ext ((w.alloc (Obj.cells #[.int .i64 r, .int .i64 c, .slice A n cap] 34)).alloc (Obj.cells #[.int .i64 r', .int .i64 c', .slice B n cap'] 34)) wr ∧ Hid (alike k l l')) (fun i _ => n - (intOf i).toNat)
    case atStart => exact ⟨0, Nat.zero_le _, rfl, Ext.refl _, fun j x y hj => absurd hj (Nat.not_lt_zero _)⟩
    case round =>
      obtain ⟨k, hk, rfl, hX, H⟩ := hrel
      obtain ⟨os, d, rfl⟩ := hX.more
      by_cases hlt : k < n
      · obtain ⟨x, b, off, hx, hxo, rfl, hv⟩ := h.at hlt; obtain ⟨v0, v1, v2, v3, v4, v5⟩ := hv; have hbl : b < w.heap.size := lt_of_cell v0
        obtain ⟨y, b', off', hy, hyo, rfl, hv'⟩ := h'.at hlt; obtain ⟨u0, u1, u2, u3, u4, u5⟩ := hv'; have hbl' : b' < w.heap.size := lt_of_cell u0
        by_cases hxy : eqV x y = true
        · go_wp2
          refine wp_plan (S := Ext _) [(0, 0), (1, 0), (2, 0), (3, 0), (4, 0), (5, 0), (6, 0), (7, 0), (8, 0), (9, 0), (10, 0)] [] (by kernel_rfl) (by kernel_rfl) (by kernel_rfl) (fun _ _ d _ _ h => by cases d <;> exact h) (Ext.drew (Ext.refl _)) ?_
          iterate 11 ((refine wpPl_read (v := ?_) rfl ?_ (fun _ h => ?_) ?_; rotate_left 1; rfl; (obtain ⟨_, _, rfl⟩ := h.more; go_simp; try rfl)); try simp only [Act.put, zqA, zqB, zqC])
          refine wpPl_nil ?_
          go_wp2
          refine ⟨⟨k + 1, by omega, by go_num, by repeat (first | exact Ext.refl _ | apply Ext.drew | apply Ext.alloc | apply Ext.more_), ?_⟩, by simp [intOf]; omega⟩
          obtain rfl : x = y := by simpa [eqV] using hxy
          exact alike_succ H.out hx hy
        · have hxy' : eqV x y = false := by simpa using hxy
          have hR : R = false := by
            rw [HR'.out]
            simp only [decide_eq_false_iff_not]
            rintro rfl
            rw [hx] at hy
            simp [eqV] at hxy
            exact hxy (by simpa using hy)
          have HR2 := Lib.hid hR
          clear hR hxy
          go_wp2
          refine wp_plan (S := Ext _) [(0, 0), (1, 0), (2, 0), (3, 0), (4, 0), (5, 0), (6, 0), (7, 0), (8, 0), (9, 0), (10, 0)] [] (by kernel_rfl) (by kernel_rfl) (by kernel_rfl) (fun _ _ d _ _ h => by cases d <;> exact h) (Ext.drew (Ext.refl _)) ?_
          iterate 11 ((refine wpPl_read (v := ?_) rfl ?_ (fun _ h => ?_) ?_; rotate_left 1; rfl; (obtain ⟨_, _, rfl⟩ := h.more; go_simp; try rfl)); try simp only [Act.put, zqA, zqB, zqC])
          refine wpPl_nil ?_
          go_wp2
          go_ret
          exact ⟨ret_bool HR2.out.symm, by repeat (first | exact Ext.refl _ | apply Ext.drew | apply Ext.alloc | apply Ext.more_)⟩
      · have hR : R = true := by
          rw [HR'.out]
          simp only [decide_eq_true_eq]
          obtain rfl : k = n := by omega
          exact alike_all h.len h'.len H.out
        have HR2 := Lib.hid hR
        clear hR
        go_wp2
        go_ret
        exact ⟨ret_bool HR2.out.symm, by repeat (first | exact Ext.refl _ | apply Ext.drew | apply Ext.alloc | apply Ext.more_)⟩
end Go.Proofs.YteigcfflljoioaaGreatDoor
namespace Go.Proofs.YteigcfflljoioaaGreatDoor
open Go.RowKit
theorem info_val : (Tryz.prog.info? 26).map (fun i => (i.zero, i.size, i.bytes)) = some (some (VV 0 0 0 ⟨#[]⟩ false 0), 6, 56) := by kernel_rfl
end Go.Proofs.YteigcfflljoioaaGreatDoor
namespace Go.Proofs.YteigcfflljoioaaGreatDoor
open Go.RowKit
/-- Memory but for the blocks of one call of build. -/
structure Keep (s0 : Nat) (W W' : World) : Prop where
  os : W'.os = W.os
  tape : W'.tape = W.tape
  output : W'.output = W.output
  size : W.heap.size ≤ W'.heap.size
  block : ∀ b, b < W.heap.size → b ≠ s0 → b ≠ s0 + 1 → b ≠ s0 + 1 + 1 → W'.heap[b]? = W.heap[b]?
/-- The blocks of one call of build. -/
structure Leaves (s0 : Nat) (W W' : World) : Prop where
  size : W.heap.size ≤ W'.heap.size
  b0 : W'.heap[s0]? = W.heap[s0]?
  b1 : W'.heap[s0 + 1]? = W.heap[s0 + 1]?
  b2 : W'.heap[s0 + 1 + 1]? = W.heap[s0 + 1 + 1]?
theorem Keep.refl (s0 : Nat) (W : World) : Keep s0 W W := ⟨rfl, rfl, rfl, Nat.le_refl _, fun _ _ _ _ _ => rfl⟩
theorem Keep.trans {s0 : Nat} {a b c : World} (h : Keep s0 a b) (k : Keep s0 b c) : Keep s0 a c :=
  ⟨k.os.trans h.os, k.tape.trans h.tape, k.output.trans h.output, Nat.le_trans h.size k.size, fun i hi h0 h1 h2 => (k.block i (Nat.lt_of_lt_of_le hi h.size) h0 h1 h2).trans (h.block i hi h0 h1 h2)⟩
theorem Keep.of_ext {s0 : Nat} {a b : World} (h : Ext a b) : Keep s0 a b := ⟨h.os, h.tape, h.output, h.size, fun _ hi _ _ _ => h.block hi⟩
theorem Keep.of_grown {s0 : Nat} {a b : World} (h : a.grownBy b (some (s0 + 1))) : Keep s0 a b := ⟨h.os, h.tape, h.output, h.size, fun i hi _ h1 _ => h.block i hi (fun e => h1 (by simpa using e))⟩
theorem Keep.of_set {s0 : Nat} (a : World) {p : Addr} (v : Value) (hp : p.block = s0 ∨ p.block = s0 + 1 ∨ p.block = s0 + 1 + 1) : Keep s0 a (a.setCell p v) :=
  ⟨rfl, rfl, rfl, by simp [World.setCell], fun i hi h0 h1 h2 => Below.heap_setCell _ _ _ _ (by omega)⟩
theorem Keep.drew {s0 : Nat} {a b : World} (h : Keep s0 a b) : Keep s0 a b.drew := ⟨h.os, h.tape, h.output, h.size, h.block⟩
/-- What stands in memory behind k calls. -/
structure BSt (s0 R C N k : Nat) (l : List Val) (wr : World) : Prop where
  size : s0 + 3 ≤ wr.heap.size
  b0 : wr.heap[s0]? = some (.cells #[.int .i64 0, .int .i64 0, .slice none 0 0] 34)
  b2 : wr.heap[s0 + 1 + 1]? = some (.cells #[.int .i64 R, .int .i64 C, .slice (some ⟨s0 + 1, 0, none⟩) k N] 34)
  own : wr.ownsRow (s0 + 1) 26 6 (.slice (some ⟨s0 + 1, 0, none⟩) k N) k (vcells l)
def vals (g : Nat → Nat → Val) (C k : Nat) : List Val := (List.range k).map fun t => g (t / C) (t % C)
theorem vals_succ (g : Nat → Nat → Val) (C i j : Nat) (hj : j < C) : vals g C (i * C + j + 1) = vals g C (i * C + j) ++ [g i j] := by
  unfold vals
  rw [List.range_succ, List.map_append]
  have h1 : (i * C + j) / C = i := by rw [Nat.add_comm, Nat.add_mul_div_right _ _ (by omega), Nat.div_eq_of_lt hj]; omega
  have h2 : (i * C + j) % C = j := by rw [Nat.add_comm, Nat.add_mul_mod_self_right, Nat.mod_eq_of_lt hj]
  simp [h1, h2]
theorem vals_length (g : Nat → Nat → Val) (C k : Nat) : (vals g C k).length = k := by simp [vals]
theorem BSt.step {s0 R C N k : Nat} {l : List Val} {x : Val} {wr w1 w3 : World} {ty : TypeId} (h : BSt s0 R C N k l wr) (hl : Leaves s0 wr w1) (hg : (w1.alloc (.cells x.cells.toArray ty)).grownBy w3 (some (s0 + 1)))
    (ho : w3.ownsRow (s0 + 1) 26 6 (.slice (some ⟨s0 + 1, 0, none⟩) (k + 1) N) (k + 1) (vcells l ++ x.cells)) :
    BSt s0 R C N (k + 1) (l ++ [x]) (w3.setCell ⟨s0 + 1 + 1, 2, none⟩ (.slice (some ⟨s0 + 1, 0, none⟩) (k + 1) N)) := by
  have hs1 := hl.size
  have hs := h.size
  have hz : (w1.alloc (.cells x.cells.toArray ty)).heap.size = w1.heap.size + 1 := by simp
  have hs3 := hg.size
  have hb : ∀ b, b < w1.heap.size → b ≠ s0 + 1 → w3.heap[b]? = w1.heap[b]? := fun b hb hn => (hg.block b (by omega) (by simpa using hn)).trans (Below.heap_alloc _ _ _ hb)
  refine ⟨by simp [World.setCell]; omega, ?_, ?_, ?_⟩
  · rw [Below.heap_setCell _ _ _ _ (by simp only; omega), hb s0 (by omega) (by omega), hl.b0, h.b0]
  · have h2 : w3.heap[s0 + 1 + 1]? = some (.cells #[.int .i64 R, .int .i64 C, .slice (some ⟨s0 + 1, 0, none⟩) k N] 34) := by rw [hb (s0 + 1 + 1) (by omega) (by omega), hl.b2, h.b2]
    simp [World.setCell, Array.getElem?_modify, h2]
  · have : vcells (l ++ [x]) = vcells l ++ x.cells := by simp [vcells]
    rw [this]
    exact ho.kept (row := some (s0 + 1 + 1)) ⟨rfl, rfl, rfl, by simp [World.setCell], fun b hb hne => Below.heap_setCell _ _ _ _ (fun e => hne (by simp [e]))⟩ (.inr (by simp [Value.ownBlock]))
end Go.Proofs.YteigcfflljoioaaGreatDoor
namespace Go.Proofs.YteigcfflljoioaaGreatDoor
open Go.RowKit
theorem wp_append_fits {P : Program} (w : World) {o : Oper} {a : Act} {K : Act → World → Prop} {Q : Exit → Act → World → Prop} (s x : Operand) (t : TypeId)
    (ho : o.op = .call { callee := .builtin .append, args := #[s, x], argTypes := #[t, t] })
    (base : Nat) (e : TypeId) (i : TypeInfo) (size : Nat) (ht : P.underlying t = some (.slice e)) (hi : P.info? e = some i) (hsize : i.size = size)
    (g n cap : Nat) (xs : List Value) (hs : a.eval s = .slice (some ⟨g, 0, none⟩) n cap) (hown : w.ownsRow base e size (.slice (some ⟨g, 0, none⟩) n cap) n xs)
    (ad : Addr) (m c : Nat) (news : List Value) (hx : a.eval x = .slice (some ad) m c) (hl : news.length = m * size) (hnews : ∀ j u, news[j]? = some u → w.cell? (ad.add j) = some u) (h1 : ∀ u ∈ news, u.oneCell' = true)
    (hroom : n + m ≤ cap)
    (h : ∀ w', w'.ownsRow base e size (.slice (some ⟨g, 0, none⟩) (n + m) cap) (n + m) (xs ++ news) → w.grownBy w' (some g) → K (a.put o.dst (.slice (some ⟨g, 0, none⟩) (n + m) cap)) w') : o.wp P a w K Q := by
  obtain ⟨w', hr, h2, h3⟩ := run_append_fits (P := P) w base t o.type e i size ht hi hsize g n cap xs hown ad m c news hl hnews h1 hroom
  unfold Oper.wp execOp
  simp only [ho, resolve, invoke, builtin, Sem.run_bind, Sem.run_pure, Result.andThen_ok, List.map_toArray, List.map_cons, List.map_nil, hs, hx, hr]
  exact h w' h2 h3
theorem BSt.start {w : World} {R C : Nat} (N : Nat) (hN : N ≤ 4096) :
    BSt w.heap.size R C N 0 [] (((w.alloc (Obj.cells #[.int .i64 0, .int .i64 0, .slice none 0 0] 34)).alloc (Obj.cells (madeCells #[.int .i64 0, .int .i64 0, .int .i64 0, .string ⟨#[]⟩, .bool false, .int .i64 0] (N * 6)) 26)).alloc (Obj.cells #[.int .i64 R, .int .i64 C, .slice (some ⟨w.heap.size + 1, 0, none⟩) 0 N] 34)) := by
  refine ⟨by simp, ?_, ?_, ?_⟩
  · rw [Below.heap_alloc _ _ _ (by simp; omega), Below.heap_alloc _ _ _ (by simp), heap_alloc_new]
  · have := heap_alloc_new ((w.alloc (Obj.cells #[.int .i64 0, .int .i64 0, .slice none 0 0] 34)).alloc (Obj.cells (madeCells #[.int .i64 0, .int .i64 0, .int .i64 0, .string ⟨#[]⟩, .bool false, .int .i64 0] (N * 6)) 26)) (Obj.cells #[.int .i64 R, .int .i64 C, .slice (some ⟨w.heap.size + 1, 0, none⟩) 0 N] 34)
    simpa using this
  · refine World.ownsRow.alloc ?_ _
    have := World.ownsRow_made (base := w.heap.size + 1) (e := 26) (size := 6) (w.alloc (Obj.cells #[.int .i64 0, .int .i64 0, .slice none 0 0] 34)) (madeCells #[.int .i64 0, .int .i64 0, .int .i64 0, .string ⟨#[]⟩, .bool false, .int .i64 0] (N * 6)) N (by simp) (by simp only [maxLen]; omega) (by rw [size_madeCells])
    simpa [vcells] using this
theorem BSt.own_later {s0 R C N k : Nat} {l : List Val} {wr w1 : World} (h : BSt s0 R C N k l wr) (hl : Leaves s0 wr w1) (o : Obj) : (w1.alloc o).ownsRow (s0 + 1) 26 6 (.slice (some ⟨s0 + 1, 0, none⟩) k N) k (vcells l) := by
  refine World.ownsRow.alloc ?_ _
  obtain ⟨h1, h2⟩ := h.own
  refine ⟨h1, ?_⟩
  rcases h2 with ⟨h2, _⟩ | ⟨g, cap, cur, hv, hg, hh, r⟩
  · simp at h2
  · simp only [Value.slice.injEq, Option.some.injEq, Addr.mk.injEq, and_true, true_and] at hv
    obtain ⟨rfl, rfl⟩ := hv
    exact .inr ⟨s0 + 1, N, cur, rfl, hg, hl.b1.trans hh, r⟩
theorem Keep.three (s0 : Nat) (a : World) (u v x : Value) : Keep s0 a (((a.setCell ⟨s0, 0, none⟩ u).setCell ⟨s0, 1, none⟩ v).setCell ⟨s0, 2, none⟩ x) :=
  ((Keep.of_set (s0 := s0) a (p := ⟨s0, 0, none⟩) u (.inl rfl)).trans (Keep.of_set (s0 := s0) _ (p := ⟨s0, 1, none⟩) v (.inl rfl))).trans (Keep.of_set (s0 := s0) _ (p := ⟨s0, 2, none⟩) x (.inl rfl))
theorem Rd.set_far {base : Nat} {w : World} {A : Option Addr} {cs : List Value} (h : Rd base w A cs) {p : Addr} (v : Value) (hp : p.block < base) : Rd base (w.setCell p v) A cs :=
  h.blocks fun b hb => Below.heap_setCell _ _ _ _ (by omega)
theorem new_cells (w : World) (cs : List Value) (ty : TypeId) : ∀ j u, cs[j]? = some u → (w.alloc (.cells cs.toArray ty)).cell? ((⟨w.heap.size, 0, none⟩ : Addr).add j) = some u := fun j u hu => by
  rw [Addr.add_mid, World.cell?_alloc_at _ _ _ _ rfl]
  simpa using hu
theorem cells_one (x : Val) : ∀ u ∈ x.cells, u.oneCell' = true := by
  intro u hu
  simp only [Val.cells, List.mem_cons, List.not_mem_nil, or_false] at hu
  rcases hu with rfl | rfl | rfl | rfl | rfl | rfl <;> rfl
set_option maxHeartbeats 1000000 in
theorem build_any (R C : Nat) (cl : FuncId) (capt : Array Value) (g : Nat → Nat → Val) (w : World) (J : Nat → World → Prop) (hR : 1 ≤ R) (hC : 1 ≤ C) (hN : R * C ≤ 4096) (hR' : R ≤ 4096) (hC' : C ≤ 4096)
    (hent : ∀ (args : Array Value) (W : World), (callFunc cl args).run Tryz.prog W = .ok (.enter cl args) W) (hJ0 : J 0 w) (hJ : ∀ k W W', Keep w.heap.size W W' → J k W → J k W')
    (hcall : ∀ i j W, i < R → j < C → J (i * C + j) W → w.heap.size + 3 ≤ W.heap.size →
      Calls Tryz.prog cl (#[.int .i64 i, .int .i64 j] ++ capt) W fun e W' => e = .returned (VV (g i j).kind (g i j).mant (g i j).exp (g i j).text (g i j).truth (g i j).fault) ∧ J (i * C + j + 1) W' ∧ Leaves w.heap.size W W') :
    Calls Tryz.prog 93 #[.int .i64 R, .int .i64 C, .func (.func cl) #[] capt] w fun e w' => ∃ A c, e = .returned (AV R C (.slice A (R * C) c)) ∧ SlV w.heap.size w' A (vals g C (R * C)) ∧ R * C ≤ c ∧ J (R * C) w' := by
  obtain ⟨i0, hi, hz0, hz1, hz2⟩ := info_parts info_val
  have hw : IntKind.i64.wrap ((R : Int) * (C : Int)) = ((R * C : Nat) : Int) := by rw [IntKind.wrap_i64, Int.natCast_mul]; omega
  have hmk : ∀ (N : Nat) (W : World), N ≤ 4096 → (Instr.makeSlice 22 (.int .i64 0) (.int .i64 (N : Int))).run Tryz.prog W = .ok (.slice (some ⟨W.heap.size, 0, none⟩) 0 N) (W.alloc (.cells (madeCells (VV 0 0 0 ⟨#[]⟩ false 0).cells (N * 6)) 26)) := fun N W hN => by
    have := run_make (P := Tryz.prog) W 22 26 i0 _ Tryz.underlying22 hi hz0 .i64 .i64 0 (N : Int) (by omega) (by omega) (by rw [hz2]; omega) (by omega)
    simpa [hz1] using this
  generalize hNN : R * C = N at *
  have hmk' := fun W => hmk N W hN
  clear hmk
  have HN := Lib.hid hNN
  clear hNN
  have HC := Lib.hid hcall
  clear hcall
  have HJ := Lib.hid hJ
  clear hJ
  go_enter Tryz.func93, Tryz.ntmps93
  go_wp2
  have hst0 := BSt.start (w := w) (R := R) (C := C) N hN
  have hj0 : J 0 (((w.alloc (Obj.cells #[.int .i64 0, .int .i64 0, .slice none 0 0] 34)).alloc (Obj.cells (madeCells #[.int .i64 0, .int .i64 0, .int .i64 0, .string ⟨#[]⟩, .bool false, .int .i64 0] (N * 6)) 26)).alloc (Obj.cells #[.int .i64 R, .int .i64 C, .slice (some ⟨w.heap.size + 1, 0, none⟩) 0 N] 34)) := HJ.out 0 w _ (Keep.of_ext (by repeat (first | exact Ext.refl _ | apply Ext.drew | apply Ext.alloc | apply Ext.more_))) hJ0
  go_loopw [18] (fun i wr => ∃ r : Nat, r ≤ R ∧ i = .int .i64 r ∧ BSt w.heap.size R C N (r * C) (vals g C (r * C)) wr ∧ Hid (J (r * C) wr)) (fun i _ => R - (intOf i).toNat)
  case atStart => exact ⟨0, Nat.zero_le _, rfl, by simpa [vals] using hst0, by show J _ _; simpa using hj0⟩
  case round =>
    clear hst0 hj0
    obtain ⟨r, hr, rfl, hst, HJr⟩ := hrel
    by_cases hlt : r < R
    · go_wp2
      obtain ⟨wo, rfl⟩ : ∃ wo : World, wo = wr := ⟨_, rfl⟩
      go_loopw [22] (fun i wr => ∃ j : Nat, j ≤ C ∧ i = .int .i64 j ∧ BSt w.heap.size R C N (r * C + j) (vals g C (r * C + j)) wr ∧ Hid (J (r * C + j) wr)) (fun i _ => C - (intOf i).toNat)
      case atStart => exact ⟨0, Nat.zero_le _, rfl, by simpa using hst, by show J _ _; simpa using HJr.out⟩
      case round =>
        clear hst HJr
        obtain ⟨j, hj, rfl, hst, HJr⟩ := hrel
        by_cases hjt : j < C
        · go_wp2
          have hkN : r * C + j < N := by
            rw [← HN.out]
            have : (r + 1) * C ≤ R * C := Nat.mul_le_mul_right C hlt
            rw [Nat.succ_mul] at this
            omega
          refine wp_plan (S := fun W => W.heap[w.heap.size + 1 + 1]? = some (.cells #[.int .i64 R, .int .i64 C, .slice (some ⟨w.heap.size + 1, 0, none⟩) (r * C + j) N] 34)) [(0, 0), (1, 0), (2, 0), (3, 0), (4, 0), (5, 1), (6, 1), (7, 1), (8, 0), (9, 2)] [9] (by kernel_rfl) (by kernel_rfl) (by kernel_rfl) (fun _ _ d _ _ h => by cases d <;> exact h) hst.b2 ?_
          (refine wpPl_read (v := ?_) rfl ?_ (fun w1 h1 => ?_) ?_; rotate_left 1; rfl; (go_simp; first | done | rfl))
          try simp only [Act.put, zqA, zqB, zqC]
          (refine wpPl_read (v := ?_) rfl ?_ (fun w1 h1 => ?_) ?_; rotate_left 1; rfl; (have h2 := cell_of_row _ _ 2 _ _ _ h1; clear h1; go_simp; first | done | rfl))
          try simp only [Act.put, zqA, zqB, zqC]
          iterate 3 ((refine wpPl_read (v := ?_) rfl ?_ (fun w1 h1 => ?_) ?_; rotate_left 1; rfl; (clear h1; go_simp; first | done | rfl)); try simp only [Act.put, zqA, zqB, zqC])
          (refine wpPl_eff rfl ?_ (fun K hK => ?_); rfl; go_simp)
          refine (HC.out r j _ hlt hjt (HJ.out _ _ _ ((Keep.refl _ _).drew) HJr.out) hst.size).mono ?_
          rintro e w1 ⟨rfl, hJ1, hL1⟩
          have hL : Leaves w.heap.size wr w1 := ⟨hL1.size, hL1.b0, hL1.b1, hL1.b2⟩
          refine hK _ _ (hL.b2.trans hst.b2) ?_
          try simp only [Act.put, zqA, zqB, zqC]
          (refine wpPl_eff rfl ?_ (fun K hK => ?_); rfl; go_simp)
          refine hK _ _ ((Below.heap_alloc _ _ _ (by have := hL.size; have := hst.size; omega)).trans (hL.b2.trans hst.b2)) ?_
          try simp only [Act.put, zqA, zqB, zqC]
          (refine wpPl_eff rfl ?_ (fun K hK => ?_); rfl)
          refine wp_append_fits _ _ _ _ rfl (w.heap.size + 1) 26 i0 6 Tryz.underlying22 hi hz1 (w.heap.size + 1) (r * C + j) N (vcells (vals g C (r * C + j))) rfl (hst.own_later hL _) ⟨w1.heap.size, 0, none⟩ 1 1 (g r j).cells rfl rfl (new_cells _ _ _) (cells_one _) (by omega) ?_
          intro w3 ho3 hg3
          refine hK _ _ ((hg3.block _ (by have := hL.size; have := hst.size; simp; omega) (by simp)).trans ((Below.heap_alloc _ _ _ (by have := hL.size; have := hst.size; omega)).trans (hL.b2.trans hst.b2))) ?_
          try simp only [Act.put, zqA, zqB, zqC]
          (refine wpPl_read (v := ?_) rfl ?_ (fun w1 h1 => ?_) ?_; rotate_left 1; rfl; (clear h1; go_simp; first | done | rfl))
          try simp only [Act.put, zqA, zqB, zqC]
          have hb2 : w3.heap[w.heap.size + 1 + 1]? = some (.cells #[.int .i64 R, .int .i64 C, .slice (some ⟨w.heap.size + 1, 0, none⟩) (r * C + j) N] 34) := (hg3.block _ (by have := hL.size; have := hst.size; simp; omega) (by simp)).trans ((Below.heap_alloc _ _ _ (by have := hL.size; have := hst.size; omega)).trans (hL.b2.trans hst.b2))
          have c2 := cell_of_row _ _ 2 _ _ _ hb2
          have f2 := frozen_of_row _ _ 2 _ _ hb2
          have hst2 : BSt w.heap.size R C N (r * C + (j + 1)) (vals g C (r * C + (j + 1))) (w3.setCell ⟨w.heap.size + 1 + 1, 2, none⟩ (.slice (some ⟨w.heap.size + 1, 0, none⟩) (r * C + j + 1) N)) := by
            rw [show r * C + (j + 1) = r * C + j + 1 by omega, vals_succ g C r j hjt]
            exact hst.step hL hg3 ho3
          have hJ3 : Hid (J (r * C + (j + 1)) (w3.setCell ⟨w.heap.size + 1 + 1, 2, none⟩ (.slice (some ⟨w.heap.size + 1, 0, none⟩) (r * C + j + 1) N))) :=
            HJ.out _ _ _ (((Keep.of_ext ((Ext.refl w1).alloc _)).trans (Keep.of_grown hg3)).trans (Keep.of_set w3 _ (.inr (.inr rfl)))) hJ1
          clear hb2 ho3 hg3 hst
          (refine wpPl_tail rfl ?_ (fun K hK => ?_); rfl; go_simp)
          refine hK _ _ ?_
          try simp only [Act.put, zqA, zqB, zqC]
          refine wpPl_nil ?_
          go_wp2
          exact ⟨⟨j + 1, by omega, by go_num, hst2, hJ3⟩, by simp [intOf]; omega⟩
        · go_wp2
          obtain rfl : j = C := by omega
          refine ⟨⟨r + 1, by omega, by go_num, by rw [Nat.succ_mul]; exact hst, by rw [Nat.succ_mul]; exact HJr⟩, by simp [intOf]; omega⟩
    · obtain rfl : r = R := by omega
      have e := HN.out
      rw [e] at hst HJr
      clear e
      have c20 := cell_of_row _ _ 0 _ _ _ hst.b2
      have c21 := cell_of_row _ _ 1 _ _ _ hst.b2
      have c22 := cell_of_row _ _ 2 _ _ _ hst.b2
      have c00 := cell_of_row _ _ 0 _ _ _ hst.b0
      have c01 := cell_of_row _ _ 1 _ _ _ hst.b0
      have c02 := cell_of_row _ _ 2 _ _ _ hst.b0
      have f00 := frozen_of_row _ _ 0 _ _ hst.b0
      have f01 := frozen_of_row _ _ 1 _ _ hst.b0
      have f02 := frozen_of_row _ _ 2 _ _ hst.b0
      go_wp2
      refine bodyPost_ret (results_cell_row (by rfl) _ _ w.heap.size 34 #[.int .i64 r, .int .i64 C, .slice (some ⟨w.heap.size + 1, 0, none⟩) N N] (0, 0) _ (by rfl) ?_ Tryz.underlying34 (by rfl) (by kernel_rfl)) rfl ⟨some ⟨w.heap.size + 1, 0, none⟩, N, rfl, ?_, Nat.le_refl _, HJ.out _ _ _ (Keep.three _ _ _ _ _) HJr.out⟩
      · simp [World.setCell, Array.getElem?_modify, hst.b0]
      · obtain ⟨A, c, hA, hrd, _⟩ := Rd.of_own hst.own
        simp only [Value.slice.injEq, true_and] at hA
        obtain ⟨rfl, rfl⟩ := hA
        exact Rd.mono (((hrd.set_far _ (by simp)).set_far _ (by simp)).set_far _ (by simp)) (by omega)
end Go.Proofs.YteigcfflljoioaaGreatDoor
namespace Go.Proofs.YteigcfflljoioaaGreatDoor
open Go.RowKit
/-- The three cells of an array's variable. -/
abbrev ABox (pb : Nat) (r c : Int) (A : Option Addr) (n cap : Nat) (W : World) : Prop :=
  pb < W.heap.size ∧ W.cell? ⟨pb, 0, none⟩ = some (.int .i64 r) ∧ W.cell? ⟨pb, 1, none⟩ = some (.int .i64 c) ∧ W.cell? ⟨pb, 2, none⟩ = some (.slice A n cap)
def getV (l : List Val) (k : Nat) : Val := (l[k]?).getD Val.zero
theorem ArrIn.get {w : World} {A : Option Addr} {n cap : Nat} {l : List Val} (h : ArrIn w A n cap l) {k : Nat} (hk : k < n) : ∃ b off, A = some ⟨b, off, none⟩ ∧ ValAt w b (off + k * 6) (getV l k) ∧ (getV l k).ok := by
  obtain ⟨x, b, off, hx, ho, hA, hv⟩ := h.at hk
  have : getV l k = x := by simp [getV, hx]
  rw [this]
  exact ⟨b, off, hA, hv, ho⟩
theorem cell_prod {C i j : Nat} (R : Nat) (hi : i < R) (hj : j < C) (hN : R * C ≤ 4096) : i * C + j < R * C ∧ i * C ≤ 4096 := by
  have : (i + 1) * C ≤ R * C := Nat.mul_le_mul_right C hi
  rw [Nat.succ_mul] at this
  omega
theorem right_parts {r c : Int} {l : List Val} (h : rightA r c l = true) : ∃ R C : Nat, r = R ∧ c = C ∧ 1 ≤ R ∧ 1 ≤ C ∧ R * C ≤ 4096 ∧ l.length = R * C ∧ (∀ x ∈ l, valRight x = true) := by
  simp only [rightA, Bool.and_eq_true, decide_eq_true_eq, List.all_eq_true] at h
  obtain ⟨⟨hf, hn⟩, ha⟩ := h
  obtain ⟨f1, f2, f3, f4, f5, f6⟩ := fits_mul hf
  obtain ⟨R, rfl⟩ := Int.eq_ofNat_of_zero_le (show 0 ≤ r by omega)
  obtain ⟨C, rfl⟩ := Int.eq_ofNat_of_zero_le (show 0 ≤ c by omega)
  rw [← Int.natCast_mul] at hn f6
  exact ⟨R, C, rfl, rfl, by omega, by omega, by omega, by omega, ha⟩
def hasB (r c i j : Int) : Bool := decide (0 ≤ i) && decide (i < r) && decide (0 ≤ j) && decide (j < c)
set_option maxHeartbeats 400000 in
theorem has_any (r c i j : Int) (s : Value) (w : World) (_hs : s.oneCell' = true) :
    Calls Tryz.prog 144 #[AV r c s, .int .i64 i, .int .i64 j] w fun e w' => e = .returned (.bool (hasB r c i j)) ∧ Ext w w' := by
  go_enter Tryz.func144, Tryz.ntmps144
  go_upto_region 1 with (fail)
  refine wp_region_lit ?_
  iterate 3 ((refine wpL_read (v := ?_) rfl ?_ ?_; rotate_left 1; (go_simp; first | done | rfl)); try simp only [Act.put, zqA, zqB, zqC])
  iterate 4 ((refine wpL_gread (v := ?_) (c := ?_) rfl rfl rfl ?_ (fun hc => ?_) ?_; rotate_left 2; (first | exact gc_t _ | exact gc_f _ | exact gc_gt _ _ | exact gc_gf _ _); ((try simp only [gv_of hc]); (try (have hc1 := and_l hc; (try simp only [gv_of hc1]); (try (have hc2 := and_l hc1; (try simp only [gv_of hc2]))))); go_simp; first | done | rfl)); try simp only [Act.put, zqA, zqB, zqC])
  first | (refine wpL_pick_and rfl rfl rfl rfl rfl ?_) | (refine wpL_pick_or rfl rfl rfl rfl rfl ?_)
  try simp only [Act.put, zqA, zqB, zqC]
  (refine wpL_read (v := ?_) rfl ?_ ?_; rotate_left 1; (go_simp; first | done | rfl))
  try simp only [Act.put, zqA, zqB, zqC]
  iterate 2 ((refine wpL_gread (v := ?_) (c := ?_) rfl rfl rfl ?_ (fun hc => ?_) ?_; rotate_left 2; (first | exact gc_t _ | exact gc_f _ | exact gc_gt _ _ | exact gc_gf _ _); ((try simp only [gv_of hc]); (try (have hc1 := and_l hc; (try simp only [gv_of hc1]); (try (have hc2 := and_l hc1; (try simp only [gv_of hc2]))))); go_simp; first | done | rfl)); try simp only [Act.put, zqA, zqB, zqC])
  first | (refine wpL_pick_and rfl rfl rfl rfl rfl ?_) | (refine wpL_pick_or rfl rfl rfl rfl rfl ?_)
  try simp only [Act.put, zqA, zqB, zqC]
  (refine wpL_read (v := ?_) rfl ?_ ?_; rotate_left 1; (go_simp; first | done | rfl))
  try simp only [Act.put, zqA, zqB, zqC]
  iterate 4 ((refine wpL_gread (v := ?_) (c := ?_) rfl rfl rfl ?_ (fun hc => ?_) ?_; rotate_left 2; (first | exact gc_t _ | exact gc_f _ | exact gc_gt _ _ | exact gc_gf _ _); ((try simp only [gv_of hc]); (try (have hc1 := and_l hc; (try simp only [gv_of hc1]); (try (have hc2 := and_l hc1; (try simp only [gv_of hc2]))))); go_simp; first | done | rfl)); try simp only [Act.put, zqA, zqB, zqC])
  first | (refine wpL_pick_and rfl rfl rfl rfl rfl ?_) | (refine wpL_pick_or rfl rfl rfl rfl rfl ?_)
  try simp only [Act.put, zqA, zqB, zqC]
  (refine wpL_read (v := ?_) rfl ?_ ?_; rotate_left 1; (go_simp; first | done | rfl))
  try simp only [Act.put, zqA, zqB, zqC]
  refine wpList_nil ?_
  try go_simp
  go_wp2
  go_ret
  exact ⟨rfl, by repeat (first | exact Ext.refl _ | apply Ext.drew | apply Ext.alloc | apply Ext.more_)⟩
end Go.Proofs.YteigcfflljoioaaGreatDoor
namespace Go.Proofs.YteigcfflljoioaaGreatDoor
open Go.RowKit
theorem bad9_ok : bad9.ok := ⟨⟨by simp [bad9], by simp [bad9]⟩, ⟨by simp [bad9], by simp [bad9]⟩, ⟨by simp [bad9], by simp [bad9]⟩, by simp [bad9, ByteArray.size], ⟨by simp [bad9], by simp [bad9]⟩⟩
theorem oneV_ok {x : Val} (h : x.ok) : ∀ y ∈ [oneV x], y.ok := by
  intro y hy
  obtain rfl : y = oneV x := by simpa using hy
  unfold oneV; split
  · exact h
  · exact bad9_ok
end Go.Proofs.YteigcfflljoioaaGreatDoor
namespace Go.Proofs.YteigcfflljoioaaGreatDoor
open Go.RowKit
theorem right_bd {R C : Nat} {l : List Val} (h : rightA R C l = true) : 1 ≤ R ∧ 1 ≤ C ∧ R * C ≤ 4096 ∧ l.length = R * C ∧ R ≤ 4096 ∧ C ≤ 4096 := by
  obtain ⟨R', C', e1, e2, r1, r2, r3, r4, _⟩ := right_parts h
  obtain rfl : R = R' := by omega
  obtain rfl : C = C' := by omega
  have h1 : R * 1 ≤ R * C := Nat.mul_le_mul_left R r2
  have h2 : 1 * C ≤ R * C := Nat.mul_le_mul_right C r1
  exact ⟨r1, r2, r3, r4, by omega, by omega⟩
theorem fits_nat {a b : Nat} : fitsB a b = true ↔ 1 ≤ a ∧ 1 ≤ b ∧ a * b ≤ 4096 := by
  constructor
  · intro h
    obtain ⟨f1, f2, f3, f4, f5, f6⟩ := fits_mul h
    rw [← Int.natCast_mul] at f6
    exact ⟨by omega, by omega, by omega⟩
  · intro ⟨h1, h2, h3⟩
    have ha : a * 1 ≤ a * b := Nat.mul_le_mul_left a h2
    have hq : b ≤ 4096 / a := (Nat.le_div_iff_mul_le (by omega)).2 (by rw [Nat.mul_comm]; exact h3)
    simp only [fitsB, Bool.and_eq_true, decide_eq_true_eq]
    refine ⟨⟨⟨by omega, by omega⟩, by omega⟩, ?_⟩
    have : ((b : Nat) : Int) ≤ ((4096 / a : Nat) : Int) := by omega
    simpa using this
end Go.Proofs.YteigcfflljoioaaGreatDoor
namespace Go.Proofs.YteigcfflljoioaaGreatDoor
open Go.RowKit
theorem badV_ok (f : Int) (h : I64 f) : (badV f).ok := ⟨⟨by simp [badV], by simp [badV]⟩, ⟨by simp [badV], by simp [badV]⟩, ⟨by simp [badV], by simp [badV]⟩, by simp [badV, ByteArray.size], h⟩
theorem getV_mem {l : List Val} {k : Nat} (h : k < l.length) : getV l k ∈ l := by
  simp [getV, List.getElem?_eq_getElem h]
theorem vals_mem {g : Nat → Nat → Val} {C k : Nat} {y : Val} (h : y ∈ vals g C k) : ∃ i j, y = g i j := by
  unfold vals at h
  obtain ⟨t, _, rfl⟩ := List.mem_map.1 h
  exact ⟨_, _, rfl⟩
/-- An array as data. -/
structure NA where
  R : Nat
  C : Nat
  l : List Val
theorem rightA_nat {R C : Nat} {l : List Val} : rightA R C l = true ↔ 1 ≤ R ∧ 1 ≤ C ∧ R * C ≤ 4096 ∧ l.length = R * C ∧ ∀ x ∈ l, valRight x = true := by
  simp only [rightA, Bool.and_eq_true, fits_nat, decide_eq_true_eq, List.all_eq_true]
  constructor
  · rintro ⟨⟨⟨h1, h2, h3⟩, h4⟩, h5⟩
    refine ⟨h1, h2, h3, ?_, h5⟩
    have : ((l.length : Nat) : Int) = ((R * C : Nat) : Int) := by rw [h4]; simp
    omega
  · rintro ⟨h1, h2, h3, h4, h5⟩
    exact ⟨⟨⟨h1, h2, h3⟩, by rw [h4]; simp⟩, h5⟩
theorem I64_6 : I64 6 := ⟨by omega, by omega⟩
theorem hasB_iff {R C : Nat} {i j : Int} : hasB R C i j = true ↔ 0 ≤ i ∧ i < R ∧ 0 ≤ j ∧ j < C := by
  simp only [hasB, Bool.and_eq_true, decide_eq_true_eq, and_assoc]
theorem hasB_no {R C : Nat} {i j : Int} (h : ¬ (0 ≤ i ∧ i < R ∧ 0 ≤ j ∧ j < C)) : hasB R C i j = false := by
  cases hh : hasB R C i j with
  | false => rfl
  | true => exact absurd (hasB_iff.1 hh) h
theorem fits_no {a b : Nat} (_h1 : 1 ≤ a) (_h2 : 1 ≤ b) (h : ¬ a * b ≤ 4096) : fitsB a b = false := by
  cases hh : fitsB a b with
  | false => rfl
  | true => exact absurd (fits_nat.1 hh).2.2 h
end Go.Proofs.YteigcfflljoioaaGreatDoor
namespace Go.Proofs.YteigcfflljoioaaGreatDoor
open Go.RowKit
theorem getV_all {P : Val → Prop} {l : List Val} {k : Nat} (h : ∀ x ∈ l, P x) (hk : k < l.length) : P (getV l k) := h _ (getV_mem hk)
end Go.Proofs.YteigcfflljoioaaGreatDoor
namespace Go.Proofs.YteigcfflljoioaaGreatDoor
open Go.RowKit
theorem lt_of_block {w : World} {b : Nat} {o : Obj} (h : w.heap[b]? = some o) : b < w.heap.size := by
  rcases Nat.lt_or_ge b w.heap.size with hl | hl
  · exact hl
  · rw [Array.getElem?_eq_none hl] at h; cases h
end Go.Proofs.YteigcfflljoioaaGreatDoor
namespace Go.Proofs.YteigcfflljoioaaGreatDoor
open Go.RowKit
/-- Blocks below lo but pa, and those from W0 on, are as they were. -/
structure Still (lo pa : Nat) (W0 W W' : World) : Prop where
  os : W'.os = W.os
  tape : W'.tape = W.tape
  output : W'.output = W.output
  size : W.heap.size ≤ W'.heap.size
  block : ∀ b, b < W.heap.size → (b < lo ∧ b ≠ pa) ∨ W0.heap.size ≤ b → W'.heap[b]? = W.heap[b]?
theorem Still.of_ext {lo pa : Nat} {W0 W W' : World} (h : Ext W W') : Still lo pa W0 W W' := ⟨h.os, h.tape, h.output, h.size, fun _ hb _ => h.block hb⟩
theorem Still.trans {lo pa : Nat} {W0 a b c : World} (h : Still lo pa W0 a b) (k : Still lo pa W0 b c) : Still lo pa W0 a c :=
  ⟨k.os.trans h.os, k.tape.trans h.tape, k.output.trans h.output, Nat.le_trans h.size k.size, fun i hi hc => (k.block i (Nat.lt_of_lt_of_le hi h.size) hc).trans (h.block i hi hc)⟩
theorem Still.set {lo pa : Nat} {W0 W W' : World} (h : Still lo pa W0 W W') {p : Addr} (v : Value) (hp : W.heap.size ≤ p.block) : Still lo pa W0 W (W'.setCell p v) :=
  ⟨h.os, h.tape, h.output, by simp only [World.setCell, Array.size_modify]; exact h.size, fun b hb hc => (Below.heap_setCell _ _ _ _ (by omega)).trans (h.block b hb hc)⟩
/-- All is as it was, but in the blocks from lo to hi. -/
structure Aside (lo hi : Nat) (W W' : World) : Prop where
  os : W'.os = W.os
  tape : W'.tape = W.tape
  output : W'.output = W.output
  size : W.heap.size ≤ W'.heap.size
  block : ∀ b, b < W.heap.size → ¬ (lo ≤ b ∧ b < hi) → W'.heap[b]? = W.heap[b]?
theorem Aside.of_ext {lo hi : Nat} {W W' : World} (h : Ext W W') : Aside lo hi W W' := ⟨h.os, h.tape, h.output, h.size, fun _ hb _ => h.block hb⟩
theorem Aside.trans {lo hi : Nat} {a b c : World} (h : Aside lo hi a b) (k : Aside lo hi b c) : Aside lo hi a c :=
  ⟨k.os.trans h.os, k.tape.trans h.tape, k.output.trans h.output, Nat.le_trans h.size k.size, fun i hi' hc => (k.block i (Nat.lt_of_lt_of_le hi' h.size) hc).trans (h.block i hi' hc)⟩
theorem Aside.set {lo hi : Nat} (W : World) {p : Addr} (v : Value) (h1 : lo ≤ p.block) (h2 : p.block < hi) : Aside lo hi W (W.setCell p v) :=
  ⟨rfl, rfl, rfl, by simp [World.setCell], fun b hb hc => Below.heap_setCell _ _ _ _ (by omega)⟩
end Go.Proofs.YteigcfflljoioaaGreatDoor
namespace Go.Proofs.YteigcfflljoioaaGreatDoor
open Go.RowKit
/-- Nothing that was there turned, but the block pa. -/
structure ExtBut (pa : Nat) (W W' : World) : Prop where
  os : W'.os = W.os
  tape : W'.tape = W.tape
  output : W'.output = W.output
  size : W.heap.size ≤ W'.heap.size
  block : ∀ b, b < W.heap.size → b ≠ pa → W'.heap[b]? = W.heap[b]?
theorem ExtBut.of_ext {pa : Nat} {W W' : World} (h : Ext W W') : ExtBut pa W W' := ⟨h.os, h.tape, h.output, h.size, fun _ hb _ => h.block hb⟩
theorem ExtBut.trans {pa : Nat} {a b c : World} (h : ExtBut pa a b) (k : ExtBut pa b c) : ExtBut pa a c :=
  ⟨k.os.trans h.os, k.tape.trans h.tape, k.output.trans h.output, Nat.le_trans h.size k.size, fun i hi hc => (k.block i (Nat.lt_of_lt_of_le hi h.size) hc).trans (h.block i hi hc)⟩
theorem ExtBut.set {pa : Nat} {W W' : World} (h : ExtBut pa W W') {p : Addr} (v : Value) (hp : W.heap.size ≤ p.block) : ExtBut pa W (W'.setCell p v) :=
  ⟨h.os, h.tape, h.output, by simp only [World.setCell, Array.size_modify]; exact h.size, fun b hb hc => (Below.heap_setCell _ _ _ _ (by omega)).trans (h.block b hb hc)⟩
theorem ArrIn.but {pa : Nat} {W W' : World} {A : Option Addr} {n cap : Nat} {l : List Val} (h : ArrIn W A n cap l) (hk : ExtBut pa W W') (hA : ∀ b off, A = some ⟨b, off, none⟩ → b ≠ pa) : ArrIn W' A n cap l := by
  refine ⟨fun j u hu => ?_, h.len, h.cap, h.small, h.ok⟩
  obtain ⟨b, off, e, hb, hc⟩ := h.rd j u hu
  refine ⟨b, off, e, hb, ?_⟩
  rw [World.cell?_of_block (a := ⟨b, off + j, none⟩) (hk.block b (lt_of_cell hc) (hA b off e))]; exact hc
end Go.Proofs.YteigcfflljoioaaGreatDoor
namespace Go.Proofs.YteigcfflljoioaaGreatDoor
open Go.RowKit
/-- An array's values stand in no array's variable: that one may turn. -/
theorem ArrIn.box {X : World} {os : Array Obj} {d : Nat} {i0 i1 : Int} {p : Option Addr} {q r : Nat} {ty : TypeId} {A : Option Addr} {n cap : Nat} {l : List Val} (h : ArrIn (more (X.alloc (.cells #[.int .i64 i0, .int .i64 i1, .slice p q r] ty)) os d) A n cap l) (C' : Array Value) (ty' : TypeId) (d' : Nat) :
    ArrIn (more (X.alloc (.cells C' ty')) os d') A n cap l := by
  refine ⟨fun j u hu => ?_, h.len, h.cap, h.small, h.ok⟩
  obtain ⟨b, off, hA, hb, hc⟩ := h.rd j u hu
  refine ⟨b, off, hA, hb, ?_⟩
  have hne : b ≠ X.heap.size := by
    intro e
    cases l with
    | nil => simp [vcells] at hu
    | cons x l =>
      obtain ⟨b', off', hA', _, hc3⟩ := h.rd 3 (.string x.text) (by simp [vcells, Val.cells])
      rw [hA] at hA'
      simp only [Option.some.injEq, Addr.mk.injEq, and_true] at hA'
      obtain ⟨rfl, rfl⟩ := hA'
      subst e
      rw [more_cell _ _ _ _ _ (by simp), World.cell?_alloc_at _ _ _ _ rfl] at hc3
      simp at hc3
  rw [← hc]
  refine World.cell?_of_block ?_
  show (more (X.alloc (.cells C' ty')) os d').heap[b]? = (more (X.alloc _) os d).heap[b]?
  simp only [more, World.alloc, Array.getElem?_append, Array.size_push, Array.getElem?_push]
  by_cases hlt : b < X.heap.size + 1
  · rw [if_pos hlt, if_pos hlt, if_neg hne, if_neg hne]
  · rw [if_neg hlt, if_neg hlt]
def commonO (R C R' C' : Nat) : Option (Nat × Nat) := if max R R' * max C C' ≤ 4096 then some (max R R', max C C') else none
theorem common_at {R C R' C' x y : Nat} {k : Bool} (M N : Nat) (hM : M = max R R') (hN : N = max C C') (h1 : 1 ≤ M) (h2 : 1 ≤ N) (hx : ((commonO R C R' C').getD (0, 0)) = (x, y)) (hk : (commonO R C R' C').isSome = k) {fb : Bool} (hfb : fitsB M N = fb) : x = (if fb then M else 0) ∧ y = (if fb then N else 0) ∧ k = fb := by
  subst hM hN
  unfold commonO at hx hk
  by_cases h : max R R' * max C C' ≤ 4096
  · rw [if_pos h] at hx hk
    have : fb = true := by rw [← hfb]; exact fits_nat.2 ⟨h1, h2, h⟩
    subst this
    simp only [Option.getD_some, Prod.mk.injEq, Option.isSome_some] at hx hk
    exact ⟨hx.1.symm, hx.2.symm, hk.symm⟩
  · rw [if_neg h] at hx hk
    have : fb = false := by rw [← hfb]; exact fits_no h1 h2 h
    subst this
    simp only [Option.getD_none, Prod.mk.injEq, Option.isSome_none] at hx hk
    exact ⟨hx.1.symm, hx.2.symm, hk.symm⟩
set_option maxHeartbeats 800000 in
theorem common_c (R C R' C' : Nat) (A B : Option Addr) (n cap n' cap' : Nat) (l l' : List Val) (w : World) (h : ArrIn w A n cap l) (h' : ArrIn w B n' cap' l') (hr : rightA R C l = true) (hr' : rightA R' C' l' = true) (x y : Nat) (k : Bool) (hx : ((commonO R C R' C').getD (0, 0)) = (x, y)) (hk : (commonO R C R' C').isSome = k) :
    Calls Tryz.prog 91 #[AV R C (.slice A n cap), AV R' C' (.slice B n' cap')] w fun e w' => e = .returned (.tuple #[.int .i64 x, .int .i64 y, .bool k]) ∧ Ext w w' := by
  obtain ⟨r1, r2, r3, r4, r5, r6⟩ := right_bd hr
  obtain ⟨s1, s2, s3, s4, s5, s6⟩ := right_bd hr'
  clear r4 s4
  have HX := Lib.hid hx
  have HK := Lib.hid hk
  clear hx hk
  go_enter Tryz.func91, Tryz.ntmps91
  go_wp2_with fail
  refine (right_any _ _ _ _ _ _ _ (h.ext (by repeat (first | (with_reducible (first | exact Ext.refl _ | exact hX | exact ext_d _ _ _ _ | exact ext_app _ _ _ _ _)) | ((with_reducible refine ext_suffix ⟨_, ?_⟩); (try simp only [Array.append_assoc]); rfl) | (with_reducible (first | apply Ext.drew | apply Ext.alloc | apply Ext.more_)))))).mono ?_; rintro e w' ⟨rfl, hb⟩; obtain ⟨os1, d1, rfl⟩ := hb.more; clear hb
  go_wp2_with fail
  refine (right_any _ _ _ _ _ _ _ (h'.ext (by repeat (first | (with_reducible (first | exact Ext.refl _ | exact hX | exact ext_d _ _ _ _ | exact ext_app _ _ _ _ _)) | ((with_reducible refine ext_suffix ⟨_, ?_⟩); (try simp only [Array.append_assoc]); rfl) | (with_reducible (first | apply Ext.drew | apply Ext.alloc | apply Ext.more_)))))).mono ?_; rintro e w' ⟨rfl, hb⟩; obtain ⟨os2, d2, rfl⟩ := hb.more; clear hb
  go_wp2_with fail
  refine wp_plan (S := Ext _) [(0, 0), (1, 0), (2, 0), (3, 0), (4, 0), (5, 0), (6, 0), (7, 0), (8, 0), (9, 0), (10, 0), (11, 0)] [] (by kernel_rfl) (by kernel_rfl) (by kernel_rfl) (fun _ _ d _ _ h => by cases d <;> exact h) (Ext.drew (Ext.refl _)) ?_
  iterate 12 ((refine wpPl_read (v := ?_) rfl ?_ (fun _ h => ?_) ?_; rotate_left 1; rfl; (obtain ⟨_, _, rfl⟩ := h.more; go_simp; try rfl)); try simp only [Act.put, zqA, zqB, zqC])
  refine wpPl_nil ?_
  go_wp2_with fail
  all_goals
    (try simp only [show (max (R : Int) R') = ((max R R' : Nat) : Int) by omega, show (max (C : Int) C') = ((max C C' : Nat) : Int) by omega])
    refine (fits_any _ _ _).mono ?_
    rintro e w' ⟨rfl, rfl⟩
    generalize hfb : fitsB _ _ = fb
    obtain ⟨e1, e2, e3⟩ := common_at _ _ (by omega) (by omega) (by omega) (by omega) HX.out HK.out hfb
    subst e1 e2 e3
    clear HX HK hfb
    cases k
    · go_wp2
      go_ret3
      exact ⟨rfl, by repeat (first | (with_reducible (first | exact Ext.refl _ | exact hX | exact ext_d _ _ _ _ | exact ext_app _ _ _ _ _)) | ((with_reducible refine ext_suffix ⟨_, ?_⟩); (try simp only [Array.append_assoc]); rfl) | (with_reducible (first | apply Ext.drew | apply Ext.alloc | apply Ext.more_)))⟩
    · go_wp2
      go_ret3
      exact ⟨rfl, by repeat (first | (with_reducible (first | exact Ext.refl _ | exact hX | exact ext_d _ _ _ _ | exact ext_app _ _ _ _ _)) | ((with_reducible refine ext_suffix ⟨_, ?_⟩); (try simp only [Array.append_assoc]); rfl) | (with_reducible (first | apply Ext.drew | apply Ext.alloc | apply Ext.more_)))⟩
end Go.Proofs.YteigcfflljoioaaGreatDoor
namespace Go.Proofs.YteigcfflljoioaaGreatDoor
open Go.RowKit
def spI (R i : Nat) : Nat := if R = 1 then 0 else i
def spreadO (R C : Nat) (l : List Val) (i j : Nat) : Option Val := if spI R i < R ∧ spI C j < C then some (getV l (spI R i * C + spI C j)) else none
def orZero (o : Option Val) : Val := o.getD Val.zero
/-- The value at a place of the array, by the place that counts there. -/
def atO (R C : Nat) (l : List Val) (si sj : Nat) : Option Val := if si < R ∧ sj < C then some (getV l (si * C + sj)) else none
set_option maxHeartbeats 800000 in
theorem spread_at (R C i j si sj : Nat) (A : Option Addr) (n cap : Nat) (l : List Val) (w : World) (h : ArrIn w A n cap l) (hn : n = R * C) (hN : n ≤ 4096) (hi : ((R : Int) == 1) = true ∧ si = 0 ∨ ((R : Int) == 1) = false ∧ si = i) (hj : ((C : Int) == 1) = true ∧ sj = 0 ∨ ((C : Int) == 1) = false ∧ sj = j) (x : Val) (k : Bool) (hx0 : orZero (atO R C l si sj) = x) (hk0 : (atO R C l si sj).isSome = k) :
    Calls Tryz.prog 95 #[AV R C (.slice A n cap), .int .i64 i, .int .i64 j] w fun e w' => e = .returned (.tuple #[VV x.kind x.mant x.exp x.text x.truth x.fault, .bool k]) ∧ Ext w w' := by
  by_cases hh : si < R ∧ sj < C
  · have hx : getV l (si * C + sj) = x := by rw [← hx0]; simp [atO, hh, orZero]
    have hk1 : k = true := by rw [← hk0]; simp [atO, hh]
    subst hk1
    clear hx0 hk0
    obtain ⟨hk, hk2⟩ := cell_prod R hh.1 hh.2 (by omega)
    have hB : hasB R C si sj = true := hasB_iff.2 (by omega)
    subst hn
    obtain ⟨b, off, rfl, hv, ho⟩ := h.get hk
    rw [hx] at hv
    clear hx ho hh
    have w1 : IntKind.i64.wrap ((si : Int) * (C : Int)) = ((si * C : Nat) : Int) := by rw [IntKind.wrap_i64, Int.natCast_mul]; omega
    have hbl : b < w.heap.size := hv.lt
    rcases hi with ⟨hi, rfl⟩ | ⟨hi, rfl⟩ <;> rcases hj with ⟨hj, rfl⟩ | ⟨hj, rfl⟩
    all_goals
      (try simp only [Int.natCast_zero] at hB w1)
      (try simp only [Nat.zero_mul, Nat.zero_add, Nat.add_zero] at hv hk w1)
      obtain ⟨v0, v1, v2, v3, v4, v5⟩ := hv
      generalize hrc : R * C = rc at *
      clear hrc
      (try (generalize hjc : si * C = jc at *; clear hjc))
      go_enter Tryz.func95, Tryz.ntmps95
      go_wp2_with (go_at_call 144; refine (has_any _ _ _ _ _ _ rfl).mono ?_; rintro e w' ⟨rfl, hb⟩; obtain ⟨os1, d1, rfl⟩ := hb.more; clear hb)
      exact bodyPost_ret (v := .tuple #[VV x.kind x.mant x.exp x.text x.truth x.fault, .bool true]) (by simp [results, Tryz.results95, go_sem]) rfl ⟨rfl, by repeat (first | (with_reducible (first | exact Ext.refl _ | exact hX | exact ext_d _ _ _ _ | exact ext_app _ _ _ _ _)) | ((with_reducible refine ext_suffix ⟨_, ?_⟩); (try simp only [Array.append_assoc]); rfl) | (with_reducible (first | apply Ext.drew | apply Ext.alloc | apply Ext.more_)))⟩
  · have hB : hasB R C si sj = false := hasB_no (by omega)
    have hx : x = Val.zero := by rw [← hx0]; simp [atO, hh, orZero]
    have hk1 : k = false := by rw [← hk0]; simp [atO, hh]
    subst hk1 hx
    clear hx0 hk0 hh hn
    rcases hi with ⟨hi, rfl⟩ | ⟨hi, rfl⟩ <;> rcases hj with ⟨hj, rfl⟩ | ⟨hj, rfl⟩
    all_goals
      (try simp only [Int.natCast_zero] at hB)
      go_enter Tryz.func95, Tryz.ntmps95
      go_wp2_with (go_at_call 144; refine (has_any _ _ _ _ _ _ rfl).mono ?_; rintro e w' ⟨rfl, hb⟩; obtain ⟨os1, d1, rfl⟩ := hb.more; clear hb)
      exact bodyPost_ret (v := .tuple #[VV 0 0 0 ⟨#[]⟩ false 0, .bool false]) (by simp [results, Tryz.results95, go_sem]) rfl ⟨rfl, by repeat (first | (with_reducible (first | exact Ext.refl _ | exact hX | exact ext_d _ _ _ _ | exact ext_app _ _ _ _ _)) | ((with_reducible refine ext_suffix ⟨_, ?_⟩); (try simp only [Array.append_assoc]); rfl) | (with_reducible (first | apply Ext.drew | apply Ext.alloc | apply Ext.more_)))⟩
theorem spI_c (R i : Nat) : ((R : Int) == 1) = true ∧ spI R i = 0 ∨ ((R : Int) == 1) = false ∧ spI R i = i := by
  unfold spI
  by_cases h : R = 1
  · left; simp [h]
  · right; simp [h]; omega
theorem spread_c (R C i j : Nat) (A : Option Addr) (n cap : Nat) (l : List Val) (w : World) (h : ArrIn w A n cap l) (hn : n = R * C) (hN : n ≤ 4096) (x : Val) (k : Bool) (hx : orZero (spreadO R C l i j) = x) (hk : (spreadO R C l i j).isSome = k) :
    Calls Tryz.prog 95 #[AV R C (.slice A n cap), .int .i64 i, .int .i64 j] w fun e w' => e = .returned (.tuple #[VV x.kind x.mant x.exp x.text x.truth x.fault, .bool k]) ∧ Ext w w' :=
  spread_at R C i j _ _ A n cap l w h hn hN (spI_c R i) (spI_c C j) x k hx hk
theorem spread_all {P : Val → Prop} {R C i j : Nat} {l : List Val} {x : Val} (hl : l.length = R * C) (ho : ∀ y ∈ l, P y) (h : spreadO R C l i j = some x) : P x := by
  unfold spreadO at h
  split at h
  · rename_i hh
    obtain rfl := Option.some.inj h
    refine getV_all ho ?_
    rw [hl]
    calc spI R i * C + spI C j < spI R i * C + C := by omega
      _ = (spI R i + 1) * C := by rw [Nat.succ_mul]
      _ ≤ R * C := Nat.mul_le_mul_right _ hh.1
  · cases h
theorem spread_ok {R C i j : Nat} {l : List Val} {x : Val} (hl : l.length = R * C) (ho : ∀ y ∈ l, y.ok) (h : spreadO R C l i j = some x) : x.ok := spread_all hl ho h
end Go.Proofs.YteigcfflljoioaaGreatDoor
namespace Go.Proofs.YteigcfflljoioaaGreatDoor
open Go.RowKit
/-- A function of two values that keeps a state: how often it was asked. -/
structure FSpec2 (fid : FuncId) (capt : Array Value) (t : Val → Val → Val) (base lo pa : Nat) (J : Nat → World → Prop) : Prop where
  ext : ∀ k W W', Ext W W' → J k W → J k W'
  keep : ∀ k W W', Keep (lo - 3) W W' → J k W → J k W'
  call : ∀ k x y W0 W, J k W0 → Ext W0 W → lo ≤ W0.heap.size → x.ok → y.ok → valRight x = true → valRight y = true → k < 4096 →
    Calls Tryz.prog fid (#[VV x.kind x.mant x.exp x.text x.truth x.fault, VV y.kind y.mant y.exp y.text y.truth y.fault] ++ capt) W fun e W' => e = .returned (VV (t x y).kind (t x y).mant (t x y).exp (t x y).text (t x y).truth (t x y).fault) ∧ (∀ W'', Aside W0.heap.size W.heap.size W' W'' → J (k + 1) W'') ∧ Still lo pa W0 W W'
  ok : ∀ x y, x.ok → y.ok → valRight x = true → valRight y = true → (t x y).ok
  far : ∀ k W (p : Addr) v, base ≤ p.block → p.block < lo → J k W → J k (W.setCell p v)
def bothV (t : Val → Val → Val) (oa ob : Option Val) : Val := match oa, ob with
  | some x, some y => oneV (t x y)
  | _, _ => badV 6
def bothN (oa ob : Option Val) : Nat := if oa.isSome && ob.isSome then 1 else 0
theorem func_nil2 (fid : FuncId) (capt : Array Value) (W : World) : (binOp .eql 75 (.func (.func fid) #[] capt) .nilFunc).run Tryz.prog W = .ok (.bool false) W := by
  first
  | kernel_rfl
  | rfl
set_option maxHeartbeats 1000000 in
theorem both1_none (R C R' C' i j n cap n' cap' pA pB pf : Nat) (A B : Option Addr) (l l' : List Val) (W : World) (hA : ABox pA R C A n cap W) (hB : ABox pB R' C' B n' cap' W) (h : ArrIn W A n cap l) (h' : ArrIn W B n' cap' l') (hn : n = R * C) (hn' : n' = R' * C') (hN : n ≤ 4096) (hN' : n' ≤ 4096) (hno : (spreadO R C l i j = none ∨ spreadO R' C' l' i j = none)) :
    Calls Tryz.prog 94 #[.int .i64 i, .int .i64 j, .pointer (some ⟨pA, 0, none⟩), .pointer (some ⟨pB, 0, none⟩), .pointer (some ⟨pf, 0, none⟩)] W fun e W' => e = .returned (VV 4 0 0 ⟨#[]⟩ false 6) ∧ Ext W W' := by
  obtain ⟨p0, p1, p2, p3⟩ := hA
  obtain ⟨q0, q1, q2, q3⟩ := hB
  have hb6 : badF 6 = 6 := by decide
  have HN := Lib.hid hn
  have HN' := Lib.hid hn'
  clear hn hn'
  generalize hx : orZero (spreadO R C l i j) = x
  generalize hy : orZero (spreadO R' C' l' i j) = y
  cases hka : (spreadO R C l i j).isSome
  · go_enter Tryz.func94, Tryz.ntmps94
    have HX := Lib.hid (And.intro hx hka)
    have HY := Lib.hid hy
    clear hx hy hka
    generalize hkb : (spreadO R' C' l' i j).isSome = kb
    have HK := Lib.hid hkb
    clear hkb hno
    go_wp2_with fail
    refine (spread_c R C i j A n cap l _ (h.ext (by repeat (first | (with_reducible (first | exact Ext.refl _ | exact hX | exact ext_d _ _ _ _ | exact ext_app _ _ _ _ _)) | ((with_reducible refine ext_suffix ⟨_, ?_⟩); (try simp only [Array.append_assoc]); rfl) | (with_reducible (first | apply Ext.drew | apply Ext.alloc | apply Ext.more_))))) HN.out hN x false HX.out.1 HX.out.2).mono ?_; rintro e w' ⟨rfl, hb⟩; obtain ⟨os1, d1, rfl⟩ := hb.more; clear hb
    go_wp2_with fail
    refine (spread_c R' C' i j B n' cap' l' _ (h'.ext (by repeat (first | (with_reducible (first | exact Ext.refl _ | exact hX | exact ext_d _ _ _ _ | exact ext_app _ _ _ _ _)) | ((with_reducible refine ext_suffix ⟨_, ?_⟩); (try simp only [Array.append_assoc]); rfl) | (with_reducible (first | apply Ext.drew | apply Ext.alloc | apply Ext.more_))))) HN'.out hN' y kb HY.out HK.out).mono ?_; rintro e w' ⟨rfl, hb⟩; obtain ⟨os2, d2, rfl⟩ := hb.more; clear hb
    go_wp2_with (go_at_call 74; refine (bad_any _ _).mono ?_; rintro e w' ⟨rfl, hb⟩; obtain ⟨os3, d3, rfl⟩ := hb.more; clear hb)
    exact bodyPost_ret (v := VV 4 0 0 ⟨#[]⟩ false 6) (by simp [results, Tryz.results94, go_sem]) rfl ⟨rfl, by repeat (first | (with_reducible (first | exact Ext.refl _ | exact hX | exact ext_d _ _ _ _ | exact ext_app _ _ _ _ _)) | ((with_reducible refine ext_suffix ⟨_, ?_⟩); (try simp only [Array.append_assoc]); rfl) | (with_reducible (first | apply Ext.drew | apply Ext.alloc | apply Ext.more_)))⟩
  · have hkb : (spreadO R' C' l' i j).isSome = false := by
      rcases hno with e | e
      · rw [e] at hka; cases hka
      · rw [e]; rfl
    go_enter Tryz.func94, Tryz.ntmps94
    have HX := Lib.hid (And.intro hx hka)
    have HY := Lib.hid (And.intro hy hkb)
    clear hx hy hka hkb hno
    go_wp2_with fail
    refine (spread_c R C i j A n cap l _ (h.ext (by repeat (first | (with_reducible (first | exact Ext.refl _ | exact hX | exact ext_d _ _ _ _ | exact ext_app _ _ _ _ _)) | ((with_reducible refine ext_suffix ⟨_, ?_⟩); (try simp only [Array.append_assoc]); rfl) | (with_reducible (first | apply Ext.drew | apply Ext.alloc | apply Ext.more_))))) HN.out hN x true HX.out.1 HX.out.2).mono ?_; rintro e w' ⟨rfl, hb⟩; obtain ⟨os1, d1, rfl⟩ := hb.more; clear hb
    go_wp2_with fail
    refine (spread_c R' C' i j B n' cap' l' _ (h'.ext (by repeat (first | (with_reducible (first | exact Ext.refl _ | exact hX | exact ext_d _ _ _ _ | exact ext_app _ _ _ _ _)) | ((with_reducible refine ext_suffix ⟨_, ?_⟩); (try simp only [Array.append_assoc]); rfl) | (with_reducible (first | apply Ext.drew | apply Ext.alloc | apply Ext.more_))))) HN'.out hN' y false HY.out.1 HY.out.2).mono ?_; rintro e w' ⟨rfl, hb⟩; obtain ⟨os2, d2, rfl⟩ := hb.more; clear hb
    go_wp2_with (go_at_call 74; refine (bad_any _ _).mono ?_; rintro e w' ⟨rfl, hb⟩; obtain ⟨os3, d3, rfl⟩ := hb.more; clear hb)
    exact bodyPost_ret (v := VV 4 0 0 ⟨#[]⟩ false 6) (by simp [results, Tryz.results94, go_sem]) rfl ⟨rfl, by repeat (first | (with_reducible (first | exact Ext.refl _ | exact hX | exact ext_d _ _ _ _ | exact ext_app _ _ _ _ _)) | ((with_reducible refine ext_suffix ⟨_, ?_⟩); (try simp only [Array.append_assoc]); rfl) | (with_reducible (first | apply Ext.drew | apply Ext.alloc | apply Ext.more_)))⟩
set_option maxHeartbeats 1000000 in
theorem both1_some (fid : FuncId) (capt : Array Value) (t : Val → Val → Val) (base s0 pa : Nat) (J : Nat → World → Prop) (spec : FSpec2 fid capt t base (s0 + 3) pa J) (hent : ∀ (args : Array Value) (W : World), (callFunc fid args).run Tryz.prog W = .ok (.enter fid args) W)
    (R C R' C' i j n cap n' cap' pA pB pf k : Nat) (A B : Option Addr) (l l' : List Val) (x y : Val) (W : World) (hA : ABox pA R C A n cap W) (hB : ABox pB R' C' B n' cap' W) (hf : W.cell? ⟨pf, 0, none⟩ = some (.func (.func fid) #[] capt)) (h : ArrIn W A n cap l) (h' : ArrIn W B n' cap' l') (hn : n = R * C) (hn' : n' = R' * C') (hN : n ≤ 4096) (hN' : n' ≤ 4096)
    (hJ : J k W) (hs : s0 + 3 ≤ W.heap.size) (hk : k < 4096) (ha : spreadO R C l i j = some x) (hb : spreadO R' C' l' i j = some y) (hxo : x.ok) (hyo : y.ok) (hxr : valRight x = true) (hyr : valRight y = true) :
    Calls Tryz.prog 94 #[.int .i64 i, .int .i64 j, .pointer (some ⟨pA, 0, none⟩), .pointer (some ⟨pB, 0, none⟩), .pointer (some ⟨pf, 0, none⟩)] W fun e W' => e = .returned (VV (oneV (t x y)).kind (oneV (t x y)).mant (oneV (t x y)).exp (oneV (t x y)).text (oneV (t x y)).truth (oneV (t x y)).fault) ∧ J (k + 1) W' ∧ Still (s0 + 3) pa W W W' := by
  obtain ⟨p0, p1, p2, p3⟩ := hA
  obtain ⟨q0, q1, q2, q3⟩ := hB
  have z0 := lt_of_cell hf
  have hnn := func_nil2 fid capt
  have HN := Lib.hid hn
  have HN' := Lib.hid hn'
  have HX : Hid (orZero (spreadO R C l i j) = x ∧ (spreadO R C l i j).isSome = true) := by rw [ha]; exact ⟨rfl, rfl⟩
  have HY : Hid (orZero (spreadO R' C' l' i j) = y ∧ (spreadO R' C' l' i j).isSome = true) := by rw [hb]; exact ⟨rfl, rfl⟩
  clear hn hn' ha hb
  have HC := Lib.hid (spec.call k x y W)
  have hok := spec.ok x y hxo hyo hxr hyr
  generalize hz : oneV (t x y) = z
  have HZ := Lib.hid hz
  clear hz
  go_enter Tryz.func94, Tryz.ntmps94
  go_wp2_with fail
  refine (spread_c R C i j A n cap l _ (h.ext (by repeat (first | (with_reducible (first | exact Ext.refl _ | exact hX | exact ext_d _ _ _ _ | exact ext_app _ _ _ _ _)) | ((with_reducible refine ext_suffix ⟨_, ?_⟩); (try simp only [Array.append_assoc]); rfl) | (with_reducible (first | apply Ext.drew | apply Ext.alloc | apply Ext.more_))))) HN.out hN x true HX.out.1 HX.out.2).mono ?_; rintro e w' ⟨rfl, hb⟩; obtain ⟨os1, d1, rfl⟩ := hb.more; clear hb
  go_wp2_with fail
  refine (spread_c R' C' i j B n' cap' l' _ (h'.ext (by repeat (first | (with_reducible (first | exact Ext.refl _ | exact hX | exact ext_d _ _ _ _ | exact ext_app _ _ _ _ _)) | ((with_reducible refine ext_suffix ⟨_, ?_⟩); (try simp only [Array.append_assoc]); rfl) | (with_reducible (first | apply Ext.drew | apply Ext.alloc | apply Ext.more_))))) HN'.out hN' y true HY.out.1 HY.out.2).mono ?_; rintro e w' ⟨rfl, hb⟩; obtain ⟨os2, d2, rfl⟩ := hb.more; clear hb
  go_wp2_with fail
  refine calls_world fun W5 hW5 => ?_
  have hX : Ext W W5 := by rw [hW5]; exact by repeat (first | (with_reducible (first | exact Ext.refl _ | exact hX | exact ext_d _ _ _ _ | exact ext_app _ _ _ _ _)) | ((with_reducible refine ext_suffix ⟨_, ?_⟩); (try simp only [Array.append_assoc]); rfl) | (with_reducible (first | apply Ext.drew | apply Ext.alloc | apply Ext.more_)))
  have hr5 : W5.heap[W.heap.size]? = some (.cells #[.int .i64 0, .int .i64 0, .int .i64 0, .string ⟨#[]⟩, .bool false, .int .i64 0] 26) := by
    rw [hW5]
    exact ((by repeat (first | (with_reducible (first | exact Ext.refl _ | exact hX | exact ext_d _ _ _ _ | exact ext_app _ _ _ _ _)) | ((with_reducible refine ext_suffix ⟨_, ?_⟩); (try simp only [Array.append_assoc]); rfl) | (with_reducible (first | apply Ext.drew | apply Ext.alloc | apply Ext.more_))) : Ext (W.alloc (.cells #[.int .i64 0, .int .i64 0, .int .i64 0, .string ⟨#[]⟩, .bool false, .int .i64 0] 26)) _).block (by simp)).trans (heap_alloc_new _ _)
  clear hW5
  have hz5 := lt_of_block hr5
  refine (HC.out W5 hJ hX hs hxo hyo hxr hyr hk).mono ?_
  rintro e w1' ⟨rfl, hJ1, hst⟩
  have hr : w1'.heap[W.heap.size]? = some (.cells #[.int .i64 0, .int .i64 0, .int .i64 0, .string ⟨#[]⟩, .bool false, .int .i64 0] 26) := (hst.block W.heap.size hz5 (.inr (Nat.le_refl _))).trans hr5
  have hz : W.heap.size < w1'.heap.size := lt_of_block hr
  have u0 := cell_of_row _ _ 0 _ _ _ hr
  have u1 := cell_of_row _ _ 1 _ _ _ hr
  have u2 := cell_of_row _ _ 2 _ _ _ hr
  have u3 := cell_of_row _ _ 3 _ _ _ hr
  have u4 := cell_of_row _ _ 4 _ _ _ hr
  have u5 := cell_of_row _ _ 5 _ _ _ hr
  have f0 := frozen_of_row _ _ 0 _ _ hr
  have f1 := frozen_of_row _ _ 1 _ _ hr
  have f2 := frozen_of_row _ _ 2 _ _ hr
  have f3 := frozen_of_row _ _ 3 _ _ hr
  have f4 := frozen_of_row _ _ 4 _ _ hr
  have f5 := frozen_of_row _ _ 5 _ _ hr
  clear hr hr5
  go_wp2_with fail
  refine (sound_any _ _ _ _ _ _ _ hok.2.1 hok.2.2.2.1 z HZ.out).mono ?_
  rintro e w' ⟨rfl, hb⟩
  obtain ⟨os5, d5, rfl⟩ := hb.more
  clear hb
  go_wp2
  refine bodyPost_ret (v := VV z.kind z.mant z.exp z.text z.truth z.fault) (by simp [results, Tryz.results94, go_sem, u0, u1, u2, u3, u4, u5, hz]) rfl ⟨rfl, ?_, ?_⟩
  · have h1 : W.heap.size ≤ W.heap.size := Nat.le_refl _
    exact hJ1 _ (((((((Aside.set _ _ h1 hz5).trans (Aside.set _ _ h1 hz5)).trans (Aside.set _ _ h1 hz5)).trans (Aside.set _ _ h1 hz5)).trans (Aside.set _ _ h1 hz5)).trans (Aside.set _ _ h1 hz5)).trans (Aside.of_ext (by repeat (first | (with_reducible (first | exact Ext.refl _ | exact hX | exact ext_d _ _ _ _ | exact ext_app _ _ _ _ _)) | ((with_reducible refine ext_suffix ⟨_, ?_⟩); (try simp only [Array.append_assoc]); rfl) | (with_reducible (first | apply Ext.drew | apply Ext.alloc | apply Ext.more_))))))
  · have hq : W.heap.size ≤ W.heap.size := Nat.le_refl _
    exact (((((((Still.trans (Still.of_ext hX) hst).set _ hq).set _ hq).set _ hq).set _ hq).set _ hq).set _ hq).trans (Still.of_ext (by repeat (first | (with_reducible (first | exact Ext.refl _ | exact hX | exact ext_d _ _ _ _ | exact ext_app _ _ _ _ _)) | ((with_reducible refine ext_suffix ⟨_, ?_⟩); (try simp only [Array.append_assoc]); rfl) | (with_reducible (first | apply Ext.drew | apply Ext.alloc | apply Ext.more_)))))
end Go.Proofs.YteigcfflljoioaaGreatDoor
namespace Go.Proofs.YteigcfflljoioaaGreatDoor
open Go.RowKit
def cntB (g : Nat → Nat → Nat) (C k : Nat) : Nat := ((List.range k).map fun t => g (t / C) (t % C)).sum
theorem cntB_succ (g : Nat → Nat → Nat) (C i j : Nat) (hj : j < C) : cntB g C (i * C + j + 1) = cntB g C (i * C + j) + g i j := by
  unfold cntB
  rw [List.range_succ, List.map_append, List.sum_append]
  have h1 : (i * C + j) / C = i := by rw [Nat.add_comm, Nat.add_mul_div_right _ _ (by omega), Nat.div_eq_of_lt hj]; omega
  have h2 : (i * C + j) % C = j := by rw [Nat.add_comm, Nat.add_mul_mod_self_right, Nat.mod_eq_of_lt hj]
  simp [h1, h2]
theorem cntB_le {g : Nat → Nat → Nat} (hg : ∀ i j, g i j ≤ 1) (C : Nat) : ∀ k, cntB g C k ≤ k
  | 0 => by simp [cntB]
  | k + 1 => by
    have ih := cntB_le hg C k
    unfold cntB at *
    rw [List.range_succ, List.map_append, List.sum_append]
    have := hg (k / C) (k % C)
    simp
    omega
theorem bothN_le (a b : Option Val) : bothN a b ≤ 1 := by unfold bothN; split <;> omega
theorem ABox.of_block {pb : Nat} {r c : Int} {A : Option Addr} {n cap : Nat} {W : World} (h : W.heap[pb]? = some (.cells #[.int .i64 r, .int .i64 c, .slice A n cap] 34)) : ABox pb r c A n cap W :=
  ⟨lt_of_block h, cell_of_row _ _ 0 _ _ _ h, cell_of_row _ _ 1 _ _ _ h, cell_of_row _ _ 2 _ _ _ h⟩
def bothG (R C : Nat) (l : List Val) (R' C' : Nat) (l' : List Val) (i j : Nat) : Nat := bothN (spreadO R C l i j) (spreadO R' C' l' i j)
def bothL (t : Val → Val → Val) (R C : Nat) (l : List Val) (R' C' : Nat) (l' : List Val) : List Val := vals (fun i j => bothV t (spreadO R C l i j) (spreadO R' C' l' i j)) (max C C') (max R R' * max C C')
set_option maxHeartbeats 2000000 in
theorem both_yes (R C R' C' n cap n' cap' pa : Nat) (A B : Option Addr) (l l' : List Val) (fid : FuncId) (capt : Array Value) (t : Val → Val → Val) (Js : Nat → Nat → World → Prop) (w : World) (h : ArrIn w A n cap l) (h' : ArrIn w B n' cap' l') (hr : rightA R C l = true) (hr' : rightA R' C' l' = true) (hf : max R R' * max C C' ≤ 4096) (hpa : pa < w.heap.size) (hA : ∀ b off, A = some ⟨b, off, none⟩ → b ≠ pa) (hB : ∀ b off, B = some ⟨b, off, none⟩ → b ≠ pa)
    (hent : ∀ (args : Array Value) (W : World), (callFunc fid args).run Tryz.prog W = .ok (.enter fid args) W) (spec : ∀ s0, w.heap.size ≤ s0 → FSpec2 fid capt t w.heap.size (s0 + 3) pa (Js s0)) (hJ0 : ∀ s0, w.heap.size ≤ s0 → Js s0 0 w) :
    Calls Tryz.prog 47 #[AV R C (.slice A n cap), AV R' C' (.slice B n' cap'), .func (.func fid) #[] capt] w fun e w' => ∃ D c s0, e = .returned (AV (max R R' : Nat) (max C C' : Nat) (.slice D (max R R' * max C C') c)) ∧ SlV w.heap.size w' D (bothL t R C l R' C' l') ∧ max R R' * max C C' ≤ c ∧ w.heap.size ≤ s0 ∧ Js s0 (cntB (bothG R C l R' C' l') (max C C') (max R R' * max C C')) w' ∧ ExtBut pa w w' := by
  obtain ⟨r1, r2, r3, r4, r5, r6⟩ := right_bd hr
  obtain ⟨s1, s2, s3, s4, s5, s6⟩ := right_bd hr'
  have HRR := Lib.hid (And.intro (rightA_nat.1 hr).2.2.2.2 (rightA_nat.1 hr').2.2.2.2)
  have hln := h.len
  have hln' := h'.len
  have HN := Lib.hid (And.intro (show n = R * C by omega) (show n' = R' * C' by omega))
  have hN : n ≤ 4096 := by omega
  have hN' : n' ≤ 4096 := by omega
  have HL := Lib.hid (And.intro r4 s4)
  have HCM : Hid ((commonO R C R' C').getD (0, 0) = (max R R', max C C') ∧ (commonO R C R' C').isSome = true) := by show _ ∧ _; simp [commonO, hf]
  unfold bothL
  have hm1 : 1 ≤ max R R' := by omega
  have hm2 : 1 ≤ max C C' := by omega
  have hm3 : max R R' ≤ 4096 := by omega
  have hm4 : max C C' ≤ 4096 := by omega
  generalize max R R' = M at *
  generalize max C C' = N at *
  clear r3 r4 s3 s4 hln hln'
  have HS := Lib.hid spec
  have HJ := Lib.hid hJ0
  have HA := Lib.hid (And.intro hA hB)
  clear spec hJ0 hA hB
  go_enter Tryz.func47, Tryz.ntmps47
  go_wp2_with fail
  refine (right_any _ _ _ _ _ _ _ (h.ext (by repeat (first | (with_reducible (first | exact Ext.refl _ | exact hX | exact ext_d _ _ _ _ | exact ext_app _ _ _ _ _)) | ((with_reducible refine ext_suffix ⟨_, ?_⟩); (try simp only [Array.append_assoc]); rfl) | (with_reducible (first | apply Ext.drew | apply Ext.alloc | apply Ext.more_)))))).mono ?_; rintro e w' ⟨rfl, hb⟩; obtain ⟨os1, d1, rfl⟩ := hb.more; clear hb
  go_wp2_with fail
  refine (right_any _ _ _ _ _ _ _ (h'.ext (by repeat (first | (with_reducible (first | exact Ext.refl _ | exact hX | exact ext_d _ _ _ _ | exact ext_app _ _ _ _ _)) | ((with_reducible refine ext_suffix ⟨_, ?_⟩); (try simp only [Array.append_assoc]); rfl) | (with_reducible (first | apply Ext.drew | apply Ext.alloc | apply Ext.more_)))))).mono ?_; rintro e w' ⟨rfl, hb⟩; obtain ⟨os2, d2, rfl⟩ := hb.more; clear hb
  go_wp2_with fail
  refine (common_c R C R' C' _ _ _ _ _ _ l l' _ (h.ext (by repeat (first | (with_reducible (first | exact Ext.refl _ | exact hX | exact ext_d _ _ _ _ | exact ext_app _ _ _ _ _)) | ((with_reducible refine ext_suffix ⟨_, ?_⟩); (try simp only [Array.append_assoc]); rfl) | (with_reducible (first | apply Ext.drew | apply Ext.alloc | apply Ext.more_))))) (h'.ext (by repeat (first | (with_reducible (first | exact Ext.refl _ | exact hX | exact ext_d _ _ _ _ | exact ext_app _ _ _ _ _)) | ((with_reducible refine ext_suffix ⟨_, ?_⟩); (try simp only [Array.append_assoc]); rfl) | (with_reducible (first | apply Ext.drew | apply Ext.alloc | apply Ext.more_))))) hr hr' M N true HCM.out.1 HCM.out.2).mono ?_; rintro e w' ⟨rfl, hb⟩; obtain ⟨os3, d3, rfl⟩ := hb.more; clear hb
  go_wp2_with fail
  refine calls_world fun W hW => ?_
  have hX : Ext w W := by rw [hW]; exact by repeat (first | (with_reducible (first | exact Ext.refl _ | exact hX | exact ext_d _ _ _ _ | exact ext_app _ _ _ _ _)) | ((with_reducible refine ext_suffix ⟨_, ?_⟩); (try simp only [Array.append_assoc]); rfl) | (with_reducible (first | apply Ext.drew | apply Ext.alloc | apply Ext.more_)))
  have hbx : W.heap[w.heap.size]? = some (.cells #[.int .i64 R, .int .i64 C, .slice A n cap] 34) := by
    rw [hW, (ext_more _ _ _).block (by first | (simp; done) | (simp; omega) | omega), Below.heap_alloc _ _ _ (by first | (simp; done) | (simp; omega) | omega), Below.heap_alloc _ _ _ (by first | (simp; done) | (simp; omega) | omega), Below.heap_alloc _ _ _ (by first | (simp; done) | (simp; omega) | omega)]
    exact heap_alloc_new _ _
  have hby : W.heap[w.heap.size + 1]? = some (.cells #[.int .i64 R', .int .i64 C', .slice B n' cap'] 34) := by
    rw [hW, (ext_more _ _ _).block (by first | (simp; done) | (simp; omega) | omega), Below.heap_alloc _ _ _ (by first | (simp; done) | (simp; omega) | omega), Below.heap_alloc _ _ _ (by first | (simp; done) | (simp; omega) | omega)]
    have := heap_alloc_new (w.alloc (.cells #[.int .i64 R, .int .i64 C, .slice A n cap] 34)) (.cells #[.int .i64 R', .int .i64 C', .slice B n' cap'] 34)
    simpa using this
  have hfx : W.heap[w.heap.size + 1 + 1]? = some (.cells #[.func (.func fid) #[] capt] 75) := by
    rw [hW, (ext_more _ _ _).block (by first | (simp; done) | (simp; omega) | omega), Below.heap_alloc _ _ _ (by first | (simp; done) | (simp; omega) | omega)]
    have := heap_alloc_new ((w.alloc (.cells #[.int .i64 R, .int .i64 C, .slice A n cap] 34)).alloc (.cells #[.int .i64 R', .int .i64 C', .slice B n' cap'] 34)) (.cells #[.func (.func fid) #[] capt] 75)
    simpa using this
  have hrx : W.heap[w.heap.size + 1 + 1 + 1]? = some (.cells #[.int .i64 0, .int .i64 0, .slice none 0 0] 34) := by
    rw [hW, (ext_more _ _ _).block (by first | (simp; done) | (simp; omega) | omega)]
    have := heap_alloc_new (((w.alloc (.cells #[.int .i64 R, .int .i64 C, .slice A n cap] 34)).alloc (.cells #[.int .i64 R', .int .i64 C', .slice B n' cap'] 34)).alloc (.cells #[.func (.func fid) #[] capt] 75)) (.cells #[.int .i64 0, .int .i64 0, .slice none 0 0] 34)
    simpa using this
  clear hW
  have hws := hX.size
  have sp := HS.out W.heap.size hws
  have z0 := lt_of_block hrx
  refine (build_any M N 94 #[.pointer (some ⟨w.heap.size, 0, none⟩), .pointer (some ⟨w.heap.size + 1, 0, none⟩), .pointer (some ⟨w.heap.size + 1 + 1, 0, none⟩)] (fun i j => bothV t (spreadO R C l i j) (spreadO R' C' l' i j)) W (fun k V => Js W.heap.size (cntB (bothG R C l R' C' l') N k) V ∧ ExtBut pa W V) hm1 hm2 hf hm3 hm4 (fun _ _ => by kernel_rfl) ⟨?_, ?_⟩ ?_ ?_).mono ?_
  · exact sp.ext _ _ _ hX (HJ.out _ hws)
  · exact ExtBut.of_ext (Ext.refl _)
  · rintro k V V' hk ⟨g1, g2⟩
    refine ⟨sp.keep _ _ _ (by simpa using hk) g1, hk.os.trans g2.os, hk.tape.trans g2.tape, hk.output.trans g2.output, Nat.le_trans g2.size hk.size, fun b hb hne => ?_⟩
    exact (hk.block b (Nat.lt_of_lt_of_le hb g2.size) (by omega) (by omega) (by omega)).trans (g2.block b hb hne)
  · rintro i j V hi hj ⟨g1, g2⟩ hsz
    have hkk := cell_prod M hi hj hf
    have hcl := cntB_le (g := bothG R C l R' C' l') (fun _ _ => bothN_le _ _) N (i * N + j)
    have cA := ABox.of_block ((g2.block w.heap.size (by omega) (by omega)).trans hbx)
    have cB := ABox.of_block ((g2.block (w.heap.size + 1) (by omega) (by omega)).trans hby)
    have cF := cell_of_row _ _ 0 _ _ _ ((g2.block (w.heap.size + 1 + 1) (by omega) (by omega)).trans hfx)
    have aA := (h.ext hX).but g2 HA.out.1
    have aB := (h'.ext hX).but g2 HA.out.2
    have fin : ∀ V', Js W.heap.size (cntB (bothG R C l R' C' l') N (i * N + j) + bothG R C l R' C' l' i j) V' → Still (W.heap.size + 3) pa V V V' → (Js W.heap.size (cntB (bothG R C l R' C' l') N (i * N + j + 1)) V' ∧ ExtBut pa W V') ∧ Leaves W.heap.size V V' := by
      intro V' hJ1 hst
      refine ⟨⟨by rw [cntB_succ _ _ _ _ hj]; exact hJ1, ⟨hst.os.trans g2.os, hst.tape.trans g2.tape, hst.output.trans g2.output, Nat.le_trans g2.size hst.size, fun b' hb' hne => (hst.block b' (Nat.lt_of_lt_of_le hb' g2.size) (.inl ⟨by omega, hne⟩)).trans (g2.block b' hb' hne)⟩⟩, ?_⟩
      exact ⟨hst.size, hst.block _ (by omega) (.inl ⟨by omega, by omega⟩), hst.block _ (by omega) (.inl ⟨by omega, by omega⟩), hst.block _ (by omega) (.inl ⟨by omega, by omega⟩)⟩
    have non : (spreadO R C l i j = none ∨ spreadO R' C' l' i j = none) → bothV t (spreadO R C l i j) (spreadO R' C' l' i j) = badV 6 ∧ bothG R C l R' C' l' i j = 0 := by
      intro hno
      unfold bothG bothN bothV
      rcases hno with e | e
      · rw [e]; simp
      · rw [e]; cases spreadO R C l i j <;> simp
    have nonc : (spreadO R C l i j = none ∨ spreadO R' C' l' i j = none) → Calls Tryz.prog 94 (#[.int .i64 i, .int .i64 j] ++ #[.pointer (some ⟨w.heap.size, 0, none⟩), .pointer (some ⟨w.heap.size + 1, 0, none⟩), .pointer (some ⟨w.heap.size + 1 + 1, 0, none⟩)]) V fun e W' => e = .returned (VV (bothV t (spreadO R C l i j) (spreadO R' C' l' i j)).kind (bothV t (spreadO R C l i j) (spreadO R' C' l' i j)).mant (bothV t (spreadO R C l i j) (spreadO R' C' l' i j)).exp (bothV t (spreadO R C l i j) (spreadO R' C' l' i j)).text (bothV t (spreadO R C l i j) (spreadO R' C' l' i j)).truth (bothV t (spreadO R C l i j) (spreadO R' C' l' i j)).fault) ∧ (Js W.heap.size (cntB (bothG R C l R' C' l') N (i * N + j + 1)) W' ∧ ExtBut pa W W') ∧ Leaves W.heap.size V W' := by
      intro hno
      obtain ⟨e1, e2⟩ := non hno
      refine (both1_none R C R' C' i j n cap n' cap' w.heap.size (w.heap.size + 1) (w.heap.size + 1 + 1) A B l l' V cA cB aA aB HN.out.1 HN.out.2 hN hN' hno).mono ?_
      rintro e V' ⟨rfl, hxx⟩
      rw [e1]
      exact ⟨rfl, fin V' (by rw [e2]; exact sp.ext _ _ _ hxx g1) (Still.of_ext hxx)⟩
    cases ha : spreadO R C l i j with
    | none => rw [← ha]; exact nonc (.inl ha)
    | some x =>
      cases hb : spreadO R' C' l' i j with
      | none => rw [← ha, ← hb]; exact nonc (.inr hb)
      | some y =>
        refine (both1_some fid capt t w.heap.size W.heap.size pa (Js W.heap.size) sp hent R C R' C' i j n cap n' cap' w.heap.size (w.heap.size + 1) (w.heap.size + 1 + 1) (cntB (bothG R C l R' C' l') N (i * N + j)) A B l l' x y V cA cB cF aA aB HN.out.1 HN.out.2 hN hN' g1 hsz (by omega) ha hb (spread_ok HL.out.1 h.ok ha) (spread_ok HL.out.2 h'.ok hb) (spread_all HL.out.1 HRR.out.1 ha) (spread_all HL.out.2 HRR.out.2 hb)).mono ?_
        rintro e V' ⟨he, hJ1, hst⟩
        have e2 : bothG R C l R' C' l' i j = 1 := by unfold bothG bothN; rw [ha, hb]; rfl
        exact ⟨he, fin V' (by rw [e2]; exact hJ1) hst⟩
  rintro e w' ⟨D, c, rfl, hs, hc, g1, g2⟩
  have hr1 : w'.heap[w.heap.size + 1 + 1 + 1]? = some (.cells #[.int .i64 0, .int .i64 0, .slice none 0 0] 34) := (g2.block _ (by omega) (by omega)).trans hrx
  have q0 := cell_of_row _ _ 0 _ _ _ hr1
  have q1 := cell_of_row _ _ 1 _ _ _ hr1
  have q2 := cell_of_row _ _ 2 _ _ _ hr1
  have f0 := frozen_of_row _ _ 0 _ _ hr1
  have f1 := frozen_of_row _ _ 1 _ _ hr1
  have f2 := frozen_of_row _ _ 2 _ _ hr1
  have hg2 := Lib.hid g2
  clear g2 hbx hby hfx hrx
  go_wp2
  refine bodyPost_ret (v := AV M N (.slice D (M * N) c)) (by simp [results, Tryz.results47, go_sem, q0, q1, q2]) rfl ⟨D, c, W.heap.size, rfl, ?_, hc, hws, ?_, ?_⟩
  · exact Rd.mono (((hs.set_far _ (by simp; omega)).set_far _ (by simp; omega)).set_far _ (by simp; omega)) (by omega)
  · exact sp.far _ _ _ _ (by simp only; omega) (by simp only; omega) (sp.far _ _ _ _ (by simp only; omega) (by simp only; omega) (sp.far _ _ _ _ (by simp only; omega) (by simp only; omega) g1))
  · exact ((((ExtBut.of_ext hX).trans hg2.out).set _ (by simp only; omega)).set _ (by simp only; omega)).set _ (by simp only; omega)
end Go.Proofs.YteigcfflljoioaaGreatDoor
namespace Go.Proofs.YteigcfflljoioaaGreatDoor
open Go.RowKit
set_option maxHeartbeats 800000 in
theorem both_no (fid : FuncId) (capt : Array Value) (r c r' c' : Int) (A B : Option Addr) (n cap n' cap' : Nat) (l l' : List Val) (w : World) (h : ArrIn w A n cap l) (h' : ArrIn w B n' cap' l') (hr : (rightA r c l && rightA r' c' l') = false) : Calls Tryz.prog 47 #[AV r c (.slice A n cap), AV r' c' (.slice B n' cap'), .func (.func fid) #[] capt] w fun e w' => ArrO w.heap.size w' e 1 1 [bad9] ∧ Ext w w' := by (by_cases h1 : rightA r c l = true); (focus (have h2 : rightA r' c' l' = false := (by simpa [h1] using hr)); clear hr; go_enter Tryz.func47, Tryz.ntmps47; go_wp2_with fail; refine (right_any _ _ _ _ _ _ _ (h.ext (by repeat (first | (with_reducible (first | exact Ext.refl _ | exact hX | exact ext_d _ _ _ _ | exact ext_app _ _ _ _ _)) | ((with_reducible refine ext_suffix ⟨_, ?_⟩); (try simp only [Array.append_assoc]); rfl) | (with_reducible (first | apply Ext.drew | apply Ext.alloc | apply Ext.more_)))))).mono ?_; rintro e w' ⟨rfl, hb⟩; obtain ⟨os1, d1, rfl⟩ := hb.more; clear hb; go_wp2_with fail; refine (right_any _ _ _ _ _ _ _ (h'.ext (by repeat (first | (with_reducible (first | exact Ext.refl _ | exact hX | exact ext_d _ _ _ _ | exact ext_app _ _ _ _ _)) | ((with_reducible refine ext_suffix ⟨_, ?_⟩); (try simp only [Array.append_assoc]); rfl) | (with_reducible (first | apply Ext.drew | apply Ext.alloc | apply Ext.more_)))))).mono ?_; rintro e w' ⟨rfl, hb⟩; obtain ⟨os2, d2, rfl⟩ := hb.more; clear hb; go_wp2_with fail; refine (broken_any _).mono ?_; rintro e w' ⟨⟨D, cc, rfl, hs, hc⟩, hb⟩; obtain ⟨os9, d9, rfl⟩ := hb.more; clear hb; go_wp2; exact bodyPost_ret (v := AV 1 1 (.slice D 1 cc)) (by simp [results, Tryz.results47, go_sem]) rfl ⟨⟨_, _, rfl, (by (try simp only [more_more] at hs); (try simp only [drew_more] at hs); (try simp only [more_drew] at hs); (try simp only [Array.append_assoc] at hs); exact Rd.swap hs (by first | (simp; done) | (simp; omega) | omega) (by first | (simp; done) | (simp; omega) | omega) (by first | (simp; done) | (simp; omega) | omega)), hc⟩, by repeat (first | (with_reducible (first | exact Ext.refl _ | exact hX | exact ext_d _ _ _ _ | exact ext_app _ _ _ _ _)) | ((with_reducible refine ext_suffix ⟨_, ?_⟩); (try simp only [Array.append_assoc]); rfl) | (with_reducible (first | apply Ext.drew | apply Ext.alloc | apply Ext.more_)))⟩); (have h1' : rightA r c l = false := (by simpa using h1)); clear hr h1; go_enter Tryz.func47, Tryz.ntmps47; go_wp2_with fail; refine (right_any _ _ _ _ _ _ _ (h.ext (by repeat (first | (with_reducible (first | exact Ext.refl _ | exact hX | exact ext_d _ _ _ _ | exact ext_app _ _ _ _ _)) | ((with_reducible refine ext_suffix ⟨_, ?_⟩); (try simp only [Array.append_assoc]); rfl) | (with_reducible (first | apply Ext.drew | apply Ext.alloc | apply Ext.more_)))))).mono ?_; rintro e w' ⟨rfl, hb⟩; obtain ⟨os1, d1, rfl⟩ := hb.more; clear hb; go_wp2_with fail; refine (broken_any _).mono ?_; rintro e w' ⟨⟨D, cc, rfl, hs, hc⟩, hb⟩; obtain ⟨os9, d9, rfl⟩ := hb.more; clear hb; go_wp2; exact bodyPost_ret (v := AV 1 1 (.slice D 1 cc)) (by simp [results, Tryz.results47, go_sem]) rfl ⟨⟨_, _, rfl, (by (try simp only [more_more] at hs); (try simp only [drew_more] at hs); (try simp only [more_drew] at hs); (try simp only [Array.append_assoc] at hs); exact Rd.swap hs (by first | (simp; done) | (simp; omega) | omega) (by first | (simp; done) | (simp; omega) | omega) (by first | (simp; done) | (simp; omega) | omega)), hc⟩, by repeat (first | (with_reducible (first | exact Ext.refl _ | exact hX | exact ext_d _ _ _ _ | exact ext_app _ _ _ _ _)) | ((with_reducible refine ext_suffix ⟨_, ?_⟩); (try simp only [Array.append_assoc]); rfl) | (with_reducible (first | apply Ext.drew | apply Ext.alloc | apply Ext.more_)))⟩
set_option maxHeartbeats 800000 in
theorem both_great (fid : FuncId) (capt : Array Value) (R C R' C' : Nat) (A B : Option Addr) (n cap n' cap' : Nat) (l l' : List Val) (w : World) (h : ArrIn w A n cap l) (h' : ArrIn w B n' cap' l') (hr : rightA R C l = true) (hr' : rightA R' C' l' = true) (hf : ¬ max R R' * max C C' ≤ 4096) : Calls Tryz.prog 47 #[AV R C (.slice A n cap), AV R' C' (.slice B n' cap'), .func (.func fid) #[] capt] w fun e w' => ArrO w.heap.size w' e 1 1 [badV 5] ∧ Ext w w' := by (have HCM : Hid ((commonO R C R' C').getD (0, 0) = (0, 0) ∧ (commonO R C R' C').isSome = false) := (by show _ ∧ _; simp [commonO, hf])); clear hf; go_enter Tryz.func47, Tryz.ntmps47; go_wp2_with fail; refine (right_any _ _ _ _ _ _ _ (h.ext (by repeat (first | (with_reducible (first | exact Ext.refl _ | exact hX | exact ext_d _ _ _ _ | exact ext_app _ _ _ _ _)) | ((with_reducible refine ext_suffix ⟨_, ?_⟩); (try simp only [Array.append_assoc]); rfl) | (with_reducible (first | apply Ext.drew | apply Ext.alloc | apply Ext.more_)))))).mono ?_; rintro e w' ⟨rfl, hb⟩; obtain ⟨os1, d1, rfl⟩ := hb.more; clear hb; go_wp2_with fail; refine (right_any _ _ _ _ _ _ _ (h'.ext (by repeat (first | (with_reducible (first | exact Ext.refl _ | exact hX | exact ext_d _ _ _ _ | exact ext_app _ _ _ _ _)) | ((with_reducible refine ext_suffix ⟨_, ?_⟩); (try simp only [Array.append_assoc]); rfl) | (with_reducible (first | apply Ext.drew | apply Ext.alloc | apply Ext.more_)))))).mono ?_; rintro e w' ⟨rfl, hb⟩; obtain ⟨os2, d2, rfl⟩ := hb.more; clear hb; go_wp2_with fail; refine (common_c R C R' C' _ _ _ _ _ _ l l' _ (h.ext (by repeat (first | (with_reducible (first | exact Ext.refl _ | exact hX | exact ext_d _ _ _ _ | exact ext_app _ _ _ _ _)) | ((with_reducible refine ext_suffix ⟨_, ?_⟩); (try simp only [Array.append_assoc]); rfl) | (with_reducible (first | apply Ext.drew | apply Ext.alloc | apply Ext.more_))))) (h'.ext (by repeat (first | (with_reducible (first | exact Ext.refl _ | exact hX | exact ext_d _ _ _ _ | exact ext_app _ _ _ _ _)) | ((with_reducible refine ext_suffix ⟨_, ?_⟩); (try simp only [Array.append_assoc]); rfl) | (with_reducible (first | apply Ext.drew | apply Ext.alloc | apply Ext.more_))))) hr hr' 0 0 false HCM.out.1 HCM.out.2).mono ?_; rintro e w' ⟨rfl, hb⟩; obtain ⟨os3, d3, rfl⟩ := hb.more; clear hb; go_wp2_with fail; refine (tooGreat_any _).mono ?_; rintro e w' ⟨⟨D, cc, rfl, hs, hc⟩, hb⟩; obtain ⟨os9, d9, rfl⟩ := hb.more; clear hb; go_wp2; exact bodyPost_ret (v := AV 1 1 (.slice D 1 cc)) (by simp [results, Tryz.results47, go_sem]) rfl ⟨⟨_, _, rfl, (by (try simp only [more_more] at hs); (try simp only [drew_more] at hs); (try simp only [more_drew] at hs); (try simp only [Array.append_assoc] at hs); exact Rd.swap hs (by first | (simp; done) | (simp; omega) | omega) (by first | (simp; done) | (simp; omega) | omega) (by first | (simp; done) | (simp; omega) | omega)), hc⟩, by repeat (first | (with_reducible (first | exact Ext.refl _ | exact hX | exact ext_d _ _ _ _ | exact ext_app _ _ _ _ _)) | ((with_reducible refine ext_suffix ⟨_, ?_⟩); (try simp only [Array.append_assoc]); rfl) | (with_reducible (first | apply Ext.drew | apply Ext.alloc | apply Ext.more_)))⟩
/-- What Both comes to. -/
def bothRes (t : Val → Val → Val) (r c : Int) (l : List Val) (r' c' : Int) (l' : List Val) : NA :=
  if rightA r c l && rightA r' c' l' then
    if max r.toNat r'.toNat * max c.toNat c'.toNat ≤ 4096 then ⟨max r.toNat r'.toNat, max c.toNat c'.toNat, bothL t r.toNat c.toNat l r'.toNat c'.toNat l'⟩ else ⟨1, 1, [badV 5]⟩
  else ⟨1, 1, [bad9]⟩
theorem bothL_ok {t : Val → Val → Val} (ht : ∀ x y, x.ok → y.ok → valRight x = true → valRight y = true → (t x y).ok) {R C R' C' : Nat} {l l' : List Val} (hl : l.length = R * C) (hl' : l'.length = R' * C') (h : ∀ x ∈ l, x.ok) (h' : ∀ x ∈ l', x.ok) (g : ∀ x ∈ l, valRight x = true) (g' : ∀ x ∈ l', valRight x = true) : ∀ x ∈ bothL t R C l R' C' l', x.ok := by
  intro x hx
  obtain ⟨i, j, rfl⟩ := vals_mem hx
  unfold bothV
  split
  · rename_i x y e1 e2
    exact oneV_ok (ht _ _ (spread_ok hl h e1) (spread_ok hl' h' e2) (spread_all hl g e1) (spread_all hl' g' e2)) _ (by simp)
  · exact badV_ok 6 I64_6
theorem bothL_length (t : Val → Val → Val) (R C : Nat) (l : List Val) (R' C' : Nat) (l' : List Val) : (bothL t R C l R' C' l').length = max R R' * max C C' := vals_length _ _ _
end Go.Proofs.YteigcfflljoioaaGreatDoor
namespace Go.Proofs.YteigcfflljoioaaGreatDoor
open Go.RowKit NM
theorem is_eq (n : Int) (w : World) :
    Calls Tryz.prog 84 #[.int .i64 n] w fun e w' => e = .returned (.bool (Sg.pred .eq n)) ∧ Ext w w' := by
  show Calls _ _ _ _ fun e w' => e = .returned (.bool (n == 0)) ∧ Ext w w'
  go_enter Tryz.func84, Tryz.ntmps84
  go_wp2_with fail
  go_ret
  exact ⟨rfl, Ext.refl _⟩
set_option maxHeartbeats 1000000 in
theorem hold_eq (x y : Val) (pb : Nat) (w : World) (hx : x.ok) (hy : y.ok) (hc : w.cell? ⟨pb, 0, none⟩ = some (.func (.func 84) #[] #[])) (z : Val) (hz : holdV (Sg.pred .eq) x y = z) :
    Calls Tryz.prog 142 #[VV x.kind x.mant x.exp x.text x.truth x.fault, VV y.kind y.mant y.exp y.text y.truth y.fault, .pointer (some ⟨pb, 0, none⟩)] w fun e w' => e = .returned (VV z.kind z.mant z.exp z.text z.truth z.fault) ∧ Ext w w' := by
  have hpb := lt_of_cell hc
  have hcm := fun W => vcmp_any x y W hx hy
  have htr := fun b W => truth_any b W
  have his := fun W => is_eq (cmpV x y) W
  by_cases h1 : x.kind = 4
  · obtain rfl : z = x := by rw [← hz]; unfold holdV; simp [h1]
    have q1 : (z.kind == 4) = true := by simp [h1]
    clear h1 hz hx hy his hcm htr
    generalize z.kind = xk at *; generalize z.mant = xm at *; generalize z.exp = xe at *; generalize z.text = xt at *; generalize z.truth = xb at *; generalize z.fault = xf at *
    generalize y.kind = yk at *; generalize y.mant = ym at *; generalize y.exp = ye at *; generalize y.text = yt at *; generalize y.truth = yb at *; generalize y.fault = yf at *
    go_enter Tryz.func142, Tryz.ntmps142
    go_wp2_with fail
    exact bodyPost_ret (v := VV xk xm xe xt xb xf) (by simp [results, Tryz.results142, go_sem]) rfl ⟨rfl, by with_reducible repeat (first | exact Ext.refl _ | apply Ext.drew | apply Ext.alloc | apply Ext.more_)⟩
  · have q1 : (x.kind == 4) = false := by simp [h1]
    by_cases h2 : y.kind = 4
    · obtain rfl : z = y := by rw [← hz]; unfold holdV; simp [h1, h2]
      have q2 : (z.kind == 4) = true := by simp [h2]
      clear h1 h2 hz hx hy his hcm htr
      generalize x.kind = xk at *; generalize x.mant = xm at *; generalize x.exp = xe at *; generalize x.text = xt at *; generalize x.truth = xb at *; generalize x.fault = xf at *
      generalize z.kind = yk at *; generalize z.mant = ym at *; generalize z.exp = ye at *; generalize z.text = yt at *; generalize z.truth = yb at *; generalize z.fault = yf at *
      go_enter Tryz.func142, Tryz.ntmps142
      go_wp2_with fail
      exact bodyPost_ret (v := VV yk ym ye yt yb yf) (by simp [results, Tryz.results142, go_sem]) rfl ⟨rfl, by with_reducible repeat (first | exact Ext.refl _ | apply Ext.drew | apply Ext.alloc | apply Ext.more_)⟩
    · obtain rfl : z = truthV (Sg.pred .eq (cmpV x y)) := by rw [← hz]; unfold holdV; simp [h1, h2]
      have q2 : (y.kind == 4) = false := by simp [h2]
      clear h1 h2 hz hx hy
      simp only [truthV]
      generalize cmpV x y = n at *
      generalize Sg.pred .eq n = r at *
      generalize x.kind = xk at *; generalize x.mant = xm at *; generalize x.exp = xe at *; generalize x.text = xt at *; generalize x.truth = xb at *; generalize x.fault = xf at *
      generalize y.kind = yk at *; generalize y.mant = ym at *; generalize y.exp = ye at *; generalize y.text = yt at *; generalize y.truth = yb at *; generalize y.fault = yf at *
      go_enter Tryz.func142, Tryz.ntmps142
      go_upto_region 5 with fail
      refine wp_plan (S := Ext _) [(0, 0), (1, 0), (2, 0), (3, 1), (4, 1), (5, 1), (6, 2)] [6] (by kernel_rfl) (by kernel_rfl) (by kernel_rfl) (fun _ _ d _ _ h => by cases d <;> exact h) (Ext.drew (Ext.refl _)) ?_
      iterate 3 ((refine wpPl_read (v := ?_) rfl ?_ (fun _ h => ?_) ?_; rotate_left 1; rfl; (obtain ⟨_, _, rfl⟩ := h.more; go_simp; try rfl)); try simp only [Act.put, zqA, zqB, zqC])
      (refine wpPl_eff rfl ?_ (fun K hK => ?_); rfl; go_simp; refine (hcm _).mono ?_; rintro e w' ⟨rfl, hb⟩; obtain ⟨os1, d1, rfl⟩ := hb.more; clear hb; refine hK _ _ ?_ ?_; (repeat (first | (with_reducible (first | exact Ext.refl _ | exact ext_d _ _ _ _ | exact ext_app _ _ _ _ _ | exact ext_app2 _ _ _ _ _ _ | exact ext_app3 _ _ _ _ _ _ _ | exact ext_app4 _ _ _ _ _ _ _ _ | exact ext_app5 _ _ _ _ _ _ _ _ _)) | ((with_reducible refine ext_suffix ⟨_, ?_⟩); (try simp only [Array.append_assoc]); rfl) | (with_reducible (first | apply Ext.drew | apply Ext.alloc | apply Ext.more_)) | apply Ext.drew | apply Ext.alloc | apply Ext.more_)))
      try simp only [Act.put, zqA, zqB, zqC]
      (refine wpPl_eff rfl ?_ (fun K hK => ?_); rfl; go_simp; refine (his _).mono ?_; rintro e w' ⟨rfl, hb⟩; obtain ⟨os2, d2, rfl⟩ := hb.more; clear hb; refine hK _ _ ?_ ?_; (repeat (first | (with_reducible (first | exact Ext.refl _ | exact ext_d _ _ _ _ | exact ext_app _ _ _ _ _ | exact ext_app2 _ _ _ _ _ _ | exact ext_app3 _ _ _ _ _ _ _ | exact ext_app4 _ _ _ _ _ _ _ _ | exact ext_app5 _ _ _ _ _ _ _ _ _)) | ((with_reducible refine ext_suffix ⟨_, ?_⟩); (try simp only [Array.append_assoc]); rfl) | (with_reducible (first | apply Ext.drew | apply Ext.alloc | apply Ext.more_)) | apply Ext.drew | apply Ext.alloc | apply Ext.more_)))
      try simp only [Act.put, zqA, zqB, zqC]
      (refine wpPl_eff rfl ?_ (fun K hK => ?_); rfl; go_simp; refine (htr _ _).mono ?_; rintro e w' ⟨rfl, hb⟩; obtain ⟨os3, d3, rfl⟩ := hb.more; clear hb; refine hK _ _ ?_ ?_; (repeat (first | (with_reducible (first | exact Ext.refl _ | exact ext_d _ _ _ _ | exact ext_app _ _ _ _ _ | exact ext_app2 _ _ _ _ _ _ | exact ext_app3 _ _ _ _ _ _ _ | exact ext_app4 _ _ _ _ _ _ _ _ | exact ext_app5 _ _ _ _ _ _ _ _ _)) | ((with_reducible refine ext_suffix ⟨_, ?_⟩); (try simp only [Array.append_assoc]); rfl) | (with_reducible (first | apply Ext.drew | apply Ext.alloc | apply Ext.more_)) | apply Ext.drew | apply Ext.alloc | apply Ext.more_)))
      try simp only [Act.put, zqA, zqB, zqC]
      (refine wpPl_tail rfl ?_ (fun K hK => ?_); rfl; go_simp; refine hK _ _ ?_)
      try simp only [Act.put]
      refine wpPl_nil ?_
      go_wp2_with fail
      exact bodyPost_ret (v := VV 3 0 0 ⟨#[]⟩ r 0) (by simp [results, Tryz.results142, go_sem]) rfl ⟨rfl, by with_reducible repeat (first | exact Ext.refl _ | apply Ext.drew | apply Ext.alloc | apply Ext.more_)⟩
theorem is_ne (n : Int) (w : World) :
    Calls Tryz.prog 85 #[.int .i64 n] w fun e w' => e = .returned (.bool (Sg.pred .ne n)) ∧ Ext w w' := by
  show Calls _ _ _ _ fun e w' => e = .returned (.bool (n != 0)) ∧ Ext w w'
  go_enter Tryz.func85, Tryz.ntmps85
  go_wp2_with fail
  go_ret
  exact ⟨rfl, Ext.refl _⟩
set_option maxHeartbeats 1000000 in
theorem hold_ne (x y : Val) (pb : Nat) (w : World) (hx : x.ok) (hy : y.ok) (hc : w.cell? ⟨pb, 0, none⟩ = some (.func (.func 85) #[] #[])) (z : Val) (hz : holdV (Sg.pred .ne) x y = z) :
    Calls Tryz.prog 142 #[VV x.kind x.mant x.exp x.text x.truth x.fault, VV y.kind y.mant y.exp y.text y.truth y.fault, .pointer (some ⟨pb, 0, none⟩)] w fun e w' => e = .returned (VV z.kind z.mant z.exp z.text z.truth z.fault) ∧ Ext w w' := by
  have hpb := lt_of_cell hc
  have hcm := fun W => vcmp_any x y W hx hy
  have htr := fun b W => truth_any b W
  have his := fun W => is_ne (cmpV x y) W
  by_cases h1 : x.kind = 4
  · obtain rfl : z = x := by rw [← hz]; unfold holdV; simp [h1]
    have q1 : (z.kind == 4) = true := by simp [h1]
    clear h1 hz hx hy his hcm htr
    generalize z.kind = xk at *; generalize z.mant = xm at *; generalize z.exp = xe at *; generalize z.text = xt at *; generalize z.truth = xb at *; generalize z.fault = xf at *
    generalize y.kind = yk at *; generalize y.mant = ym at *; generalize y.exp = ye at *; generalize y.text = yt at *; generalize y.truth = yb at *; generalize y.fault = yf at *
    go_enter Tryz.func142, Tryz.ntmps142
    go_wp2_with fail
    exact bodyPost_ret (v := VV xk xm xe xt xb xf) (by simp [results, Tryz.results142, go_sem]) rfl ⟨rfl, by with_reducible repeat (first | exact Ext.refl _ | apply Ext.drew | apply Ext.alloc | apply Ext.more_)⟩
  · have q1 : (x.kind == 4) = false := by simp [h1]
    by_cases h2 : y.kind = 4
    · obtain rfl : z = y := by rw [← hz]; unfold holdV; simp [h1, h2]
      have q2 : (z.kind == 4) = true := by simp [h2]
      clear h1 h2 hz hx hy his hcm htr
      generalize x.kind = xk at *; generalize x.mant = xm at *; generalize x.exp = xe at *; generalize x.text = xt at *; generalize x.truth = xb at *; generalize x.fault = xf at *
      generalize z.kind = yk at *; generalize z.mant = ym at *; generalize z.exp = ye at *; generalize z.text = yt at *; generalize z.truth = yb at *; generalize z.fault = yf at *
      go_enter Tryz.func142, Tryz.ntmps142
      go_wp2_with fail
      exact bodyPost_ret (v := VV yk ym ye yt yb yf) (by simp [results, Tryz.results142, go_sem]) rfl ⟨rfl, by with_reducible repeat (first | exact Ext.refl _ | apply Ext.drew | apply Ext.alloc | apply Ext.more_)⟩
    · obtain rfl : z = truthV (Sg.pred .ne (cmpV x y)) := by rw [← hz]; unfold holdV; simp [h1, h2]
      have q2 : (y.kind == 4) = false := by simp [h2]
      clear h1 h2 hz hx hy
      simp only [truthV]
      generalize cmpV x y = n at *
      generalize Sg.pred .ne n = r at *
      generalize x.kind = xk at *; generalize x.mant = xm at *; generalize x.exp = xe at *; generalize x.text = xt at *; generalize x.truth = xb at *; generalize x.fault = xf at *
      generalize y.kind = yk at *; generalize y.mant = ym at *; generalize y.exp = ye at *; generalize y.text = yt at *; generalize y.truth = yb at *; generalize y.fault = yf at *
      go_enter Tryz.func142, Tryz.ntmps142
      go_upto_region 5 with fail
      refine wp_plan (S := Ext _) [(0, 0), (1, 0), (2, 0), (3, 1), (4, 1), (5, 1), (6, 2)] [6] (by kernel_rfl) (by kernel_rfl) (by kernel_rfl) (fun _ _ d _ _ h => by cases d <;> exact h) (Ext.drew (Ext.refl _)) ?_
      iterate 3 ((refine wpPl_read (v := ?_) rfl ?_ (fun _ h => ?_) ?_; rotate_left 1; rfl; (obtain ⟨_, _, rfl⟩ := h.more; go_simp; try rfl)); try simp only [Act.put, zqA, zqB, zqC])
      (refine wpPl_eff rfl ?_ (fun K hK => ?_); rfl; go_simp; refine (hcm _).mono ?_; rintro e w' ⟨rfl, hb⟩; obtain ⟨os1, d1, rfl⟩ := hb.more; clear hb; refine hK _ _ ?_ ?_; (repeat (first | (with_reducible (first | exact Ext.refl _ | exact ext_d _ _ _ _ | exact ext_app _ _ _ _ _ | exact ext_app2 _ _ _ _ _ _ | exact ext_app3 _ _ _ _ _ _ _ | exact ext_app4 _ _ _ _ _ _ _ _ | exact ext_app5 _ _ _ _ _ _ _ _ _)) | ((with_reducible refine ext_suffix ⟨_, ?_⟩); (try simp only [Array.append_assoc]); rfl) | (with_reducible (first | apply Ext.drew | apply Ext.alloc | apply Ext.more_)) | apply Ext.drew | apply Ext.alloc | apply Ext.more_)))
      try simp only [Act.put, zqA, zqB, zqC]
      (refine wpPl_eff rfl ?_ (fun K hK => ?_); rfl; go_simp; refine (his _).mono ?_; rintro e w' ⟨rfl, hb⟩; obtain ⟨os2, d2, rfl⟩ := hb.more; clear hb; refine hK _ _ ?_ ?_; (repeat (first | (with_reducible (first | exact Ext.refl _ | exact ext_d _ _ _ _ | exact ext_app _ _ _ _ _ | exact ext_app2 _ _ _ _ _ _ | exact ext_app3 _ _ _ _ _ _ _ | exact ext_app4 _ _ _ _ _ _ _ _ | exact ext_app5 _ _ _ _ _ _ _ _ _)) | ((with_reducible refine ext_suffix ⟨_, ?_⟩); (try simp only [Array.append_assoc]); rfl) | (with_reducible (first | apply Ext.drew | apply Ext.alloc | apply Ext.more_)) | apply Ext.drew | apply Ext.alloc | apply Ext.more_)))
      try simp only [Act.put, zqA, zqB, zqC]
      (refine wpPl_eff rfl ?_ (fun K hK => ?_); rfl; go_simp; refine (htr _ _).mono ?_; rintro e w' ⟨rfl, hb⟩; obtain ⟨os3, d3, rfl⟩ := hb.more; clear hb; refine hK _ _ ?_ ?_; (repeat (first | (with_reducible (first | exact Ext.refl _ | exact ext_d _ _ _ _ | exact ext_app _ _ _ _ _ | exact ext_app2 _ _ _ _ _ _ | exact ext_app3 _ _ _ _ _ _ _ | exact ext_app4 _ _ _ _ _ _ _ _ | exact ext_app5 _ _ _ _ _ _ _ _ _)) | ((with_reducible refine ext_suffix ⟨_, ?_⟩); (try simp only [Array.append_assoc]); rfl) | (with_reducible (first | apply Ext.drew | apply Ext.alloc | apply Ext.more_)) | apply Ext.drew | apply Ext.alloc | apply Ext.more_)))
      try simp only [Act.put, zqA, zqB, zqC]
      (refine wpPl_tail rfl ?_ (fun K hK => ?_); rfl; go_simp; refine hK _ _ ?_)
      try simp only [Act.put]
      refine wpPl_nil ?_
      go_wp2_with fail
      exact bodyPost_ret (v := VV 3 0 0 ⟨#[]⟩ r 0) (by simp [results, Tryz.results142, go_sem]) rfl ⟨rfl, by with_reducible repeat (first | exact Ext.refl _ | apply Ext.drew | apply Ext.alloc | apply Ext.more_)⟩
theorem is_lt (n : Int) (w : World) :
    Calls Tryz.prog 86 #[.int .i64 n] w fun e w' => e = .returned (.bool (Sg.pred .lt n)) ∧ Ext w w' := by
  show Calls _ _ _ _ fun e w' => e = .returned (.bool (decide (n < 0))) ∧ Ext w w'
  go_enter Tryz.func86, Tryz.ntmps86
  go_wp2_with fail
  go_ret
  exact ⟨rfl, Ext.refl _⟩
set_option maxHeartbeats 1000000 in
theorem hold_lt (x y : Val) (pb : Nat) (w : World) (hx : x.ok) (hy : y.ok) (hc : w.cell? ⟨pb, 0, none⟩ = some (.func (.func 86) #[] #[])) (z : Val) (hz : holdV (Sg.pred .lt) x y = z) :
    Calls Tryz.prog 142 #[VV x.kind x.mant x.exp x.text x.truth x.fault, VV y.kind y.mant y.exp y.text y.truth y.fault, .pointer (some ⟨pb, 0, none⟩)] w fun e w' => e = .returned (VV z.kind z.mant z.exp z.text z.truth z.fault) ∧ Ext w w' := by
  have hpb := lt_of_cell hc
  have hcm := fun W => vcmp_any x y W hx hy
  have htr := fun b W => truth_any b W
  have his := fun W => is_lt (cmpV x y) W
  by_cases h1 : x.kind = 4
  · obtain rfl : z = x := by rw [← hz]; unfold holdV; simp [h1]
    have q1 : (z.kind == 4) = true := by simp [h1]
    clear h1 hz hx hy his hcm htr
    generalize z.kind = xk at *; generalize z.mant = xm at *; generalize z.exp = xe at *; generalize z.text = xt at *; generalize z.truth = xb at *; generalize z.fault = xf at *
    generalize y.kind = yk at *; generalize y.mant = ym at *; generalize y.exp = ye at *; generalize y.text = yt at *; generalize y.truth = yb at *; generalize y.fault = yf at *
    go_enter Tryz.func142, Tryz.ntmps142
    go_wp2_with fail
    exact bodyPost_ret (v := VV xk xm xe xt xb xf) (by simp [results, Tryz.results142, go_sem]) rfl ⟨rfl, by with_reducible repeat (first | exact Ext.refl _ | apply Ext.drew | apply Ext.alloc | apply Ext.more_)⟩
  · have q1 : (x.kind == 4) = false := by simp [h1]
    by_cases h2 : y.kind = 4
    · obtain rfl : z = y := by rw [← hz]; unfold holdV; simp [h1, h2]
      have q2 : (z.kind == 4) = true := by simp [h2]
      clear h1 h2 hz hx hy his hcm htr
      generalize x.kind = xk at *; generalize x.mant = xm at *; generalize x.exp = xe at *; generalize x.text = xt at *; generalize x.truth = xb at *; generalize x.fault = xf at *
      generalize z.kind = yk at *; generalize z.mant = ym at *; generalize z.exp = ye at *; generalize z.text = yt at *; generalize z.truth = yb at *; generalize z.fault = yf at *
      go_enter Tryz.func142, Tryz.ntmps142
      go_wp2_with fail
      exact bodyPost_ret (v := VV yk ym ye yt yb yf) (by simp [results, Tryz.results142, go_sem]) rfl ⟨rfl, by with_reducible repeat (first | exact Ext.refl _ | apply Ext.drew | apply Ext.alloc | apply Ext.more_)⟩
    · obtain rfl : z = truthV (Sg.pred .lt (cmpV x y)) := by rw [← hz]; unfold holdV; simp [h1, h2]
      have q2 : (y.kind == 4) = false := by simp [h2]
      clear h1 h2 hz hx hy
      simp only [truthV]
      generalize cmpV x y = n at *
      generalize Sg.pred .lt n = r at *
      generalize x.kind = xk at *; generalize x.mant = xm at *; generalize x.exp = xe at *; generalize x.text = xt at *; generalize x.truth = xb at *; generalize x.fault = xf at *
      generalize y.kind = yk at *; generalize y.mant = ym at *; generalize y.exp = ye at *; generalize y.text = yt at *; generalize y.truth = yb at *; generalize y.fault = yf at *
      go_enter Tryz.func142, Tryz.ntmps142
      go_upto_region 5 with fail
      refine wp_plan (S := Ext _) [(0, 0), (1, 0), (2, 0), (3, 1), (4, 1), (5, 1), (6, 2)] [6] (by kernel_rfl) (by kernel_rfl) (by kernel_rfl) (fun _ _ d _ _ h => by cases d <;> exact h) (Ext.drew (Ext.refl _)) ?_
      iterate 3 ((refine wpPl_read (v := ?_) rfl ?_ (fun _ h => ?_) ?_; rotate_left 1; rfl; (obtain ⟨_, _, rfl⟩ := h.more; go_simp; try rfl)); try simp only [Act.put, zqA, zqB, zqC])
      (refine wpPl_eff rfl ?_ (fun K hK => ?_); rfl; go_simp; refine (hcm _).mono ?_; rintro e w' ⟨rfl, hb⟩; obtain ⟨os1, d1, rfl⟩ := hb.more; clear hb; refine hK _ _ ?_ ?_; (repeat (first | (with_reducible (first | exact Ext.refl _ | exact ext_d _ _ _ _ | exact ext_app _ _ _ _ _ | exact ext_app2 _ _ _ _ _ _ | exact ext_app3 _ _ _ _ _ _ _ | exact ext_app4 _ _ _ _ _ _ _ _ | exact ext_app5 _ _ _ _ _ _ _ _ _)) | ((with_reducible refine ext_suffix ⟨_, ?_⟩); (try simp only [Array.append_assoc]); rfl) | (with_reducible (first | apply Ext.drew | apply Ext.alloc | apply Ext.more_)) | apply Ext.drew | apply Ext.alloc | apply Ext.more_)))
      try simp only [Act.put, zqA, zqB, zqC]
      (refine wpPl_eff rfl ?_ (fun K hK => ?_); rfl; go_simp; refine (his _).mono ?_; rintro e w' ⟨rfl, hb⟩; obtain ⟨os2, d2, rfl⟩ := hb.more; clear hb; refine hK _ _ ?_ ?_; (repeat (first | (with_reducible (first | exact Ext.refl _ | exact ext_d _ _ _ _ | exact ext_app _ _ _ _ _ | exact ext_app2 _ _ _ _ _ _ | exact ext_app3 _ _ _ _ _ _ _ | exact ext_app4 _ _ _ _ _ _ _ _ | exact ext_app5 _ _ _ _ _ _ _ _ _)) | ((with_reducible refine ext_suffix ⟨_, ?_⟩); (try simp only [Array.append_assoc]); rfl) | (with_reducible (first | apply Ext.drew | apply Ext.alloc | apply Ext.more_)) | apply Ext.drew | apply Ext.alloc | apply Ext.more_)))
      try simp only [Act.put, zqA, zqB, zqC]
      (refine wpPl_eff rfl ?_ (fun K hK => ?_); rfl; go_simp; refine (htr _ _).mono ?_; rintro e w' ⟨rfl, hb⟩; obtain ⟨os3, d3, rfl⟩ := hb.more; clear hb; refine hK _ _ ?_ ?_; (repeat (first | (with_reducible (first | exact Ext.refl _ | exact ext_d _ _ _ _ | exact ext_app _ _ _ _ _ | exact ext_app2 _ _ _ _ _ _ | exact ext_app3 _ _ _ _ _ _ _ | exact ext_app4 _ _ _ _ _ _ _ _ | exact ext_app5 _ _ _ _ _ _ _ _ _)) | ((with_reducible refine ext_suffix ⟨_, ?_⟩); (try simp only [Array.append_assoc]); rfl) | (with_reducible (first | apply Ext.drew | apply Ext.alloc | apply Ext.more_)) | apply Ext.drew | apply Ext.alloc | apply Ext.more_)))
      try simp only [Act.put, zqA, zqB, zqC]
      (refine wpPl_tail rfl ?_ (fun K hK => ?_); rfl; go_simp; refine hK _ _ ?_)
      try simp only [Act.put]
      refine wpPl_nil ?_
      go_wp2_with fail
      exact bodyPost_ret (v := VV 3 0 0 ⟨#[]⟩ r 0) (by simp [results, Tryz.results142, go_sem]) rfl ⟨rfl, by with_reducible repeat (first | exact Ext.refl _ | apply Ext.drew | apply Ext.alloc | apply Ext.more_)⟩
theorem is_le (n : Int) (w : World) :
    Calls Tryz.prog 87 #[.int .i64 n] w fun e w' => e = .returned (.bool (Sg.pred .le n)) ∧ Ext w w' := by
  show Calls _ _ _ _ fun e w' => e = .returned (.bool (decide (n ≤ 0))) ∧ Ext w w'
  go_enter Tryz.func87, Tryz.ntmps87
  go_wp2_with fail
  go_ret
  exact ⟨rfl, Ext.refl _⟩
set_option maxHeartbeats 1000000 in
theorem hold_le (x y : Val) (pb : Nat) (w : World) (hx : x.ok) (hy : y.ok) (hc : w.cell? ⟨pb, 0, none⟩ = some (.func (.func 87) #[] #[])) (z : Val) (hz : holdV (Sg.pred .le) x y = z) :
    Calls Tryz.prog 142 #[VV x.kind x.mant x.exp x.text x.truth x.fault, VV y.kind y.mant y.exp y.text y.truth y.fault, .pointer (some ⟨pb, 0, none⟩)] w fun e w' => e = .returned (VV z.kind z.mant z.exp z.text z.truth z.fault) ∧ Ext w w' := by
  have hpb := lt_of_cell hc
  have hcm := fun W => vcmp_any x y W hx hy
  have htr := fun b W => truth_any b W
  have his := fun W => is_le (cmpV x y) W
  by_cases h1 : x.kind = 4
  · obtain rfl : z = x := by rw [← hz]; unfold holdV; simp [h1]
    have q1 : (z.kind == 4) = true := by simp [h1]
    clear h1 hz hx hy his hcm htr
    generalize z.kind = xk at *; generalize z.mant = xm at *; generalize z.exp = xe at *; generalize z.text = xt at *; generalize z.truth = xb at *; generalize z.fault = xf at *
    generalize y.kind = yk at *; generalize y.mant = ym at *; generalize y.exp = ye at *; generalize y.text = yt at *; generalize y.truth = yb at *; generalize y.fault = yf at *
    go_enter Tryz.func142, Tryz.ntmps142
    go_wp2_with fail
    exact bodyPost_ret (v := VV xk xm xe xt xb xf) (by simp [results, Tryz.results142, go_sem]) rfl ⟨rfl, by with_reducible repeat (first | exact Ext.refl _ | apply Ext.drew | apply Ext.alloc | apply Ext.more_)⟩
  · have q1 : (x.kind == 4) = false := by simp [h1]
    by_cases h2 : y.kind = 4
    · obtain rfl : z = y := by rw [← hz]; unfold holdV; simp [h1, h2]
      have q2 : (z.kind == 4) = true := by simp [h2]
      clear h1 h2 hz hx hy his hcm htr
      generalize x.kind = xk at *; generalize x.mant = xm at *; generalize x.exp = xe at *; generalize x.text = xt at *; generalize x.truth = xb at *; generalize x.fault = xf at *
      generalize z.kind = yk at *; generalize z.mant = ym at *; generalize z.exp = ye at *; generalize z.text = yt at *; generalize z.truth = yb at *; generalize z.fault = yf at *
      go_enter Tryz.func142, Tryz.ntmps142
      go_wp2_with fail
      exact bodyPost_ret (v := VV yk ym ye yt yb yf) (by simp [results, Tryz.results142, go_sem]) rfl ⟨rfl, by with_reducible repeat (first | exact Ext.refl _ | apply Ext.drew | apply Ext.alloc | apply Ext.more_)⟩
    · obtain rfl : z = truthV (Sg.pred .le (cmpV x y)) := by rw [← hz]; unfold holdV; simp [h1, h2]
      have q2 : (y.kind == 4) = false := by simp [h2]
      clear h1 h2 hz hx hy
      simp only [truthV]
      generalize cmpV x y = n at *
      generalize Sg.pred .le n = r at *
      generalize x.kind = xk at *; generalize x.mant = xm at *; generalize x.exp = xe at *; generalize x.text = xt at *; generalize x.truth = xb at *; generalize x.fault = xf at *
      generalize y.kind = yk at *; generalize y.mant = ym at *; generalize y.exp = ye at *; generalize y.text = yt at *; generalize y.truth = yb at *; generalize y.fault = yf at *
      go_enter Tryz.func142, Tryz.ntmps142
      go_upto_region 5 with fail
      refine wp_plan (S := Ext _) [(0, 0), (1, 0), (2, 0), (3, 1), (4, 1), (5, 1), (6, 2)] [6] (by kernel_rfl) (by kernel_rfl) (by kernel_rfl) (fun _ _ d _ _ h => by cases d <;> exact h) (Ext.drew (Ext.refl _)) ?_
      iterate 3 ((refine wpPl_read (v := ?_) rfl ?_ (fun _ h => ?_) ?_; rotate_left 1; rfl; (obtain ⟨_, _, rfl⟩ := h.more; go_simp; try rfl)); try simp only [Act.put, zqA, zqB, zqC])
      (refine wpPl_eff rfl ?_ (fun K hK => ?_); rfl; go_simp; refine (hcm _).mono ?_; rintro e w' ⟨rfl, hb⟩; obtain ⟨os1, d1, rfl⟩ := hb.more; clear hb; refine hK _ _ ?_ ?_; (repeat (first | (with_reducible (first | exact Ext.refl _ | exact ext_d _ _ _ _ | exact ext_app _ _ _ _ _ | exact ext_app2 _ _ _ _ _ _ | exact ext_app3 _ _ _ _ _ _ _ | exact ext_app4 _ _ _ _ _ _ _ _ | exact ext_app5 _ _ _ _ _ _ _ _ _)) | ((with_reducible refine ext_suffix ⟨_, ?_⟩); (try simp only [Array.append_assoc]); rfl) | (with_reducible (first | apply Ext.drew | apply Ext.alloc | apply Ext.more_)) | apply Ext.drew | apply Ext.alloc | apply Ext.more_)))
      try simp only [Act.put, zqA, zqB, zqC]
      (refine wpPl_eff rfl ?_ (fun K hK => ?_); rfl; go_simp; refine (his _).mono ?_; rintro e w' ⟨rfl, hb⟩; obtain ⟨os2, d2, rfl⟩ := hb.more; clear hb; refine hK _ _ ?_ ?_; (repeat (first | (with_reducible (first | exact Ext.refl _ | exact ext_d _ _ _ _ | exact ext_app _ _ _ _ _ | exact ext_app2 _ _ _ _ _ _ | exact ext_app3 _ _ _ _ _ _ _ | exact ext_app4 _ _ _ _ _ _ _ _ | exact ext_app5 _ _ _ _ _ _ _ _ _)) | ((with_reducible refine ext_suffix ⟨_, ?_⟩); (try simp only [Array.append_assoc]); rfl) | (with_reducible (first | apply Ext.drew | apply Ext.alloc | apply Ext.more_)) | apply Ext.drew | apply Ext.alloc | apply Ext.more_)))
      try simp only [Act.put, zqA, zqB, zqC]
      (refine wpPl_eff rfl ?_ (fun K hK => ?_); rfl; go_simp; refine (htr _ _).mono ?_; rintro e w' ⟨rfl, hb⟩; obtain ⟨os3, d3, rfl⟩ := hb.more; clear hb; refine hK _ _ ?_ ?_; (repeat (first | (with_reducible (first | exact Ext.refl _ | exact ext_d _ _ _ _ | exact ext_app _ _ _ _ _ | exact ext_app2 _ _ _ _ _ _ | exact ext_app3 _ _ _ _ _ _ _ | exact ext_app4 _ _ _ _ _ _ _ _ | exact ext_app5 _ _ _ _ _ _ _ _ _)) | ((with_reducible refine ext_suffix ⟨_, ?_⟩); (try simp only [Array.append_assoc]); rfl) | (with_reducible (first | apply Ext.drew | apply Ext.alloc | apply Ext.more_)) | apply Ext.drew | apply Ext.alloc | apply Ext.more_)))
      try simp only [Act.put, zqA, zqB, zqC]
      (refine wpPl_tail rfl ?_ (fun K hK => ?_); rfl; go_simp; refine hK _ _ ?_)
      try simp only [Act.put]
      refine wpPl_nil ?_
      go_wp2_with fail
      exact bodyPost_ret (v := VV 3 0 0 ⟨#[]⟩ r 0) (by simp [results, Tryz.results142, go_sem]) rfl ⟨rfl, by with_reducible repeat (first | exact Ext.refl _ | apply Ext.drew | apply Ext.alloc | apply Ext.more_)⟩
theorem is_gt (n : Int) (w : World) :
    Calls Tryz.prog 88 #[.int .i64 n] w fun e w' => e = .returned (.bool (Sg.pred .gt n)) ∧ Ext w w' := by
  show Calls _ _ _ _ fun e w' => e = .returned (.bool (decide (0 < n))) ∧ Ext w w'
  go_enter Tryz.func88, Tryz.ntmps88
  go_wp2_with fail
  go_ret
  exact ⟨rfl, Ext.refl _⟩
set_option maxHeartbeats 1000000 in
theorem hold_gt (x y : Val) (pb : Nat) (w : World) (hx : x.ok) (hy : y.ok) (hc : w.cell? ⟨pb, 0, none⟩ = some (.func (.func 88) #[] #[])) (z : Val) (hz : holdV (Sg.pred .gt) x y = z) :
    Calls Tryz.prog 142 #[VV x.kind x.mant x.exp x.text x.truth x.fault, VV y.kind y.mant y.exp y.text y.truth y.fault, .pointer (some ⟨pb, 0, none⟩)] w fun e w' => e = .returned (VV z.kind z.mant z.exp z.text z.truth z.fault) ∧ Ext w w' := by
  have hpb := lt_of_cell hc
  have hcm := fun W => vcmp_any x y W hx hy
  have htr := fun b W => truth_any b W
  have his := fun W => is_gt (cmpV x y) W
  by_cases h1 : x.kind = 4
  · obtain rfl : z = x := by rw [← hz]; unfold holdV; simp [h1]
    have q1 : (z.kind == 4) = true := by simp [h1]
    clear h1 hz hx hy his hcm htr
    generalize z.kind = xk at *; generalize z.mant = xm at *; generalize z.exp = xe at *; generalize z.text = xt at *; generalize z.truth = xb at *; generalize z.fault = xf at *
    generalize y.kind = yk at *; generalize y.mant = ym at *; generalize y.exp = ye at *; generalize y.text = yt at *; generalize y.truth = yb at *; generalize y.fault = yf at *
    go_enter Tryz.func142, Tryz.ntmps142
    go_wp2_with fail
    exact bodyPost_ret (v := VV xk xm xe xt xb xf) (by simp [results, Tryz.results142, go_sem]) rfl ⟨rfl, by with_reducible repeat (first | exact Ext.refl _ | apply Ext.drew | apply Ext.alloc | apply Ext.more_)⟩
  · have q1 : (x.kind == 4) = false := by simp [h1]
    by_cases h2 : y.kind = 4
    · obtain rfl : z = y := by rw [← hz]; unfold holdV; simp [h1, h2]
      have q2 : (z.kind == 4) = true := by simp [h2]
      clear h1 h2 hz hx hy his hcm htr
      generalize x.kind = xk at *; generalize x.mant = xm at *; generalize x.exp = xe at *; generalize x.text = xt at *; generalize x.truth = xb at *; generalize x.fault = xf at *
      generalize z.kind = yk at *; generalize z.mant = ym at *; generalize z.exp = ye at *; generalize z.text = yt at *; generalize z.truth = yb at *; generalize z.fault = yf at *
      go_enter Tryz.func142, Tryz.ntmps142
      go_wp2_with fail
      exact bodyPost_ret (v := VV yk ym ye yt yb yf) (by simp [results, Tryz.results142, go_sem]) rfl ⟨rfl, by with_reducible repeat (first | exact Ext.refl _ | apply Ext.drew | apply Ext.alloc | apply Ext.more_)⟩
    · obtain rfl : z = truthV (Sg.pred .gt (cmpV x y)) := by rw [← hz]; unfold holdV; simp [h1, h2]
      have q2 : (y.kind == 4) = false := by simp [h2]
      clear h1 h2 hz hx hy
      simp only [truthV]
      generalize cmpV x y = n at *
      generalize Sg.pred .gt n = r at *
      generalize x.kind = xk at *; generalize x.mant = xm at *; generalize x.exp = xe at *; generalize x.text = xt at *; generalize x.truth = xb at *; generalize x.fault = xf at *
      generalize y.kind = yk at *; generalize y.mant = ym at *; generalize y.exp = ye at *; generalize y.text = yt at *; generalize y.truth = yb at *; generalize y.fault = yf at *
      go_enter Tryz.func142, Tryz.ntmps142
      go_upto_region 5 with fail
      refine wp_plan (S := Ext _) [(0, 0), (1, 0), (2, 0), (3, 1), (4, 1), (5, 1), (6, 2)] [6] (by kernel_rfl) (by kernel_rfl) (by kernel_rfl) (fun _ _ d _ _ h => by cases d <;> exact h) (Ext.drew (Ext.refl _)) ?_
      iterate 3 ((refine wpPl_read (v := ?_) rfl ?_ (fun _ h => ?_) ?_; rotate_left 1; rfl; (obtain ⟨_, _, rfl⟩ := h.more; go_simp; try rfl)); try simp only [Act.put, zqA, zqB, zqC])
      (refine wpPl_eff rfl ?_ (fun K hK => ?_); rfl; go_simp; refine (hcm _).mono ?_; rintro e w' ⟨rfl, hb⟩; obtain ⟨os1, d1, rfl⟩ := hb.more; clear hb; refine hK _ _ ?_ ?_; (repeat (first | (with_reducible (first | exact Ext.refl _ | exact ext_d _ _ _ _ | exact ext_app _ _ _ _ _ | exact ext_app2 _ _ _ _ _ _ | exact ext_app3 _ _ _ _ _ _ _ | exact ext_app4 _ _ _ _ _ _ _ _ | exact ext_app5 _ _ _ _ _ _ _ _ _)) | ((with_reducible refine ext_suffix ⟨_, ?_⟩); (try simp only [Array.append_assoc]); rfl) | (with_reducible (first | apply Ext.drew | apply Ext.alloc | apply Ext.more_)) | apply Ext.drew | apply Ext.alloc | apply Ext.more_)))
      try simp only [Act.put, zqA, zqB, zqC]
      (refine wpPl_eff rfl ?_ (fun K hK => ?_); rfl; go_simp; refine (his _).mono ?_; rintro e w' ⟨rfl, hb⟩; obtain ⟨os2, d2, rfl⟩ := hb.more; clear hb; refine hK _ _ ?_ ?_; (repeat (first | (with_reducible (first | exact Ext.refl _ | exact ext_d _ _ _ _ | exact ext_app _ _ _ _ _ | exact ext_app2 _ _ _ _ _ _ | exact ext_app3 _ _ _ _ _ _ _ | exact ext_app4 _ _ _ _ _ _ _ _ | exact ext_app5 _ _ _ _ _ _ _ _ _)) | ((with_reducible refine ext_suffix ⟨_, ?_⟩); (try simp only [Array.append_assoc]); rfl) | (with_reducible (first | apply Ext.drew | apply Ext.alloc | apply Ext.more_)) | apply Ext.drew | apply Ext.alloc | apply Ext.more_)))
      try simp only [Act.put, zqA, zqB, zqC]
      (refine wpPl_eff rfl ?_ (fun K hK => ?_); rfl; go_simp; refine (htr _ _).mono ?_; rintro e w' ⟨rfl, hb⟩; obtain ⟨os3, d3, rfl⟩ := hb.more; clear hb; refine hK _ _ ?_ ?_; (repeat (first | (with_reducible (first | exact Ext.refl _ | exact ext_d _ _ _ _ | exact ext_app _ _ _ _ _ | exact ext_app2 _ _ _ _ _ _ | exact ext_app3 _ _ _ _ _ _ _ | exact ext_app4 _ _ _ _ _ _ _ _ | exact ext_app5 _ _ _ _ _ _ _ _ _)) | ((with_reducible refine ext_suffix ⟨_, ?_⟩); (try simp only [Array.append_assoc]); rfl) | (with_reducible (first | apply Ext.drew | apply Ext.alloc | apply Ext.more_)) | apply Ext.drew | apply Ext.alloc | apply Ext.more_)))
      try simp only [Act.put, zqA, zqB, zqC]
      (refine wpPl_tail rfl ?_ (fun K hK => ?_); rfl; go_simp; refine hK _ _ ?_)
      try simp only [Act.put]
      refine wpPl_nil ?_
      go_wp2_with fail
      exact bodyPost_ret (v := VV 3 0 0 ⟨#[]⟩ r 0) (by simp [results, Tryz.results142, go_sem]) rfl ⟨rfl, by with_reducible repeat (first | exact Ext.refl _ | apply Ext.drew | apply Ext.alloc | apply Ext.more_)⟩
theorem is_ge (n : Int) (w : World) :
    Calls Tryz.prog 89 #[.int .i64 n] w fun e w' => e = .returned (.bool (Sg.pred .ge n)) ∧ Ext w w' := by
  show Calls _ _ _ _ fun e w' => e = .returned (.bool (decide (0 ≤ n))) ∧ Ext w w'
  go_enter Tryz.func89, Tryz.ntmps89
  go_wp2_with fail
  go_ret
  exact ⟨rfl, Ext.refl _⟩
set_option maxHeartbeats 1000000 in
theorem hold_ge (x y : Val) (pb : Nat) (w : World) (hx : x.ok) (hy : y.ok) (hc : w.cell? ⟨pb, 0, none⟩ = some (.func (.func 89) #[] #[])) (z : Val) (hz : holdV (Sg.pred .ge) x y = z) :
    Calls Tryz.prog 142 #[VV x.kind x.mant x.exp x.text x.truth x.fault, VV y.kind y.mant y.exp y.text y.truth y.fault, .pointer (some ⟨pb, 0, none⟩)] w fun e w' => e = .returned (VV z.kind z.mant z.exp z.text z.truth z.fault) ∧ Ext w w' := by
  have hpb := lt_of_cell hc
  have hcm := fun W => vcmp_any x y W hx hy
  have htr := fun b W => truth_any b W
  have his := fun W => is_ge (cmpV x y) W
  by_cases h1 : x.kind = 4
  · obtain rfl : z = x := by rw [← hz]; unfold holdV; simp [h1]
    have q1 : (z.kind == 4) = true := by simp [h1]
    clear h1 hz hx hy his hcm htr
    generalize z.kind = xk at *; generalize z.mant = xm at *; generalize z.exp = xe at *; generalize z.text = xt at *; generalize z.truth = xb at *; generalize z.fault = xf at *
    generalize y.kind = yk at *; generalize y.mant = ym at *; generalize y.exp = ye at *; generalize y.text = yt at *; generalize y.truth = yb at *; generalize y.fault = yf at *
    go_enter Tryz.func142, Tryz.ntmps142
    go_wp2_with fail
    exact bodyPost_ret (v := VV xk xm xe xt xb xf) (by simp [results, Tryz.results142, go_sem]) rfl ⟨rfl, by with_reducible repeat (first | exact Ext.refl _ | apply Ext.drew | apply Ext.alloc | apply Ext.more_)⟩
  · have q1 : (x.kind == 4) = false := by simp [h1]
    by_cases h2 : y.kind = 4
    · obtain rfl : z = y := by rw [← hz]; unfold holdV; simp [h1, h2]
      have q2 : (z.kind == 4) = true := by simp [h2]
      clear h1 h2 hz hx hy his hcm htr
      generalize x.kind = xk at *; generalize x.mant = xm at *; generalize x.exp = xe at *; generalize x.text = xt at *; generalize x.truth = xb at *; generalize x.fault = xf at *
      generalize z.kind = yk at *; generalize z.mant = ym at *; generalize z.exp = ye at *; generalize z.text = yt at *; generalize z.truth = yb at *; generalize z.fault = yf at *
      go_enter Tryz.func142, Tryz.ntmps142
      go_wp2_with fail
      exact bodyPost_ret (v := VV yk ym ye yt yb yf) (by simp [results, Tryz.results142, go_sem]) rfl ⟨rfl, by with_reducible repeat (first | exact Ext.refl _ | apply Ext.drew | apply Ext.alloc | apply Ext.more_)⟩
    · obtain rfl : z = truthV (Sg.pred .ge (cmpV x y)) := by rw [← hz]; unfold holdV; simp [h1, h2]
      have q2 : (y.kind == 4) = false := by simp [h2]
      clear h1 h2 hz hx hy
      simp only [truthV]
      generalize cmpV x y = n at *
      generalize Sg.pred .ge n = r at *
      generalize x.kind = xk at *; generalize x.mant = xm at *; generalize x.exp = xe at *; generalize x.text = xt at *; generalize x.truth = xb at *; generalize x.fault = xf at *
      generalize y.kind = yk at *; generalize y.mant = ym at *; generalize y.exp = ye at *; generalize y.text = yt at *; generalize y.truth = yb at *; generalize y.fault = yf at *
      go_enter Tryz.func142, Tryz.ntmps142
      go_upto_region 5 with fail
      refine wp_plan (S := Ext _) [(0, 0), (1, 0), (2, 0), (3, 1), (4, 1), (5, 1), (6, 2)] [6] (by kernel_rfl) (by kernel_rfl) (by kernel_rfl) (fun _ _ d _ _ h => by cases d <;> exact h) (Ext.drew (Ext.refl _)) ?_
      iterate 3 ((refine wpPl_read (v := ?_) rfl ?_ (fun _ h => ?_) ?_; rotate_left 1; rfl; (obtain ⟨_, _, rfl⟩ := h.more; go_simp; try rfl)); try simp only [Act.put, zqA, zqB, zqC])
      (refine wpPl_eff rfl ?_ (fun K hK => ?_); rfl; go_simp; refine (hcm _).mono ?_; rintro e w' ⟨rfl, hb⟩; obtain ⟨os1, d1, rfl⟩ := hb.more; clear hb; refine hK _ _ ?_ ?_; (repeat (first | (with_reducible (first | exact Ext.refl _ | exact ext_d _ _ _ _ | exact ext_app _ _ _ _ _ | exact ext_app2 _ _ _ _ _ _ | exact ext_app3 _ _ _ _ _ _ _ | exact ext_app4 _ _ _ _ _ _ _ _ | exact ext_app5 _ _ _ _ _ _ _ _ _)) | ((with_reducible refine ext_suffix ⟨_, ?_⟩); (try simp only [Array.append_assoc]); rfl) | (with_reducible (first | apply Ext.drew | apply Ext.alloc | apply Ext.more_)) | apply Ext.drew | apply Ext.alloc | apply Ext.more_)))
      try simp only [Act.put, zqA, zqB, zqC]
      (refine wpPl_eff rfl ?_ (fun K hK => ?_); rfl; go_simp; refine (his _).mono ?_; rintro e w' ⟨rfl, hb⟩; obtain ⟨os2, d2, rfl⟩ := hb.more; clear hb; refine hK _ _ ?_ ?_; (repeat (first | (with_reducible (first | exact Ext.refl _ | exact ext_d _ _ _ _ | exact ext_app _ _ _ _ _ | exact ext_app2 _ _ _ _ _ _ | exact ext_app3 _ _ _ _ _ _ _ | exact ext_app4 _ _ _ _ _ _ _ _ | exact ext_app5 _ _ _ _ _ _ _ _ _)) | ((with_reducible refine ext_suffix ⟨_, ?_⟩); (try simp only [Array.append_assoc]); rfl) | (with_reducible (first | apply Ext.drew | apply Ext.alloc | apply Ext.more_)) | apply Ext.drew | apply Ext.alloc | apply Ext.more_)))
      try simp only [Act.put, zqA, zqB, zqC]
      (refine wpPl_eff rfl ?_ (fun K hK => ?_); rfl; go_simp; refine (htr _ _).mono ?_; rintro e w' ⟨rfl, hb⟩; obtain ⟨os3, d3, rfl⟩ := hb.more; clear hb; refine hK _ _ ?_ ?_; (repeat (first | (with_reducible (first | exact Ext.refl _ | exact ext_d _ _ _ _ | exact ext_app _ _ _ _ _ | exact ext_app2 _ _ _ _ _ _ | exact ext_app3 _ _ _ _ _ _ _ | exact ext_app4 _ _ _ _ _ _ _ _ | exact ext_app5 _ _ _ _ _ _ _ _ _)) | ((with_reducible refine ext_suffix ⟨_, ?_⟩); (try simp only [Array.append_assoc]); rfl) | (with_reducible (first | apply Ext.drew | apply Ext.alloc | apply Ext.more_)) | apply Ext.drew | apply Ext.alloc | apply Ext.more_)))
      try simp only [Act.put, zqA, zqB, zqC]
      (refine wpPl_tail rfl ?_ (fun K hK => ?_); rfl; go_simp; refine hK _ _ ?_)
      try simp only [Act.put]
      refine wpPl_nil ?_
      go_wp2_with fail
      exact bodyPost_ret (v := VV 3 0 0 ⟨#[]⟩ r 0) (by simp [results, Tryz.results142, go_sem]) rfl ⟨rfl, by with_reducible repeat (first | exact Ext.refl _ | apply Ext.drew | apply Ext.alloc | apply Ext.more_)⟩
set_option maxHeartbeats 1000000 in
theorem reck_add (x y : Val) (pb : Nat) (w : World) (htab : Tab w) (hx : x.right) (hy : y.right) (hc : w.cell? ⟨pb, 0, none⟩ = some (.func (.func 78) #[] #[])) (z : Val) (hz : reckV addS x y = z) :
    Calls Tryz.prog 132 #[VV x.kind x.mant x.exp x.text x.truth x.fault, VV y.kind y.mant y.exp y.text y.truth y.fault, .pointer (some ⟨pb, 0, none⟩)] w fun e w' => e = .returned (VV z.kind z.mant z.exp z.text z.truth z.fault) ∧ Ext w w' := by
  have hpb := lt_of_cell hc
  have hrk := fun W hW => reckoned_add x y W hW hx hy
  rw [hz] at hrk
  have HT := Lib.hid htab
  clear htab hz hx hy
  generalize x.kind = xk at *; generalize x.mant = xm at *; generalize x.exp = xe at *; generalize x.text = xt at *; generalize x.truth = xb at *; generalize x.fault = xf at *
  generalize y.kind = yk at *; generalize y.mant = ym at *; generalize y.exp = ye at *; generalize y.text = yt at *; generalize y.truth = yb at *; generalize y.fault = yf at *
  generalize z.kind = zk at *; generalize z.mant = zm at *; generalize z.exp = ze at *; generalize z.text = zt at *; generalize z.truth = zb at *; generalize z.fault = zf at *
  go_enter Tryz.func132, Tryz.ntmps132
  go_wp2_with (go_at_call 56; (with_reducible refine (hrk _ (HT.out.ext (by with_reducible repeat (first | exact Ext.refl _ | apply Ext.drew | apply Ext.alloc | apply Ext.more_)))).mono ?_); rintro e w' ⟨rfl, hb⟩; obtain ⟨os, d, rfl⟩ := hb.more; clear hb)
  exact bodyPost_ret (v := VV zk zm ze zt zb zf) (by simp [results, Tryz.results132, go_sem]) rfl ⟨rfl, by with_reducible repeat (first | exact Ext.refl _ | apply Ext.drew | apply Ext.alloc | apply Ext.more_)⟩
set_option maxHeartbeats 1000000 in
theorem reck_sub (x y : Val) (pb : Nat) (w : World) (htab : Tab w) (hx : x.right) (hy : y.right) (hc : w.cell? ⟨pb, 0, none⟩ = some (.func (.func 58) #[] #[])) (z : Val) (hz : reckV subS x y = z) :
    Calls Tryz.prog 132 #[VV x.kind x.mant x.exp x.text x.truth x.fault, VV y.kind y.mant y.exp y.text y.truth y.fault, .pointer (some ⟨pb, 0, none⟩)] w fun e w' => e = .returned (VV z.kind z.mant z.exp z.text z.truth z.fault) ∧ Ext w w' := by
  have hpb := lt_of_cell hc
  have hrk := fun W hW => reckoned_sub x y W hW hx hy
  rw [hz] at hrk
  have HT := Lib.hid htab
  clear htab hz hx hy
  generalize x.kind = xk at *; generalize x.mant = xm at *; generalize x.exp = xe at *; generalize x.text = xt at *; generalize x.truth = xb at *; generalize x.fault = xf at *
  generalize y.kind = yk at *; generalize y.mant = ym at *; generalize y.exp = ye at *; generalize y.text = yt at *; generalize y.truth = yb at *; generalize y.fault = yf at *
  generalize z.kind = zk at *; generalize z.mant = zm at *; generalize z.exp = ze at *; generalize z.text = zt at *; generalize z.truth = zb at *; generalize z.fault = zf at *
  go_enter Tryz.func132, Tryz.ntmps132
  go_wp2_with (go_at_call 56; (with_reducible refine (hrk _ (HT.out.ext (by with_reducible repeat (first | exact Ext.refl _ | apply Ext.drew | apply Ext.alloc | apply Ext.more_)))).mono ?_); rintro e w' ⟨rfl, hb⟩; obtain ⟨os, d, rfl⟩ := hb.more; clear hb)
  exact bodyPost_ret (v := VV zk zm ze zt zb zf) (by simp [results, Tryz.results132, go_sem]) rfl ⟨rfl, by with_reducible repeat (first | exact Ext.refl _ | apply Ext.drew | apply Ext.alloc | apply Ext.more_)⟩
set_option maxHeartbeats 1000000 in
theorem reck_mul (x y : Val) (pb : Nat) (w : World) (htab : Tab w) (hx : x.right) (hy : y.right) (hc : w.cell? ⟨pb, 0, none⟩ = some (.func (.func 79) #[] #[])) (z : Val) (hz : reckV mulS x y = z) :
    Calls Tryz.prog 132 #[VV x.kind x.mant x.exp x.text x.truth x.fault, VV y.kind y.mant y.exp y.text y.truth y.fault, .pointer (some ⟨pb, 0, none⟩)] w fun e w' => e = .returned (VV z.kind z.mant z.exp z.text z.truth z.fault) ∧ Ext w w' := by
  have hpb := lt_of_cell hc
  have hrk := fun W hW => reckoned_mul x y W hW hx hy
  rw [hz] at hrk
  have HT := Lib.hid htab
  clear htab hz hx hy
  generalize x.kind = xk at *; generalize x.mant = xm at *; generalize x.exp = xe at *; generalize x.text = xt at *; generalize x.truth = xb at *; generalize x.fault = xf at *
  generalize y.kind = yk at *; generalize y.mant = ym at *; generalize y.exp = ye at *; generalize y.text = yt at *; generalize y.truth = yb at *; generalize y.fault = yf at *
  generalize z.kind = zk at *; generalize z.mant = zm at *; generalize z.exp = ze at *; generalize z.text = zt at *; generalize z.truth = zb at *; generalize z.fault = zf at *
  go_enter Tryz.func132, Tryz.ntmps132
  go_wp2_with (go_at_call 56; (with_reducible refine (hrk _ (HT.out.ext (by with_reducible repeat (first | exact Ext.refl _ | apply Ext.drew | apply Ext.alloc | apply Ext.more_)))).mono ?_); rintro e w' ⟨rfl, hb⟩; obtain ⟨os, d, rfl⟩ := hb.more; clear hb)
  exact bodyPost_ret (v := VV zk zm ze zt zb zf) (by simp [results, Tryz.results132, go_sem]) rfl ⟨rfl, by with_reducible repeat (first | exact Ext.refl _ | apply Ext.drew | apply Ext.alloc | apply Ext.more_)⟩
end Go.Proofs.YteigcfflljoioaaGreatDoor
namespace Go.Proofs.YteigcfflljoioaaGreatDoor
open Go.RowKit Go.Maps Go.WideMaps
/-- An element is held as it is. -/
def tabR (v : Value) : Option (DataW Value × List MemPlace) := some (.held v, [])
abbrev Tab1 := List (List UInt8 × Value)
def tabF (D : DataW Value) (L : Tab1) : DataW Value := L.foldl (fun D p => D.put (.string p.1) (.held p.2)) D
def tabD (L : Tab1) : DataW Value := tabF (.map []) L
def tabAt (L : Tab1) (s : List UInt8) : Option Value := (L.find? fun p => p.1 == s).map (·.2)
theorem tabAt_cons (k : List UInt8) (v : Value) (L : Tab1) (s : List UInt8) : tabAt ((k, v) :: L) s = if k = s then some v else tabAt L s := by
  unfold tabAt
  by_cases h : k = s
  · rw [if_pos h, List.find?_cons_of_pos (by simpa using h)]; rfl
  · rw [if_neg h, List.find?_cons_of_neg (by simpa using h)]
theorem tabAt_none {L : Tab1} {s : List UInt8} (h : ∀ p ∈ L, p.1 ≠ s) : tabAt L s = none := by
  unfold tabAt
  rw [List.find?_eq_none.2 (fun p hp => by simpa using h p hp)]; rfl
theorem tabF_at : ∀ (L : Tab1) (D : DataW Value), IsMap D → L.Pairwise (fun p q => p.1 ≠ q.1) → ∀ (s : List UInt8) (z : DataW Value),
    (tabF D L).atKey (.string s) z = ((tabAt L s).map (fun v => DataW.held v)).getD (D.atKey (.string s) z) ∧ Maps.has (tabF D L) (.string s) = ((tabAt L s).isSome || Maps.has D (.string s))
  | [], D, _, _, s, z => ⟨rfl, rfl⟩
  | (k, v) :: L, D, hD, hp, s, z => by
    obtain ⟨h1, h2⟩ := List.pairwise_cons.1 hp
    have ih := tabF_at L (D.put (.string k) (.held v)) (hD.put _ _) h2 s z
    have e : tabF D ((k, v) :: L) = tabF (D.put (.string k) (.held v)) L := rfl
    rw [e, ih.1, ih.2, tabAt_cons]
    by_cases h : k = s
    · subst h
      rw [if_pos rfl, tabAt_none (fun p hp => (h1 p hp).symm)]
      have hkl : WideAt.IsKeyLit (Lit.string k) := trivial
      exact ⟨atKey_put_same hD hkl _ _, by rw [has_put_same hD hkl]; rfl⟩
    · have hne : Lit.string s ≠ Lit.string k := fun e => h (by injection e with e; exact e.symm)
      rw [if_neg h, atKey_put_other hne, has_put_other hne]
      exact ⟨rfl, rfl⟩
theorem tab_at (L : Tab1) (hp : L.Pairwise (fun p q => p.1 ≠ q.1)) (s : List UInt8) (z : Value) : (tabD L).atKey (.string s) (.held z) = .held ((tabAt L s).getD z) ∧ Maps.has (tabD L) (.string s) = (tabAt L s).isSome := by
  have h := tabF_at L (.map []) isMap_empty hp s (.held z)
  unfold tabD
  refine ⟨h.1.trans ?_, h.2.trans (by rw [show Maps.has (.map [] : DataW Value) (.string s) = false from rfl, Bool.or_false])⟩
  cases tabAt L s <;> rfl
/-- A table in block b. -/
def TabW (P : Program) (k : TypeId) (L : Tab1) (b : Nat) (w : World) : Prop := w.ownsMap P k tabR b L.length (tabD L)
theorem TabW.ext {P : Program} {k : TypeId} {L : Tab1} {b : Nat} {w w' : World} (h : TabW P k L b w) (hx : Ext w w') : TabW P k L b w' :=
  World.ownsMap.kept (row := none) h ⟨hx.os, hx.tape, hx.output, hx.size, fun i hi _ => hx.block hi⟩ (by simp)
theorem tab_run {P : Program} {k t e : TypeId} {L : Tab1} {b : Nat} {w : World} (h : TabW P k L b w) (hk : P.underlying k = some .string) (ht : P.underlying t = some (.map k e)) (hp : L.Pairwise (fun p q => p.1 ≠ q.1)) {z : Value} (hz : (zeroValue e).run P w = .ok z w) (s : ByteArray) (hs : s.size ≤ maxLen) :
    (Instr.lookup t (.map (some b)) (.string s) true).run P w = .ok (.tuple #[(tabAt L s.data.toList).getD z, .bool (tabAt L s.data.toList).isSome]) w := by
  obtain ⟨v, ps, h1, h2⟩ := World.ownsMap.look_ok h (string_keyed hk) ht hz (zd := .held z) (zp := []) rfl (keyOf_string_mk hk hs)
  obtain ⟨e1, e2⟩ := tab_at L hp s.data.toList z
  rw [e1] at h2
  rw [e2] at h1
  unfold tabR at h2
  simp only [Option.some.injEq, Prod.mk.injEq, DataW.held.injEq] at h2
  rw [h1, h2.1]
theorem tab_made (w : World) (P : Program) (k : TypeId) : TabW P k [] w.heap.size (w.alloc (.map #[] 0)) := World.ownsMap_made w P k tabR
/-- One entry more. -/
theorem tab_put {P : Program} {k t e : TypeId} {L : Tab1} {b : Nat} {w : World} (h : TabW P k L b w) (hk : P.underlying k = some .string) (ht : P.underlying t = some (.map k e)) (hn : L.length < maxLen) (s : ByteArray) (hs : s.size ≤ maxLen) (v : Value) :
    ∃ w', (Instr.mapUpdate t (.map (some b)) (.string s) v).run P w = .ok () w' ∧ TabW P k (L ++ [(s.data.toList, v)]) b w' ∧ w.grownBy w' (some b) := by
  obtain ⟨w', h1, h2, h3⟩ := World.ownsMap.update h (string_keyed hk) ht hn (keyOf_string_mk hk hs) (show tabR v = some (.held v, []) from rfl)
  refine ⟨w', h1, ?_, h3⟩
  unfold TabW
  rw [List.length_append]
  have : tabD (L ++ [(s.data.toList, v)]) = (tabD L).put (.string s.data.toList) (.held v) := by unfold tabD tabF; rw [List.foldl_append]; rfl
  rw [this]; exact h2
/-- A literal's entry. -/
theorem wpL_insert {P : Program} {w : World} {ops : Array Oper} {rest : List Oper} {o : Oper} {a : Act} {Q : Exit → Act → World → Prop} (hg : o.guard = none) (m x v : Operand) (t : TypeId) (hop : o.op = Op.insert t m x v)
    (k e : TypeId) (hk : P.underlying k = some .string) (ht : P.underlying t = some (.map k e)) (L : Tab1) (b : Nat) (hm : a.eval m = .map (some b)) (h : TabW P k L b w) (hn : L.length < maxLen) (s : ByteArray) (hx : a.eval x = .string s) (hs : s.size ≤ maxLen) (val : Value) (hv : a.eval v = val)
    (hK : ∀ w', TabW P k (L ++ [(s.data.toList, val)]) b w' → w.grownBy w' (some b) → wpList P ops Q rest (a.put o.dst undef) w') : wpList P ops Q (o :: rest) a w := by
  refine wpList_plain hg fun K' hK' => ?_
  obtain ⟨w', hrun, r1, r2⟩ := tab_put h hk ht hn s hs val
  unfold Oper.wp
  simp [execOp, hop, hm, hx, hv, hrun, Result.andThen]
  exact hK' _ _ (hK w' r1 r2)
/-- A table under way, and the variables that its entries lead to. -/
structure TabS (P : Program) (k : TypeId) (w0 : World) (b : Nat) (L : Tab1) (B : List (Nat × Obj)) (W : World) : Prop where
  tab : TabW P k L b W
  ext : Ext w0 W
  hb : w0.heap.size ≤ b
  box : ∀ p ∈ B, w0.heap.size ≤ p.1 ∧ p.1 ≠ b ∧ W.heap[p.1]? = some p.2
section
variable {P : Program} {k : TypeId} {w0 : World} {b : Nat} {L : Tab1} {B : List (Nat × Obj)} {W W' : World}
theorem TabS.lt (h : TabS P k w0 b L B W) : b < W.heap.size := World.ownsMap.lt h.tab
theorem TabS.put {L' : Tab1} (h : TabS P k w0 b L B W) (ht : TabW P k L' b W') (hg : W.grownBy W' (some b)) : TabS P k w0 b L' B W' := by
  have hbl : ∀ i, i < W.heap.size → i ≠ b → W'.heap[i]? = W.heap[i]? := fun i hi hne => hg.block i hi (fun e => hne (Option.some.inj e))
  refine ⟨ht, ⟨hg.os.trans h.ext.os, hg.tape.trans h.ext.tape, hg.output.trans h.ext.output, Nat.le_trans h.ext.size hg.size, fun i hi => ?_⟩, h.hb, fun p hp => ?_⟩
  · rw [hbl i (Nat.lt_of_lt_of_le hi h.ext.size) (by have := h.hb; omega)]; exact h.ext.block hi
  · obtain ⟨h0, h1, h2⟩ := h.box p hp
    refine ⟨h0, h1, ?_⟩
    rw [hbl _ ?_ h1]; exact h2
    rcases Nat.lt_or_ge p.1 W.heap.size with hl | hl
    · exact hl
    · rw [Array.getElem?_eq_none hl] at h2; cases h2
theorem TabS.later (h : TabS P k w0 b L B W) (hx : Ext W W') : TabS P k w0 b L B W' := by
  refine ⟨h.tab.ext hx, h.ext.trans hx, h.hb, fun p hp => ?_⟩
  obtain ⟨h0, h1, h2⟩ := h.box p hp
  refine ⟨h0, h1, ?_⟩
  rw [hx.block ?_]; exact h2
  rcases Nat.lt_or_ge p.1 W.heap.size with hl | hl
  · exact hl
  · rw [Array.getElem?_eq_none hl] at h2; cases h2
theorem TabS.new (h : TabS P k w0 b L B W) {o : Obj} (hx : Ext W W') (ho : W'.heap[W.heap.size]? = some o) : TabS P k w0 b L (B ++ [(W.heap.size, o)]) W' := by
  have h' := h.later hx
  refine ⟨h'.tab, h'.ext, h.hb, fun p hp => ?_⟩
  rcases List.mem_append.1 hp with hp | hp
  · exact h'.box p hp
  · obtain rfl := List.mem_singleton.1 hp
    exact ⟨h.ext.size, by have := h.lt; show W.heap.size ≠ b; omega, ho⟩
theorem TabS.start (w : World) (P : Program) (k : TypeId) : TabS P k w w.heap.size [] [] (w.alloc (.map #[] 0)) :=
  ⟨tab_made w P k, (Ext.refl _).alloc _, Nat.le_refl _, fun p hp => by cases hp⟩
end
end Go.Proofs.YteigcfflljoioaaGreatDoor
namespace Go.Proofs.YteigcfflljoioaaGreatDoor
open Go.RowKit NM
theorem reckoner_any (fid : FuncId) (w : World) :
    Calls Tryz.prog 77 #[.func (.func fid) #[] #[]] w fun e w' => e = .returned (.func (.func 132) #[] #[.pointer (some ⟨w.heap.size, 0, none⟩)]) ∧ w' = w.alloc (.cells #[.func (.func fid) #[] #[]] 91) := by
  go_enter Tryz.func77, Tryz.ntmps77
  go_wp2_with fail
  go_ret
  exact ⟨rfl, rfl⟩
theorem holder_any (fid : FuncId) (w : World) :
    Calls Tryz.prog 83 #[.func (.func fid) #[] #[]] w fun e w' => e = .returned (.func (.func 142) #[] #[.pointer (some ⟨w.heap.size, 0, none⟩)]) ∧ w' = w.alloc (.cells #[.func (.func fid) #[] #[]] 105) := by
  go_enter Tryz.func83, Tryz.ntmps83
  go_wp2_with fail
  go_ret
  exact ⟨rfl, rfl⟩
abbrev fn0 (fid : FuncId) : Value := .func (.func fid) #[] #[]
abbrev fn1 (fid : FuncId) (p : Nat) : Value := .func (.func fid) #[] #[.pointer (some ⟨p, 0, none⟩)]
abbrev sgE (v : Value) : Value := .agg #[v]
/-- The table of signs. -/
def signL (p1 p2 p3 p4 p5 p6 p7 p8 p9 : Nat) : Tab1 :=
  [([43], sgE (fn1 132 p1)), ([45], sgE (fn1 132 p2)), ([42], sgE (fn1 132 p3)), ([47], sgE (fn0 80)), ([94], sgE (fn0 81)), ([38], sgE (fn0 82)),
   ([61], sgE (fn1 142 p4)), ([60, 62], sgE (fn1 142 p5)), ([60], sgE (fn1 142 p6)), ([60, 61], sgE (fn1 142 p7)), ([62], sgE (fn1 142 p8)), ([62, 61], sgE (fn1 142 p9))]
abbrev bxN (fid : FuncId) : Obj := .cells #[fn0 fid] 91
abbrev bxI (fid : FuncId) : Obj := .cells #[fn0 fid] 105
def signB (p1 p2 p3 p4 p5 p6 p7 p8 p9 : Nat) : List (Nat × Obj) :=
  [(p1, bxN 78), (p2, bxN 58), (p3, bxN 79), (p4, bxI 84), (p5, bxI 85), (p6, bxI 86), (p7, bxI 87), (p8, bxI 88), (p9, bxI 89)]
theorem alloc_new (w : World) (o : Obj) : (w.alloc o).heap[w.heap.size]? = some o := Array.getElem?_push_size
set_option maxHeartbeats 1000000 in
theorem signsOf_any (w : World) :
    Calls Tryz.prog 46 #[] w fun e w' => ∃ b, e = .returned (.map (some b)) ∧ ∃ p1 p2 p3 p4 p5 p6 p7 p8 p9, TabS Tryz.prog 9 w b (signL p1 p2 p3 p4 p5 p6 p7 p8 p9) (signB p1 p2 p3 p4 p5 p6 p7 p8 p9) w' := by
  have hmm := @run_makeMap Tryz.prog
  have hT := TabS.start w Tryz.prog 9
  go_enter Tryz.func46, Tryz.ntmps46
  go_wp2_with (first | (go_at_call 77; (with_reducible refine (reckoner_any _ _).mono ?_); rintro e w' ⟨rfl, hw⟩; have hT := hT.new (W' := w') (by rw [hw]; exact (Ext.refl _).alloc _) (by rw [hw]; exact alloc_new _ _); clear hw; (try (rw [show (w.alloc (Obj.map #[] 0)).heap.size = w.heap.size + 1 by simp] at hT))) | (go_at_call 83; (with_reducible refine (holder_any _ _).mono ?_); rintro e w' ⟨rfl, hw⟩; have hT := hT.new (W' := w') (by rw [hw]; exact (Ext.refl _).alloc _) (by rw [hw]; exact alloc_new _ _); clear hw) | (refine wpL_insert rfl _ _ _ _ rfl 9 77 Tryz.underlying9 Tryz.underlying79 _ _ rfl hT.tab (by simp only [List.length_append, List.length_nil, List.length_cons, maxLen]; omega) _ rfl (by simp only [maxLen, ByteArray.size, List.size_toArray, List.length_cons, List.length_nil]; omega) _ rfl ?_; intro w1 ht1 hg1; have hT := hT.put ht1 hg1; clear ht1 hg1))
  go_ret
  exact ⟨w.heap.size, rfl, w.heap.size + 1, _, _, _, _, _, _, _, _, hT⟩
end Go.Proofs.YteigcfflljoioaaGreatDoor
namespace Go.Proofs.YteigcfflljoioaaGreatDoor
open Go.RowKit
/-- All that lay in w lies in W. -/
def Low (w W : World) : Prop := ∀ b, b < w.heap.size → W.heap[b]? = w.heap[b]?
theorem Low.refl (w : World) : Low w w := fun _ _ => rfl
theorem Low.lt {w W : World} (h : Low w W) {b : Nat} (hb : b < w.heap.size) : b < W.heap.size := by
  have h1 := h b hb
  rw [Array.getElem?_eq_getElem hb] at h1
  exact lt_of_block h1
theorem Low.ext {w W W' : World} (h : Low w W) (hx : Ext W W') : Low w W' := fun b hb => (hx.block (h.lt hb)).trans (h b hb)
/-- An array's values in blocks from base on. -/
structure ArrN (base : Nat) (w : World) (A : Option Addr) (n cap : Nat) (l : List Val) : Prop where
  rd : SlV base w A l
  len : l.length = n
  cap : n ≤ cap
  small : n ≤ 9223372036854775807
  ok : ∀ x ∈ l, x.ok
theorem ArrN.arr {base : Nat} {w : World} {A : Option Addr} {n cap : Nat} {l : List Val} (h : ArrN base w A n cap l) : ArrIn w A n cap l := ⟨Rd.mono h.rd (Nat.zero_le _), h.len, h.cap, h.small, h.ok⟩
end Go.Proofs.YteigcfflljoioaaGreatDoor
namespace Go.Proofs.YteigcfflljoioaaGreatDoor
open Go.RowKit NM
theorem Low.tab {w W : World} (h : Low w W) (ht : Tab w) : Tab W := by
  unfold Tab Lib.TabIs World.var? at *
  cases hg : Tryz.prog.globalNamed "internal/strconv.uint64pow10" with
  | none => simp [hg] at ht
  | some g =>
    simp only [hg, Option.bind_some] at ht ⊢
    have hlt : g < w.heap.size := by
      rcases Nat.lt_or_ge g w.heap.size with h' | h'
      · exact h'
      · rw [Array.getElem?_eq_none h'] at ht; cases ht
    rw [h g hlt]; exact ht
/-- A function that keeps nothing, as Both asks it. -/
theorem low_spec {fid : FuncId} {capt : Array Value} {t : Val → Val → Val} {w : World}
    (hsp : ∀ x y W, Low w W → x.ok → y.ok → valRight x = true → valRight y = true → Calls Tryz.prog fid (#[VV x.kind x.mant x.exp x.text x.truth x.fault, VV y.kind y.mant y.exp y.text y.truth y.fault] ++ capt) W fun e W' => e = .returned (VV (t x y).kind (t x y).mant (t x y).exp (t x y).text (t x y).truth (t x y).fault) ∧ Ext W W')
    (hok : ∀ x y, valRight x = true → valRight y = true → (t x y).ok) (s0 pa : Nat) (hs : w.heap.size ≤ s0) :
    FSpec2 fid capt t w.heap.size (s0 + 3) pa (fun _ W => Low w W) := by
  refine ⟨fun _ W W' hx h => h.ext hx, fun _ W W' hk h b hb => ?_, fun k x y W0 W h hx hlo hxo hyo hxr hyr hk => ?_, fun x y _ _ h1 h2 => hok x y h1 h2, fun _ W p v h1 _ h b hb => ?_⟩
  · rw [Nat.add_sub_cancel] at hk
    rw [hk.block b (h.lt hb) (by omega) (by omega) (by omega)]; exact h b hb
  · have h1 := h.ext hx
    refine (hsp x y W h1 hxo hyo hxr hyr).mono ?_
    rintro e W' ⟨he, hX⟩
    refine ⟨he, fun W'' hk' b hb => ?_, Still.of_ext hX⟩
    have h2 := h1.ext hX
    rw [hk'.block b (h2.lt hb) (by have := h.lt hb; omega)]; exact h2 b hb
  · rw [Below.heap_setCell _ _ _ _ (by omega)]; exact h b hb
theorem both_low {fid : FuncId} {capt : Array Value} {t : Val → Val → Val} (w : World) (pa : Nat) (hpa : pa < w.heap.size)
    (hsp : ∀ x y W, Low w W → x.ok → y.ok → valRight x = true → valRight y = true → Calls Tryz.prog fid (#[VV x.kind x.mant x.exp x.text x.truth x.fault, VV y.kind y.mant y.exp y.text y.truth y.fault] ++ capt) W fun e W' => e = .returned (VV (t x y).kind (t x y).mant (t x y).exp (t x y).text (t x y).truth (t x y).fault) ∧ Ext W W')
    (hok : ∀ x y, valRight x = true → valRight y = true → (t x y).ok) (hent : ∀ (args : Array Value) (W : World), (callFunc fid args).run Tryz.prog W = .ok (.enter fid args) W) (r c r' c' : Int) (A B : Option Addr) (n cap n' cap' : Nat) (l l' : List Val) (h : ArrIn w A n cap l) (h' : ArrIn w B n' cap' l')
    (hA : 0 < n → ∀ b off, A = some ⟨b, off, none⟩ → b ≠ pa) (hB : 0 < n' → ∀ b off, B = some ⟨b, off, none⟩ → b ≠ pa) (x : NA) (hx : bothRes t r c l r' c' l' = x) :
    Calls Tryz.prog 47 #[AV r c (.slice A n cap), AV r' c' (.slice B n' cap'), .func (.func fid) #[] capt] w fun e w' => ∃ D m cc, e = .returned (AV x.R x.C (.slice D m cc)) ∧ ArrN w.heap.size w' D m cc x.l ∧ Ext w w' := by
  cases hr : (rightA r c l && rightA r' c' l') with
  | false =>
    obtain rfl : x = ⟨1, 1, [bad9]⟩ := by rw [← hx]; simp [bothRes, hr]
    refine (both_no fid _ r c r' c' A B n cap n' cap' l l' w h h' hr).mono ?_
    rintro e w' ⟨⟨D, cc, rfl, hs, hc⟩, hX⟩
    exact ⟨D, 1, cc, rfl, ⟨hs, rfl, hc, by omega, by simpa using bad9_ok⟩, hX⟩
  | true =>
    have hr2 := hr
    simp only [Bool.and_eq_true] at hr2
    obtain ⟨h1, h2⟩ := hr2
    obtain ⟨R, C, rfl, rfl, _⟩ := right_parts h1
    obtain ⟨R', C', rfl, rfl, _⟩ := right_parts h2
    by_cases hf : max R R' * max C C' ≤ 4096
    · obtain rfl : x = ⟨max R R', max C C', bothL t R C l R' C' l'⟩ := by rw [← hx]; simp [bothRes, h1, h2, hf]
      have e1 : 0 < n := by
        obtain ⟨q1, q2, _, q4, _, _⟩ := right_bd h1
        have := Nat.mul_le_mul q1 q2; have := h.len; omega
      have e2 : 0 < n' := by
        obtain ⟨q1, q2, _, q4, _, _⟩ := right_bd h2
        have := Nat.mul_le_mul q1 q2; have := h'.len; omega
      refine (both_yes R C R' C' n cap n' cap' pa A B l l' fid capt t (fun _ _ W => Low w W) w h h' h1 h2 hf hpa (hA e1) (hB e2) hent (fun s0 hs => low_spec hsp hok s0 pa hs) (fun _ _ => Low.refl w)).mono ?_
      rintro e w' ⟨D, cc, s0, rfl, hs, hc, hs0, hJ, hbut⟩
      obtain ⟨_, _, _, q4, _, _⟩ := right_bd h1
      obtain ⟨_, _, _, u4, _, _⟩ := right_bd h2
      exact ⟨D, _, cc, rfl, ⟨hs, bothL_length _ _ _ _ _ _ _, hc, by omega, bothL_ok (fun x y _ _ a b => hok x y a b) q4 u4 h.ok h'.ok (rightA_nat.1 h1).2.2.2.2 (rightA_nat.1 h2).2.2.2.2⟩, ⟨hbut.os, hbut.tape, hbut.output, hbut.size, fun b hb => hJ b hb⟩⟩
    · obtain rfl : x = ⟨1, 1, [badV 5]⟩ := by rw [← hx]; simp [bothRes, h1, h2, hf]
      refine (both_great fid _ R C R' C' A B n cap n' cap' l l' w h h' h1 h2 hf).mono ?_
      rintro e w' ⟨⟨D, cc, rfl, hs, hc⟩, hX⟩
      exact ⟨D, 1, cc, rfl, ⟨hs, rfl, hc, by omega, by simpa using badV_ok 5 ⟨by omega, by omega⟩⟩, hX⟩
/-- What stands at a sign in the table does what the sign says. -/
structure SignAt (w : World) (g : Sg) (fid : FuncId) (capt : Array Value) : Prop where
  call : ∀ x y W, Low w W → x.ok → y.ok → valRight x = true → valRight y = true → Calls Tryz.prog fid (#[VV x.kind x.mant x.exp x.text x.truth x.fault, VV y.kind y.mant y.exp y.text y.truth y.fault] ++ capt) W fun e W' => e = .returned (VV (opV g x y).kind (opV g x y).mant (opV g x y).exp (opV g x y).text (opV g x y).truth (opV g x y).fault) ∧ Ext W W'
  ent : ∀ (args : Array Value) (W : World), (callFunc fid args).run Tryz.prog W = .ok (.enter fid args) W
theorem low_cell {w W : World} (h : Low w W) {p : Nat} {v : Value} {t : TypeId} (hp : w.heap[p]? = some (.cells #[v] t)) : W.cell? ⟨p, 0, none⟩ = some v := by
  have h1 := h p (lt_of_block hp)
  rw [hp] at h1
  exact cell_of_row _ _ 0 _ _ _ h1
theorem below_block {w : World} {A : Option Addr} {n cap : Nat} {l : List Val} (h : ArrIn w A n cap l) {pb : Nat} (hp : w.heap.size ≤ pb) : 0 < n → ∀ b off, A = some ⟨b, off, none⟩ → b ≠ pb := by
  intro hn b off e
  obtain ⟨b', off', e', hv, _⟩ := h.get (k := 0) hn
  rw [e] at e'
  simp only [Option.some.injEq, Addr.mk.injEq, and_true] at e'
  have := hv.lt
  omega
theorem signs_at {p1 p2 p3 p4 p5 p6 p7 p8 p9 : Nat} {W : World} (htab : Tab W) (hb : ∀ p ∈ signB p1 p2 p3 p4 p5 p6 p7 p8 p9, W.heap[p.1]? = some p.2) (g : Sg) :
    ∃ fid capt, tabAt (signL p1 p2 p3 p4 p5 p6 p7 p8 p9) g.key = some (sgE (.func (.func fid) #[] capt)) ∧ SignAt W g fid capt := by
  cases g
  · exact ⟨132, _, rfl, ⟨fun x y V hl _ _ hx hy => reck_add x y p1 V (hl.tab htab) hx hy (low_cell hl (hb (p1, bxN 78) (by simp [signB]))) _ rfl, fun args W => by go_simp⟩⟩
  · exact ⟨132, _, rfl, ⟨fun x y V hl _ _ hx hy => reck_sub x y p2 V (hl.tab htab) hx hy (low_cell hl (hb (p2, bxN 58) (by simp [signB]))) _ rfl, fun args W => by go_simp⟩⟩
  · exact ⟨132, _, rfl, ⟨fun x y V hl _ _ hx hy => reck_mul x y p3 V (hl.tab htab) hx hy (low_cell hl (hb (p3, bxN 79) (by simp [signB]))) _ rfl, fun args W => by go_simp⟩⟩
  · exact ⟨80, _, rfl, ⟨fun x y V hl _ _ hx hy => quotient_any x y V (hl.tab htab) hx hy _ rfl, fun args W => by go_simp⟩⟩
  · exact ⟨81, _, rfl, ⟨fun x y V hl _ _ hx hy => power_op_any x y V (hl.tab htab) hx hy _ rfl, fun args W => by go_simp⟩⟩
  · exact ⟨82, _, rfl, ⟨fun x y V hl _ _ hx hy => joined_any x y V (hl.tab htab) hx hy _ rfl, fun args W => by go_simp⟩⟩
  · exact ⟨142, _, rfl, ⟨fun x y V hl hx hy _ _ => hold_eq x y p4 V hx hy (low_cell hl (hb (p4, bxI 84) (by simp [signB]))) _ rfl, fun args W => by go_simp⟩⟩
  · exact ⟨142, _, rfl, ⟨fun x y V hl hx hy _ _ => hold_ne x y p5 V hx hy (low_cell hl (hb (p5, bxI 85) (by simp [signB]))) _ rfl, fun args W => by go_simp⟩⟩
  · exact ⟨142, _, rfl, ⟨fun x y V hl hx hy _ _ => hold_lt x y p6 V hx hy (low_cell hl (hb (p6, bxI 86) (by simp [signB]))) _ rfl, fun args W => by go_simp⟩⟩
  · exact ⟨142, _, rfl, ⟨fun x y V hl hx hy _ _ => hold_le x y p7 V hx hy (low_cell hl (hb (p7, bxI 87) (by simp [signB]))) _ rfl, fun args W => by go_simp⟩⟩
  · exact ⟨142, _, rfl, ⟨fun x y V hl hx hy _ _ => hold_gt x y p8 V hx hy (low_cell hl (hb (p8, bxI 88) (by simp [signB]))) _ rfl, fun args W => by go_simp⟩⟩
  · exact ⟨142, _, rfl, ⟨fun x y V hl hx hy _ _ => hold_ge x y p9 V hx hy (low_cell hl (hb (p9, bxI 89) (by simp [signB]))) _ rfl, fun args W => by go_simp⟩⟩
theorem signL_pair (p1 p2 p3 p4 p5 p6 p7 p8 p9 : Nat) : (signL p1 p2 p3 p4 p5 p6 p7 p8 p9).Pairwise (fun p q => p.1 ≠ q.1) := by
  simp [signL]
/-- A look into the table. -/
theorem wpL_look {P : Program} {w : World} {ops : Array Oper} {rest : List Oper} {o : Oper} {a : Act} {Q : Exit → Act → World → Prop} (hg : o.guard = none) (m x : Operand) (t : TypeId) (hop : o.op = Op.lookup t m x true)
    (k e : TypeId) (hk : P.underlying k = some .string) (ht : P.underlying t = some (.map k e)) (L : Tab1) (b : Nat) (hm : a.eval m = .map (some b)) (h : TabW P k L b w) (hp : L.Pairwise (fun p q => p.1 ≠ q.1)) (z : Value) (hz : (zeroValue e).run P w = .ok z w) (s : ByteArray) (hx : a.eval x = .string s) (hs : s.size ≤ maxLen)
    (v : Value) (ok : Bool) (hv : (tabAt L s.data.toList).getD z = v) (hok : (tabAt L s.data.toList).isSome = ok) (hK : wpList P ops Q rest (a.put o.dst (.tuple #[v, .bool ok])) w) : wpList P ops Q (o :: rest) a w := by
  refine wpList_plain hg fun K' hK' => ?_
  have hrun := tab_run h hk ht hp hz s hs
  rw [hv, hok] at hrun
  unfold Oper.wp
  simp [execOp, hop, hm, hx, hrun, Result.andThen]
  exact hK' _ _ hK
theorem zero_sign (w : World) : (zeroValue 77).run Tryz.prog w = .ok (sgE .nilFunc) w := by kernel_rfl
theorem Low.pre {w W V : World} (hx : Ext w W) (h : Low W V) : Low w V := fun b hb => (h b (Nat.lt_of_lt_of_le hb hx.size)).trans (hx.block hb)
theorem SignAt.ext {w W : World} {g : Sg} {fid : FuncId} {capt : Array Value} (h : SignAt w g fid capt) (hx : Ext w W) : SignAt W g fid capt := ⟨fun x y V hl => h.call x y V (Low.pre hx hl), h.ent⟩
theorem op_ok (g : Sg) (x y : Val) (h1 : valRight x = true) (h2 : valRight y = true) : (opV g x y).ok := (right_op g h1 h2).ok
theorem sgn_key {s : ByteArray} {g : Sg} (h : sgOf s.data.toList = some g) {L : Tab1} {v : Value} (ht : tabAt L g.key = some v) : tabAt L s.data.toList = some v := by
  rw [sgOf_some h]; exact ht
set_option maxHeartbeats 1000000 in
theorem binary_yes (g : Sg) (s : ByteArray) (r c r' c' : Int) (A B : Option Addr) (n cap n' cap' : Nat) (l l' : List Val) (w : World) (htab : Tab w) (hs : s.size ≤ maxLen) (hg : sgOf s.data.toList = some g) (h : ArrIn w A n cap l) (h' : ArrIn w B n' cap' l') (x : NA) (hx : bothRes (opV g) r c l r' c' l' = x) :
    Calls Tryz.prog 23 #[.string s, AV r c (.slice A n cap), AV r' c' (.slice B n' cap')] w fun e w' => ∃ D m cc, e = .returned (.tuple #[AV x.R x.C (.slice D m cc), .bool true]) ∧ ArrN w.heap.size w' D m cc x.l ∧ Ext w w' := by
  have HG := Lib.hid hg
  have HT := Lib.hid htab
  have HX := Lib.hid hx
  clear hg htab hx
  go_enter Tryz.func23, Tryz.ntmps23
  go_wp2_with (first | (go_at_call 46; (with_reducible refine (signsOf_any _).mono ?_); rintro e w' ⟨bm, rfl, p1, p2, p3, p4, p5, p6, p7, p8, p9, hT⟩; have hbm := hT.hb; have hxT := hT.ext; obtain ⟨fid, capt, hta, hsg⟩ := signs_at ((HT.out.ext (by with_reducible repeat (first | exact Ext.refl _ | apply Ext.drew | apply Ext.alloc | apply Ext.more_))).ext hT.ext) (fun p hp => (hT.box p hp).2.2) g; obtain ⟨os1, d1, rfl⟩ := hxT.more) | (refine wpL_look rfl _ _ _ rfl 9 77 Tryz.underlying9 Tryz.underlying79 _ _ rfl (hT.tab.ext (by with_reducible repeat (first | exact Ext.refl _ | apply Ext.drew | apply Ext.alloc | apply Ext.more_))) (signL_pair _ _ _ _ _ _ _ _ _) _ (zero_sign _) _ rfl hs (sgE (.func (.func fid) #[] capt)) true (by rw [sgn_key HG.out hta]; rfl) (by rw [sgn_key HG.out hta]; rfl) ?_) | (go_at_call 47; (with_reducible refine (both_low _ bm (by have := hT.lt; simp at this ⊢; omega) (hsg.ext (by with_reducible repeat (first | exact Ext.refl _ | apply Ext.drew | apply Ext.alloc | apply Ext.more_))).call (op_ok g) hsg.ent r c r' c' A B n cap n' cap' l l' (h.ext (by with_reducible repeat (first | exact Ext.refl _ | apply Ext.drew | apply Ext.alloc | apply Ext.more_))) (h'.ext (by with_reducible repeat (first | exact Ext.refl _ | apply Ext.drew | apply Ext.alloc | apply Ext.more_))) (below_block h (by simp at hbm; omega)) (below_block h' (by simp at hbm; omega)) x HX.out).mono ?_); rintro e w' ⟨D, m, cc, rfl, hD, hb⟩; obtain ⟨os2, d2, rfl⟩ := hb.more; clear hb; have hDr := hD.rd))
  exact bodyPost_ret (v := .tuple #[AV x.R x.C (.slice D m cc), .bool true]) (by simp [results, Tryz.results23, go_sem]) rfl ⟨D, m, cc, rfl, ⟨(by (try simp only [more_more] at hDr); (try simp only [drew_more] at hDr); (try simp only [more_drew] at hDr); (try simp only [Array.append_assoc] at hDr); exact Rd.swap hDr (by first | (simp; done) | (simp; omega) | omega) (by first | (simp; done) | (simp; omega) | omega) (by first | (simp; done) | (simp; omega) | omega)), hD.len, hD.cap, hD.small, hD.ok⟩, by with_reducible repeat (first | exact Ext.refl _ | apply Ext.drew | apply Ext.alloc | apply Ext.more_)⟩
end Go.Proofs.YteigcfflljoioaaGreatDoor
namespace Go.Proofs.YteigcfflljoioaaGreatDoor
open Go.RowKit NM
theorem sg_not {s : ByteArray} (h : sgOf s.data.toList = none) (g : Sg) : (s.toList == g.key) = false := by
  rw [ByteArray.toList_eq]
  have := List.find?_eq_none.1 h g (by cases g <;> simp [Sg.all])
  by_cases e : s.data.toList = g.key
  · exact absurd (by simpa using e.symm) this
  · simpa using e
theorem sg_lit {s : ByteArray} {g : Sg} (h : sgOf s.data.toList = some g) : s = ⟨g.key.toArray⟩ := by
  have := sgOf_some h
  apply ByteArray.ext
  show s.data = g.key.toArray
  rw [← this]
set_option maxHeartbeats 1000000 in
theorem rlevel_yes (g : Sg) (w : World) :
    Calls Tryz.prog 25 #[.string ⟨g.key.toArray⟩] w fun e w' => e = .returned (.int .i64 g.level) ∧ Ext w w' := by
  cases g
  all_goals
    simp only [Sg.key, Sg.level]
    go_enter Tryz.func25, Tryz.ntmps25
    go_wp2_with fail
    go_ret
    exact ⟨rfl, by with_reducible repeat (first | exact Ext.refl _ | apply Ext.drew | apply Ext.alloc | apply Ext.more_)⟩
theorem rlevel_no (s : ByteArray) (hg : sgOf s.data.toList = none) (w : World) :
    Calls Tryz.prog 25 #[.string s] w fun e w' => e = .returned (.int .i64 0) ∧ Ext w w' := by
  have q1 := sg_not hg .add; have q2 := sg_not hg .sub; have q3 := sg_not hg .mul; have q4 := sg_not hg .div; have q5 := sg_not hg .pow; have q6 := sg_not hg .join; have q7 := sg_not hg .eq; have q8 := sg_not hg .ne; have q9 := sg_not hg .lt; have q10 := sg_not hg .le; have q11 := sg_not hg .gt; have q12 := sg_not hg .ge; simp only [Sg.key] at q1 q2 q3 q4 q5 q6 q7 q8 q9 q10 q11 q12; clear hg
  go_enter Tryz.func25, Tryz.ntmps25
  go_wp2_with fail
  go_ret
  exact ⟨rfl, by with_reducible repeat (first | exact Ext.refl _ | apply Ext.drew | apply Ext.alloc | apply Ext.more_)⟩
end Go.Proofs.YteigcfflljoioaaGreatDoor
namespace Go.Proofs.YteigcfflljoioaaGreatDoor
open Go.RowKit NM
theorem oneV_right {x : Val} (h : valRight x = true) : oneV x = x := by unfold oneV; rw [if_pos h]
end Go.Proofs.YteigcfflljoioaaGreatDoor
namespace Go.Proofs.YteigcfflljoioaaGreatDoor
open Go.RowKit
theorem row_ext {W W' : World} {p : Nat} {o : Obj} (h : W.heap[p]? = some o) (hx : Ext W W') : W'.heap[p]? = some o := (hx.block (lt_of_block h)).trans h
end Go.Proofs.YteigcfflljoioaaGreatDoor
namespace Go.Proofs.YteigcfflljoioaaGreatDoor
open Go.RowKit NM
theorem level_ne (g : Sg) : (g.level == 0) = false := by cases g <;> rfl
end Go.Proofs.YteigcfflljoioaaGreatDoor
namespace Go.Proofs.YteigcfflljoioaaGreatDoor
open Go.RowKit NM
theorem rndx_right {m e : Int} (h : Rt m e) : rndI m e = some (m, e) := rnd_of_right false h
theorem rt_lit {m e : Int} (h0 : m ≠ 0) (h1 : m.natAbs < 1000000000000000) (h2 : m.natAbs % 10 ≠ 0) (h3 : -40 ≤ e) (h4 : e ≤ 25) : Rt m e := by
  have hn : nd m.natAbs ≤ 15 := (nd_le_iff _ _).2 (Nat.lt_of_lt_of_le h1 (by decide))
  exact Or.inr ⟨h0, Nat.lt_of_lt_of_le h1 (by decide), h2, h3, by omega⟩
theorem addx_comm (ma ea mb eb : Int) : addS mb eb ma ea = addS ma ea mb eb := by
  unfold addS
  have : sumI mb eb ma ea = sumI ma ea mb eb := by
    unfold sumI
    rw [Int.min_comm eb ea]; omega
  rw [this, Int.min_comm eb ea]
  exact ite_iff _ _ And.comm
theorem mulx_comm (ma ea mb eb : Int) : mulS mb eb ma ea = mulS ma ea mb eb := by
  unfold mulS
  rw [Int.mul_comm mb ma, Int.add_comm eb ea]
  exact ite_iff _ _ And.comm
end Go.Proofs.YteigcfflljoioaaGreatDoor
namespace Go.Proofs.YteigcfflljoioaaGreatDoor
open Go.RowKit NM
set_option maxHeartbeats 400000 in
theorem one10_any (x : Val) (w : World) (hx : x.ok) :
    Calls Tryz.prog 24 #[VV x.kind x.mant x.exp x.text x.truth x.fault] w fun e w' => ∃ D cc, e = .returned (AV 1 1 (.slice D 1 cc)) ∧ ArrN w.heap.size w' D 1 cc [x] ∧ Ext w w' := by
  obtain ⟨xk, xm, xe, xt, xb, xf⟩ := x
  go_enter Tryz.func24, Tryz.ntmps24
  go_wp2
  refine bodyPost_ret (v := AV 1 1 (.slice (some ⟨w.heap.size + 1 + 1, 0, none⟩) 1 1)) (by simp [results, Tryz.results24, go_sem]) rfl ⟨_, 1, rfl, ⟨?_, rfl, Nat.le_refl _, by omega, by simpa using hx⟩, by repeat (first | (with_reducible (first | exact Ext.refl _ | exact ext_d _ _ _ _ | exact ext_app _ _ _ _ _ | exact ext_app2 _ _ _ _ _ _ | exact ext_app3 _ _ _ _ _ _ _)) | ((with_reducible refine ext_suffix ⟨_, ?_⟩); (try simp only [Array.append_assoc]); rfl) | (with_reducible (first | apply Ext.drew | apply Ext.alloc | apply Ext.more_)))⟩
  exact SlV.one (by simp) (by omega)
theorem rightA_one {x : Val} (h : x.right) : rightA 1 1 [x] = true := by
  have h' : valRight x = true := h
  simp [rightA, fitsB, h']
theorem both_one (g : Sg) {x y : Val} (hx : x.right) (hy : y.right) : bothRes (opV g) 1 1 [x] 1 1 [y] = ⟨1, 1, [opV g x y]⟩ := by
  unfold bothRes
  rw [rightA_one hx, rightA_one hy]
  have : bothL (opV g) 1 1 [x] 1 1 [y] = [oneV (opV g x y)] := rfl
  rw [oneV_right (right_op g hx hy)] at this
  simp only [Bool.and_self, if_true]
  rw [if_pos (by decide)]
  exact congrArg (NA.mk 1 1) this
theorem par_two : parS ⟨#[50]⟩ = some (2, 0) := by
  unfold parS
  rw [if_neg (by decide)]
  exact rndx_right (m := 2) (e := 0) (rt_lit (by decide) (by decide) (by decide) (by decide) (by decide))
def twoV : Val := ⟨2, 0, 0, ⟨#[50]⟩, false, 0⟩
theorem right_two : twoV.right := by
  have := right_text ⟨#[50]⟩
  exact this
theorem add_awake : opV .add twoV (truthV true) = numV 3 := by
  show reckV addS _ _ = _
  unfold reckV
  have h1 : tnF twoV = 0 := by unfold tnF twoV; simp [par_two]
  have h2 : tnP twoV = (2, 0) := by unfold tnP twoV; simp [par_two]
  have h3 : tnF (truthV true) = 0 := rfl
  have h4 : tnP (truthV true) = (1, 0) := rfl
  rw [h1, h2, h3, h4, if_neg (by decide), if_neg (by decide)]
  have : addS 2 0 1 0 = some (3, 0) := by
    unfold addS
    rw [if_pos ⟨rt_lit (by decide) (by decide) (by decide) (by decide) (by decide), rt_lit (by decide) (by decide) (by decide) (by decide) (by decide)⟩]
    exact rndx_right (m := 3) (e := 0) (rt_lit (by decide) (by decide) (by decide) (by decide) (by decide))
  show numRes (addS 2 0 1 0) = _
  rw [this]; rfl
set_option maxHeartbeats 1000000 in
theorem awake10_any (w : World) (htab : Tab w) :
    Calls Tryz.prog 21 #[] w fun e w' => e = .returned (.bool true) ∧ Ext w w' := by
  have hA := both_one .add right_two (right_truth true)
  rw [add_awake] at hA
  have HA := Lib.hid hA
  have HT := Lib.hid htab
  clear hA htab
  have h1 := fun W => one10_any twoV W right_two.ok
  have h2 := fun W => one10_any (truthV true) W (right_truth true).ok
  have h3 := fun W => one10_any (numV 3) W (Val.right.ok (right_num (rt_lit (by decide) (by decide) (by decide) (by decide) (by decide))))
  have hs1 : sameA 1 1 [numV 3] 1 1 [numV 3] = true := by simp [sameA]
  simp only [twoV, truthV, numV] at h1 h2 h3
  go_enter Tryz.func21, Tryz.ntmps21
  go_wp2_with fail
  refine (h1 _).mono ?_; rintro e w' ⟨D1, c1, rfl, hN1, hb⟩; obtain ⟨os1, d1, rfl⟩ := hb.more; clear hb; have hD1 := hN1.arr; clear hN1; (try simp only [more_more, drew_more, more_drew, Array.append_assoc] at hD1)
  go_wp2_with fail
  refine (h2 _).mono ?_; rintro e w' ⟨D2, c2, rfl, hN2, hb⟩; obtain ⟨os2, d2, rfl⟩ := hb.more; clear hb; have hD2 := hN2.arr; clear hN2; (try simp only [more_more, drew_more, more_drew, Array.append_assoc] at hD2)
  go_wp2_with fail
  refine (binary_yes .add ⟨#[43]⟩ 1 1 1 1 _ _ _ _ _ _ [twoV] [truthV true] _ (HT.out.ext (by repeat (first | (with_reducible (first | exact Ext.refl _ | exact ext_d _ _ _ _ | exact ext_app _ _ _ _ _ | exact ext_app2 _ _ _ _ _ _ | exact ext_app3 _ _ _ _ _ _ _)) | ((with_reducible refine ext_suffix ⟨_, ?_⟩); (try simp only [Array.append_assoc]); rfl) | (with_reducible (first | apply Ext.drew | apply Ext.alloc | apply Ext.more_))))) (by decide) rfl (hD1.ext (by repeat (first | (with_reducible (first | exact Ext.refl _ | exact ext_d _ _ _ _ | exact ext_app _ _ _ _ _ | exact ext_app2 _ _ _ _ _ _ | exact ext_app3 _ _ _ _ _ _ _)) | ((with_reducible refine ext_suffix ⟨_, ?_⟩); (try simp only [Array.append_assoc]); rfl) | (with_reducible (first | apply Ext.drew | apply Ext.alloc | apply Ext.more_))))) (hD2.ext (by repeat (first | (with_reducible (first | exact Ext.refl _ | exact ext_d _ _ _ _ | exact ext_app _ _ _ _ _ | exact ext_app2 _ _ _ _ _ _ | exact ext_app3 _ _ _ _ _ _ _)) | ((with_reducible refine ext_suffix ⟨_, ?_⟩); (try simp only [Array.append_assoc]); rfl) | (with_reducible (first | apply Ext.drew | apply Ext.alloc | apply Ext.more_))))) ⟨1, 1, [numV 3]⟩ HA.out).mono ?_; rintro e w' ⟨D3, m3, c3, rfl, hN3, hb⟩; obtain ⟨os3, d3, rfl⟩ := hb.more; clear hb; have hD3 := hN3.arr; clear hN3; (try simp only [more_more, drew_more, more_drew, Array.append_assoc] at hD3)
  go_upto_region 2 with fail
  refine wp_plan (S := Ext _) [(0, 0), (1, 0), (2, 0), (3, 0), (4, 0), (5, 1), (6, 1), (7, 0), (8, 0)] [] (by kernel_rfl) (by kernel_rfl) (by kernel_rfl) (fun _ _ d _ _ h => by cases d <;> exact h) (Ext.drew (Ext.refl _)) ?_
  iterate 2 ((refine wpPl_read (v := ?_) rfl ?_ (fun _ h => ?_) ?_; rotate_left 1; rfl; (obtain ⟨_, _, rfl⟩ := h.more; go_simp; try rfl)); try simp only [Act.put, zqA, zqB, zqC])
  iterate 3 ((first | (refine wpPl_skip rfl rfl ?_) | (refine wpPl_read (v := ?_) rfl ?_ (fun w1 h1 => ?_) ?_; rotate_left 1; rfl; (obtain ⟨os1, d1, rfl⟩ := h1.more; go_simp; first | done | rfl)) | (refine wpPl_gread (v := ?_) (c := ?_) rfl rfl rfl rfl ?_ (fun hc w1 h1 => ?_) ?_; rotate_left 2; (first | exact gc_t _ | exact gc_f _ | exact gc_gt _ _ | exact gc_gf _ _); (obtain ⟨os1, d1, rfl⟩ := h1.more; (try simp only [gv_of hc]); (try (have hc1 := and_l hc; (try simp only [gv_of hc1]); (try (have hc2 := and_l hc1; (try simp only [gv_of hc2]))))); go_simp; first | done | rfl))); try simp only [Act.put, zqA, zqB, zqC])
  (refine wpPl_eff rfl ?_ (fun K hK => ?_); (first | with_reducible rfl | rfl | (go_simp; done)); go_simp; refine (h3 _).mono ?_; rintro e w' ⟨D4, c4, rfl, hN4, hb⟩; obtain ⟨os4, d4, rfl⟩ := hb.more; clear hb; have hD4 := hN4.arr; clear hN4; (try simp only [more_more, drew_more, more_drew, Array.append_assoc] at hD4); refine hK _ _ ?_ ?_; (repeat (first | (with_reducible (first | exact Ext.refl _ | exact ext_d _ _ _ _ | exact ext_app _ _ _ _ _ | exact ext_app2 _ _ _ _ _ _ | exact ext_app3 _ _ _ _ _ _ _ | exact ext_app4 _ _ _ _ _ _ _ _ | exact ext_app5 _ _ _ _ _ _ _ _ _)) | ((with_reducible refine ext_suffix ⟨_, ?_⟩); (try simp only [Array.append_assoc]); rfl) | (with_reducible (first | apply Ext.drew | apply Ext.alloc | apply Ext.more_)) | apply Ext.drew | apply Ext.alloc | apply Ext.more_)))
  try simp only [Act.put, zqA, zqB, zqC]
  (refine wpPl_eff rfl ?_ (fun K hK => ?_); (first | with_reducible rfl | rfl | (go_simp; done)); go_simp; refine (refSame_any _ _ _ _ _ _ _ _ _ _ [numV 3] [numV 3] _ (hD3.ext (by repeat (first | (with_reducible (first | exact Ext.refl _ | exact ext_d _ _ _ _ | exact ext_app _ _ _ _ _ | exact ext_app2 _ _ _ _ _ _ | exact ext_app3 _ _ _ _ _ _ _)) | ((with_reducible refine ext_suffix ⟨_, ?_⟩); (try simp only [Array.append_assoc]); rfl) | (with_reducible (first | apply Ext.drew | apply Ext.alloc | apply Ext.more_))))) (hD4.ext (by repeat (first | (with_reducible (first | exact Ext.refl _ | exact ext_d _ _ _ _ | exact ext_app _ _ _ _ _ | exact ext_app2 _ _ _ _ _ _ | exact ext_app3 _ _ _ _ _ _ _)) | ((with_reducible refine ext_suffix ⟨_, ?_⟩); (try simp only [Array.append_assoc]); rfl) | (with_reducible (first | apply Ext.drew | apply Ext.alloc | apply Ext.more_)))))).mono ?_; rintro e w' ⟨rfl, hb⟩; obtain ⟨os5, d5, rfl⟩ := hb.more; clear hb; refine hK _ _ ?_ ?_; (repeat (first | (with_reducible (first | exact Ext.refl _ | exact ext_d _ _ _ _ | exact ext_app _ _ _ _ _ | exact ext_app2 _ _ _ _ _ _ | exact ext_app3 _ _ _ _ _ _ _ | exact ext_app4 _ _ _ _ _ _ _ _ | exact ext_app5 _ _ _ _ _ _ _ _ _)) | ((with_reducible refine ext_suffix ⟨_, ?_⟩); (try simp only [Array.append_assoc]); rfl) | (with_reducible (first | apply Ext.drew | apply Ext.alloc | apply Ext.more_)) | apply Ext.drew | apply Ext.alloc | apply Ext.more_)))
  try simp only [Act.put, zqA, zqB, zqC]
  first | (refine wpPl_pick_and rfl rfl rfl rfl rfl rfl ?_) | (refine wpPl_pick_or rfl rfl rfl rfl rfl rfl ?_) | (refine wpPl_read (v := ?_) rfl ?_ (fun w1 h1 => ?_) ?_; rotate_left 1; rfl; (obtain ⟨os1, d1, rfl⟩ := h1.more; go_simp; first | done | rfl))
  try simp only [Act.put, zqA, zqB, zqC]
  (refine wpPl_read (v := ?_) rfl ?_ (fun _ h => ?_) ?_; rotate_left 1; rfl; (obtain ⟨_, _, rfl⟩ := h.more; go_simp; try rfl))
  try simp only [Act.put, zqA, zqB]
  refine wpPl_nil ?_
  go_wp2_with fail
  go_ret
  exact ⟨rfl, by repeat (first | (with_reducible (first | exact Ext.refl _ | exact ext_d _ _ _ _ | exact ext_app _ _ _ _ _ | exact ext_app2 _ _ _ _ _ _ | exact ext_app3 _ _ _ _ _ _ _)) | ((with_reducible refine ext_suffix ⟨_, ?_⟩); (try simp only [Array.append_assoc]); rfl) | (with_reducible (first | apply Ext.drew | apply Ext.alloc | apply Ext.more_)))⟩
end Go.Proofs.YteigcfflljoioaaGreatDoor
