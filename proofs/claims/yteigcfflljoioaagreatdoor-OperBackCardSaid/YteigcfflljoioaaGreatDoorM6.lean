/- What the rows' proofs lean on: the contracts of the functions that they reach, and plain facts (part M6). -/
import Derived.WalkKit
import Derived.WalkLawsBesides
import Derived.WalkSpells
import Derived.Outline
import Derived.Below
import Derived.Deep.RegionHeld3
import Derived.Deep.DeepCutAuto
import Derived.Deep.AppendLies
import Derived.Maps.AppendAt
import Derived.Lib.Hide
import Derived.OrdersHeld
import Derived.Test.YteigcfflljoioaaGreatDoorProg
import Derived.Shelf.Strings.Builder1
import Derived.Shelf.Strings.Builder2
import Derived.Shelf.Small.Bits
import Derived.Shelf.Small.Strs
import Derived.Shelf.Strings.BuilderF
import Derived.Shelf.Strconv.Itoa0
import Derived.Shelf.Strconv.Itoa1
import Derived.Shelf.LaysM
import Derived.Shelf.Strconv.Itoa2
import Derived.Shelf.Strings.Prefix
import Derived.Shelf.Bits.Mul64
import Derived.Shelf.Strings.Repeat
import Derived.Lib.ItoaMem
import Derived.Lib.OthersKept
import Derived.Deep.CutBlock
import Derived.Laws.Bits64b
import Derived.Lib.AppendZeros
import Derived.Lib.Bytealg
import Derived.Laws.RangeAny
import Derived.Lib.ConvBytes
import Derived.Lib.SlBytesRow
import Derived.Lib.SmallJoins
import Derived.RegionTactic
import Derived.Maps.OwnSet
import Derived.Maps.Own
import Derived.Laws.EntriesVeiled
import Derived.Test.YteigcfflljoioaaGreatDoorRows
import Derived.Test.YteigcfflljoioaaGreatDoorCards
import Derived.Test.YteigcfflljoioaaGreatDoorTie
import Derived.ProofKit
import Derived.LaidMore
import Derived.OpenShut
import Derived.ShutString
import Derived.ChangeOld
import Derived.Stop.Joined
import Derived.Deep.Slices
import Derived.SevenTiedAt
import Derived.Test.YteigcfflljoioaaGreatDoorM5
set_option linter.unusedSimpArgs false
set_option linter.unusedVariables false
set_option maxRecDepth 100000
namespace Go.Proofs.YteigcfflljoioaaGreatDoor
open Go.RowKit NM
theorem made_no (m e : Int) (w : World) :
    Calls Tryz.prog 102 #[NV m e, .bool false] w fun r w' => r = .returned (VV 4 0 0 ⟨#[]⟩ false 5) ∧ Ext w w' := by
  have hbad := fun W => rbad2_any 5 W
  rw [show badF 5 = 5 by decide] at hbad
  go_enter Tryz.func102, Tryz.ntmps102
  go_wp2_with (go_at_call 27; (with_reducible refine (hbad _).mono ?_); rintro e w' ⟨rfl, hb⟩; obtain ⟨os, d, rfl⟩ := hb.more; clear hb)
  exact bodyPost_ret (v := VV 4 0 0 ⟨#[]⟩ false 5) (by simp [results, Tryz.results102, go_sem]) rfl ⟨rfl, by with_reducible repeat (first | exact Ext.refl _ | apply Ext.drew | apply Ext.alloc | apply Ext.more_)⟩
theorem made_yes (m e : Int) (w : World) :
    Calls Tryz.prog 102 #[NV m e, .bool true] w fun r w' => r = .returned (VV 1 m e ⟨#[]⟩ false 0) ∧ Ext w w' := by
  have hof := fun W => rnumber_any m e W
  go_enter Tryz.func102, Tryz.ntmps102
  go_wp2_with (go_at_call 36; (with_reducible refine (hof _).mono ?_); rintro e w' ⟨rfl, hb⟩; obtain ⟨os, d, rfl⟩ := hb.more; clear hb)
  exact bodyPost_ret (v := VV 1 m e ⟨#[]⟩ false 0) (by simp [results, Tryz.results102, go_sem]) rfl ⟨rfl, by with_reducible repeat (first | exact Ext.refl _ | apply Ext.drew | apply Ext.alloc | apply Ext.more_)⟩
theorem rmade_any (r : Option (Int × Int)) (w : World) :
    Calls Tryz.prog 102 #[NV (rm r) (re r), .bool r.isSome] w fun e w' => e = .returned (VV (numRes r).kind (numRes r).mant (numRes r).exp (numRes r).text (numRes r).truth (numRes r).fault) ∧ Ext w w' := by
  cases r with
  | none => exact made_no _ _ w
  | some p => exact made_yes _ _ w
theorem negV_yes {x : Val} (h : tnF x = 0) : negV x = numRes (subS 0 0 (tnP x).1 (tnP x).2) := by
  unfold negV reckV
  rw [if_neg (show ¬ tnF (numV 0) ≠ 0 from fun h => h rfl), if_neg (fun h' => h' h)]; rfl
theorem negV_no {x : Val} (h : ¬ tnF x = 0) : negV x = bad_ (tnF x) := by
  unfold negV reckV
  rw [if_neg (show ¬ tnF (numV 0) ≠ 0 from fun h => h rfl), if_pos h]
theorem centV_yes {x : Val} (h : tnF x = 0) : centV x = numRes (divS (tnP x).1 (tnP x).2 1 2) := by
  unfold centV reckV
  rw [if_neg (fun h' => h' h), if_neg (show ¬ tnF hundV ≠ 0 from fun h => h rfl)]; rfl
theorem centV_no {x : Val} (h : ¬ tnF x = 0) : centV x = bad_ (tnF x) := by
  unfold centV reckV
  rw [if_pos h]
theorem floor_whole {m e : Int} (h : Rt m e) : floorS m e = (m, e) ↔ 0 ≤ e := by
  unfold floorS
  rw [if_neg (fun h' => h' h)]
  by_cases he : 0 ≤ e
  · rw [if_pos he]; exact ⟨fun _ => he, fun _ => rfl⟩
  · rw [if_neg he]
    refine ⟨fun h' => ?_, fun h' => absurd h' he⟩
    exfalso
    have h2 : (trim (floorN m (-e).toNat) 0).2 = e := congrArg Prod.snd h'
    by_cases hz : floorN m (-e).toNat = 0
    · rw [hz, trim_zero] at h2; simp only at h2; omega
    · obtain ⟨k, _, hk, _⟩ := trim_spec (floorN m (-e).toNat) 0 hz
      omega
theorem of1_plus (x : Val) (w : World) :
    Calls Tryz.prog 61 #[.string ⟨#[43]⟩, VV x.kind x.mant x.exp x.text x.truth x.fault] w fun e w' => e = .returned (VV x.kind x.mant x.exp x.text x.truth x.fault) ∧ Ext w w' := by
  generalize x.kind = xk at *; generalize x.mant = xm at *; generalize x.exp = xe at *; generalize x.text = xt at *; generalize x.truth = xb at *; generalize x.fault = xf at *
  go_enter Tryz.func61, Tryz.ntmps61
  go_wp2_with fail
  exact bodyPost_ret (v := VV xk xm xe xt xb xf) (by simp [results, Tryz.results61, go_sem]) rfl ⟨rfl, by with_reducible repeat (first | exact Ext.refl _ | apply Ext.drew | apply Ext.alloc | apply Ext.more_)⟩
set_option maxHeartbeats 1000000 in
theorem of1_minus (x : Val) (w : World) (hx : x.right) (z : Val) (hz : negV x = z) :
    Calls Tryz.prog 61 #[.string ⟨#[45]⟩, VV x.kind x.mant x.exp x.text x.truth x.fault] w fun e w' => e = .returned (VV z.kind z.mant z.exp z.text z.truth z.fault) ∧ Ext w w' := by
  have htn := fun W => rtoNum_any x W hx
  simp only [tnV] at htn
  by_cases h1 : tnF x = 0
  · have hz' : z = numRes (subS 0 0 (tnP x).1 (tnP x).2) := by rw [← hz]; exact negV_yes h1
    subst hz'
    rw [h1] at htn
    have hfn := fun W => rsub_any 0 0 (tnP x).1 (tnP x).2 W i64_zero (Rt_i64 (tn_rt hx)).1
    have htd := fun W => rmade_any (subS 0 0 (tnP x).1 (tnP x).2) W
    clear hz hx
    generalize subS 0 0 (tnP x).1 (tnP x).2 = R at *
    generalize (tnP x).1 = a at *
    generalize (tnP x).2 = b at *
    generalize numRes R = z at *
    simp only [rnV] at hfn
    clear h1
    generalize x.kind = xk at *; generalize x.mant = xm at *; generalize x.exp = xe at *; generalize x.text = xt at *; generalize x.truth = xb at *; generalize x.fault = xf at *
    generalize z.kind = zk at *; generalize z.mant = zm at *; generalize z.exp = ze at *; generalize z.text = zt at *; generalize z.truth = zb at *; generalize z.fault = zf at *
    go_enter Tryz.func61, Tryz.ntmps61
    go_wp2_with (first | (go_at_call 26; (with_reducible refine (htn _).mono ?_); rintro e w' ⟨rfl, hb⟩; obtain ⟨os, d, rfl⟩ := hb.more; clear hb) | (go_at_call 104; (with_reducible refine (hfn _).mono ?_); rintro e w' ⟨rfl, hb⟩; obtain ⟨os, d, rfl⟩ := hb.more; clear hb) | (go_at_call 102; (with_reducible refine (htd _).mono ?_); rintro e w' ⟨rfl, hb⟩; obtain ⟨os, d, rfl⟩ := hb.more; clear hb))
    exact bodyPost_ret (v := VV zk zm ze zt zb zf) (by simp [results, Tryz.results61, go_sem]) rfl ⟨rfl, by with_reducible repeat (first | exact Ext.refl _ | apply Ext.drew | apply Ext.alloc | apply Ext.more_)⟩
  · have hz' : z = bad_ (tnF x) := by rw [← hz]; exact negV_no h1
    subst hz'
    have hbad := fun W => rbad2_any (tnF x) W
    have q0 : (tnF x != 0) = true := by simpa using h1
    generalize tnF x = f at *
    simp only [bad_, badV]
    clear hz hx h1
    generalize (tnP x).1 = a at *
    generalize (tnP x).2 = b at *
    generalize x.kind = xk at *; generalize x.mant = xm at *; generalize x.exp = xe at *; generalize x.text = xt at *; generalize x.truth = xb at *; generalize x.fault = xf at *
    go_enter Tryz.func61, Tryz.ntmps61
    go_wp2_with (first | (go_at_call 26; (with_reducible refine (htn _).mono ?_); rintro e w' ⟨rfl, hb⟩; obtain ⟨os, d, rfl⟩ := hb.more; clear hb) | (go_at_call 27; (with_reducible refine (hbad _).mono ?_); rintro e w' ⟨rfl, hb⟩; obtain ⟨os, d, rfl⟩ := hb.more; clear hb))
    exact bodyPost_ret (v := VV 4 0 0 ⟨#[]⟩ false (badF f)) (by simp [results, Tryz.results61, go_sem]) rfl ⟨rfl, by with_reducible repeat (first | exact Ext.refl _ | apply Ext.drew | apply Ext.alloc | apply Ext.more_)⟩
set_option maxHeartbeats 1000000 in
theorem of1_cent (x : Val) (w : World) (hx : x.right) (z : Val) (hz : centV x = z) :
    Calls Tryz.prog 61 #[.string ⟨#[37]⟩, VV x.kind x.mant x.exp x.text x.truth x.fault] w fun e w' => e = .returned (VV z.kind z.mant z.exp z.text z.truth z.fault) ∧ Ext w w' := by
  have htn := fun W => rtoNum_any x W hx
  simp only [tnV] at htn
  by_cases h1 : tnF x = 0
  · have hz' : z = numRes (divS (tnP x).1 (tnP x).2 1 2) := by rw [← hz]; exact centV_yes h1
    subst hz'
    rw [h1] at htn
    have hfn := fun W => rdiv_any (tnP x).1 (tnP x).2 1 2 W (Rt_i64 (tn_rt hx)).1 (i64_small (by decide))
    have htd := fun W => rmade_any (divS (tnP x).1 (tnP x).2 1 2) W
    clear hz hx
    generalize divS (tnP x).1 (tnP x).2 1 2 = R at *
    generalize (tnP x).1 = a at *
    generalize (tnP x).2 = b at *
    generalize numRes R = z at *
    simp only [rnV] at hfn
    clear h1
    generalize x.kind = xk at *; generalize x.mant = xm at *; generalize x.exp = xe at *; generalize x.text = xt at *; generalize x.truth = xb at *; generalize x.fault = xf at *
    generalize z.kind = zk at *; generalize z.mant = zm at *; generalize z.exp = ze at *; generalize z.text = zt at *; generalize z.truth = zb at *; generalize z.fault = zf at *
    go_enter Tryz.func61, Tryz.ntmps61
    go_wp2_with (first | (go_at_call 26; (with_reducible refine (htn _).mono ?_); rintro e w' ⟨rfl, hb⟩; obtain ⟨os, d, rfl⟩ := hb.more; clear hb) | (go_at_call 106; (with_reducible refine (hfn _).mono ?_); rintro e w' ⟨rfl, hb⟩; obtain ⟨os, d, rfl⟩ := hb.more; clear hb) | (go_at_call 102; (with_reducible refine (htd _).mono ?_); rintro e w' ⟨rfl, hb⟩; obtain ⟨os, d, rfl⟩ := hb.more; clear hb))
    exact bodyPost_ret (v := VV zk zm ze zt zb zf) (by simp [results, Tryz.results61, go_sem]) rfl ⟨rfl, by with_reducible repeat (first | exact Ext.refl _ | apply Ext.drew | apply Ext.alloc | apply Ext.more_)⟩
  · have hz' : z = bad_ (tnF x) := by rw [← hz]; exact centV_no h1
    subst hz'
    have hbad := fun W => rbad2_any (tnF x) W
    have q0 : (tnF x != 0) = true := by simpa using h1
    generalize tnF x = f at *
    simp only [bad_, badV]
    clear hz hx h1
    generalize (tnP x).1 = a at *
    generalize (tnP x).2 = b at *
    generalize x.kind = xk at *; generalize x.mant = xm at *; generalize x.exp = xe at *; generalize x.text = xt at *; generalize x.truth = xb at *; generalize x.fault = xf at *
    go_enter Tryz.func61, Tryz.ntmps61
    go_wp2_with (first | (go_at_call 26; (with_reducible refine (htn _).mono ?_); rintro e w' ⟨rfl, hb⟩; obtain ⟨os, d, rfl⟩ := hb.more; clear hb) | (go_at_call 27; (with_reducible refine (hbad _).mono ?_); rintro e w' ⟨rfl, hb⟩; obtain ⟨os, d, rfl⟩ := hb.more; clear hb))
    exact bodyPost_ret (v := VV 4 0 0 ⟨#[]⟩ false (badF f)) (by simp [results, Tryz.results61, go_sem]) rfl ⟨rfl, by with_reducible repeat (first | exact Ext.refl _ | apply Ext.drew | apply Ext.alloc | apply Ext.more_)⟩
set_option maxHeartbeats 1000000 in
theorem rtruth_eq (x y : Val) (w : World) (hx : x.right) (hy : y.right) (z : Val) (hz : holdV (Sg.pred .eq) x y = z) :
    Calls Tryz.prog 99 #[.string ⟨#[61]⟩, VV x.kind x.mant x.exp x.text x.truth x.fault, VV y.kind y.mant y.exp y.text y.truth y.fault] w fun e w' => e = .returned (VV z.kind z.mant z.exp z.text z.truth z.fault) ∧ Ext w w' := by
  have hcm := fun W => rcompare_any x y W hx hy
  have htr := fun b W => rtruth_any b W
  by_cases h1 : x.kind = 4
  · obtain rfl : z = x := by rw [← hz]; unfold holdV; simp [h1]
    have q1 : (z.kind == 4) = true := by simp [h1]
    clear h1 hz hx hy hcm htr
    generalize z.kind = xk at *; generalize z.mant = xm at *; generalize z.exp = xe at *; generalize z.text = xt at *; generalize z.truth = xb at *; generalize z.fault = xf at *
    generalize y.kind = yk at *; generalize y.mant = ym at *; generalize y.exp = ye at *; generalize y.text = yt at *; generalize y.truth = yb at *; generalize y.fault = yf at *
    go_enter Tryz.func99, Tryz.ntmps99
    go_wp2_with fail
    exact bodyPost_ret (v := VV xk xm xe xt xb xf) (by simp [results, Tryz.results99, go_sem]) rfl ⟨rfl, by with_reducible repeat (first | exact Ext.refl _ | apply Ext.drew | apply Ext.alloc | apply Ext.more_)⟩
  · have q1 : (x.kind == 4) = false := by simp [h1]
    by_cases h2 : y.kind = 4
    · obtain rfl : z = y := by rw [← hz]; unfold holdV; simp [h1, h2]
      have q2 : (z.kind == 4) = true := by simp [h2]
      clear h1 h2 hz hx hy hcm htr
      generalize x.kind = xk at *; generalize x.mant = xm at *; generalize x.exp = xe at *; generalize x.text = xt at *; generalize x.truth = xb at *; generalize x.fault = xf at *
      generalize z.kind = yk at *; generalize z.mant = ym at *; generalize z.exp = ye at *; generalize z.text = yt at *; generalize z.truth = yb at *; generalize z.fault = yf at *
      go_enter Tryz.func99, Tryz.ntmps99
      go_wp2_with fail
      exact bodyPost_ret (v := VV yk ym ye yt yb yf) (by simp [results, Tryz.results99, go_sem]) rfl ⟨rfl, by with_reducible repeat (first | exact Ext.refl _ | apply Ext.drew | apply Ext.alloc | apply Ext.more_)⟩
    · obtain rfl : z = truthV (Sg.pred .eq (cmpV x y)) := by rw [← hz]; unfold holdV; simp [h1, h2]
      have q2 : (y.kind == 4) = false := by simp [h2]
      clear h1 h2 hz hx hy
      simp only [truthV, Sg.pred]
      generalize cmpV x y = n at *
      generalize x.kind = xk at *; generalize x.mant = xm at *; generalize x.exp = xe at *; generalize x.text = xt at *; generalize x.truth = xb at *; generalize x.fault = xf at *
      generalize y.kind = yk at *; generalize y.mant = ym at *; generalize y.exp = ye at *; generalize y.text = yt at *; generalize y.truth = yb at *; generalize y.fault = yf at *
      go_enter Tryz.func99, Tryz.ntmps99
      go_wp2_with (first | (go_at_call 16; (with_reducible refine (hcm _).mono ?_); rintro e w' ⟨rfl, hb⟩; obtain ⟨os, d, rfl⟩ := hb.more; clear hb) | (go_at_call 145; (with_reducible refine (htr _ _).mono ?_); rintro e w' ⟨rfl, hb⟩; obtain ⟨os, d, rfl⟩ := hb.more; clear hb))
      exact bodyPost_ret (v := VV 3 0 0 ⟨#[]⟩ _ 0) (by simp [results, Tryz.results99, go_sem]) rfl ⟨rfl, by with_reducible repeat (first | exact Ext.refl _ | apply Ext.drew | apply Ext.alloc | apply Ext.more_)⟩
theorem of2_eq (x y : Val) (w : World) (hx : x.right) (hy : y.right) (z : Val) (hz : holdV (Sg.pred .eq) x y = z) :
    Calls Tryz.prog 52 #[.string ⟨#[61]⟩, VV x.kind x.mant x.exp x.text x.truth x.fault, VV y.kind y.mant y.exp y.text y.truth y.fault] w fun e w' => e = .returned (VV z.kind z.mant z.exp z.text z.truth z.fault) ∧ Ext w w' := by
  have hlv := fun W => rlevel_yes .eq W
  simp only [Sg.key, Sg.level] at hlv
  have htr := fun W => rtruth_eq x y W hx hy z hz
  clear hx hy hz
  generalize x.kind = xk at *; generalize x.mant = xm at *; generalize x.exp = xe at *; generalize x.text = xt at *; generalize x.truth = xb at *; generalize x.fault = xf at *
  generalize y.kind = yk at *; generalize y.mant = ym at *; generalize y.exp = ye at *; generalize y.text = yt at *; generalize y.truth = yb at *; generalize y.fault = yf at *
  generalize z.kind = zk at *; generalize z.mant = zm at *; generalize z.exp = ze at *; generalize z.text = zt at *; generalize z.truth = zb at *; generalize z.fault = zf at *
  go_enter Tryz.func52, Tryz.ntmps52
  go_wp2_with (first | (go_at_call 25; (with_reducible refine (hlv _).mono ?_); rintro e w' ⟨rfl, hb⟩; obtain ⟨os, d, rfl⟩ := hb.more; clear hb) | (go_at_call 99; (with_reducible refine (htr _).mono ?_); rintro e w' ⟨rfl, hb⟩; obtain ⟨os, d, rfl⟩ := hb.more; clear hb))
  exact bodyPost_ret (v := VV zk zm ze zt zb zf) (by simp [results, Tryz.results52, go_sem]) rfl ⟨rfl, by with_reducible repeat (first | exact Ext.refl _ | apply Ext.drew | apply Ext.alloc | apply Ext.more_)⟩
set_option maxHeartbeats 1000000 in
theorem rtruth_ne (x y : Val) (w : World) (hx : x.right) (hy : y.right) (z : Val) (hz : holdV (Sg.pred .ne) x y = z) :
    Calls Tryz.prog 99 #[.string ⟨#[60, 62]⟩, VV x.kind x.mant x.exp x.text x.truth x.fault, VV y.kind y.mant y.exp y.text y.truth y.fault] w fun e w' => e = .returned (VV z.kind z.mant z.exp z.text z.truth z.fault) ∧ Ext w w' := by
  have hcm := fun W => rcompare_any x y W hx hy
  have htr := fun b W => rtruth_any b W
  by_cases h1 : x.kind = 4
  · obtain rfl : z = x := by rw [← hz]; unfold holdV; simp [h1]
    have q1 : (z.kind == 4) = true := by simp [h1]
    clear h1 hz hx hy hcm htr
    generalize z.kind = xk at *; generalize z.mant = xm at *; generalize z.exp = xe at *; generalize z.text = xt at *; generalize z.truth = xb at *; generalize z.fault = xf at *
    generalize y.kind = yk at *; generalize y.mant = ym at *; generalize y.exp = ye at *; generalize y.text = yt at *; generalize y.truth = yb at *; generalize y.fault = yf at *
    go_enter Tryz.func99, Tryz.ntmps99
    go_wp2_with fail
    exact bodyPost_ret (v := VV xk xm xe xt xb xf) (by simp [results, Tryz.results99, go_sem]) rfl ⟨rfl, by with_reducible repeat (first | exact Ext.refl _ | apply Ext.drew | apply Ext.alloc | apply Ext.more_)⟩
  · have q1 : (x.kind == 4) = false := by simp [h1]
    by_cases h2 : y.kind = 4
    · obtain rfl : z = y := by rw [← hz]; unfold holdV; simp [h1, h2]
      have q2 : (z.kind == 4) = true := by simp [h2]
      clear h1 h2 hz hx hy hcm htr
      generalize x.kind = xk at *; generalize x.mant = xm at *; generalize x.exp = xe at *; generalize x.text = xt at *; generalize x.truth = xb at *; generalize x.fault = xf at *
      generalize z.kind = yk at *; generalize z.mant = ym at *; generalize z.exp = ye at *; generalize z.text = yt at *; generalize z.truth = yb at *; generalize z.fault = yf at *
      go_enter Tryz.func99, Tryz.ntmps99
      go_wp2_with fail
      exact bodyPost_ret (v := VV yk ym ye yt yb yf) (by simp [results, Tryz.results99, go_sem]) rfl ⟨rfl, by with_reducible repeat (first | exact Ext.refl _ | apply Ext.drew | apply Ext.alloc | apply Ext.more_)⟩
    · obtain rfl : z = truthV (Sg.pred .ne (cmpV x y)) := by rw [← hz]; unfold holdV; simp [h1, h2]
      have q2 : (y.kind == 4) = false := by simp [h2]
      clear h1 h2 hz hx hy
      simp only [truthV, Sg.pred]
      generalize cmpV x y = n at *
      generalize x.kind = xk at *; generalize x.mant = xm at *; generalize x.exp = xe at *; generalize x.text = xt at *; generalize x.truth = xb at *; generalize x.fault = xf at *
      generalize y.kind = yk at *; generalize y.mant = ym at *; generalize y.exp = ye at *; generalize y.text = yt at *; generalize y.truth = yb at *; generalize y.fault = yf at *
      go_enter Tryz.func99, Tryz.ntmps99
      go_wp2_with (first | (go_at_call 16; (with_reducible refine (hcm _).mono ?_); rintro e w' ⟨rfl, hb⟩; obtain ⟨os, d, rfl⟩ := hb.more; clear hb) | (go_at_call 145; (with_reducible refine (htr _ _).mono ?_); rintro e w' ⟨rfl, hb⟩; obtain ⟨os, d, rfl⟩ := hb.more; clear hb))
      exact bodyPost_ret (v := VV 3 0 0 ⟨#[]⟩ _ 0) (by simp [results, Tryz.results99, go_sem]) rfl ⟨rfl, by with_reducible repeat (first | exact Ext.refl _ | apply Ext.drew | apply Ext.alloc | apply Ext.more_)⟩
theorem of2_ne (x y : Val) (w : World) (hx : x.right) (hy : y.right) (z : Val) (hz : holdV (Sg.pred .ne) x y = z) :
    Calls Tryz.prog 52 #[.string ⟨#[60, 62]⟩, VV x.kind x.mant x.exp x.text x.truth x.fault, VV y.kind y.mant y.exp y.text y.truth y.fault] w fun e w' => e = .returned (VV z.kind z.mant z.exp z.text z.truth z.fault) ∧ Ext w w' := by
  have hlv := fun W => rlevel_yes .ne W
  simp only [Sg.key, Sg.level] at hlv
  have htr := fun W => rtruth_ne x y W hx hy z hz
  clear hx hy hz
  generalize x.kind = xk at *; generalize x.mant = xm at *; generalize x.exp = xe at *; generalize x.text = xt at *; generalize x.truth = xb at *; generalize x.fault = xf at *
  generalize y.kind = yk at *; generalize y.mant = ym at *; generalize y.exp = ye at *; generalize y.text = yt at *; generalize y.truth = yb at *; generalize y.fault = yf at *
  generalize z.kind = zk at *; generalize z.mant = zm at *; generalize z.exp = ze at *; generalize z.text = zt at *; generalize z.truth = zb at *; generalize z.fault = zf at *
  go_enter Tryz.func52, Tryz.ntmps52
  go_wp2_with (first | (go_at_call 25; (with_reducible refine (hlv _).mono ?_); rintro e w' ⟨rfl, hb⟩; obtain ⟨os, d, rfl⟩ := hb.more; clear hb) | (go_at_call 99; (with_reducible refine (htr _).mono ?_); rintro e w' ⟨rfl, hb⟩; obtain ⟨os, d, rfl⟩ := hb.more; clear hb))
  exact bodyPost_ret (v := VV zk zm ze zt zb zf) (by simp [results, Tryz.results52, go_sem]) rfl ⟨rfl, by with_reducible repeat (first | exact Ext.refl _ | apply Ext.drew | apply Ext.alloc | apply Ext.more_)⟩
set_option maxHeartbeats 1000000 in
theorem rtruth_lt (x y : Val) (w : World) (hx : x.right) (hy : y.right) (z : Val) (hz : holdV (Sg.pred .lt) x y = z) :
    Calls Tryz.prog 99 #[.string ⟨#[60]⟩, VV x.kind x.mant x.exp x.text x.truth x.fault, VV y.kind y.mant y.exp y.text y.truth y.fault] w fun e w' => e = .returned (VV z.kind z.mant z.exp z.text z.truth z.fault) ∧ Ext w w' := by
  have hcm := fun W => rcompare_any x y W hx hy
  have htr := fun b W => rtruth_any b W
  by_cases h1 : x.kind = 4
  · obtain rfl : z = x := by rw [← hz]; unfold holdV; simp [h1]
    have q1 : (z.kind == 4) = true := by simp [h1]
    clear h1 hz hx hy hcm htr
    generalize z.kind = xk at *; generalize z.mant = xm at *; generalize z.exp = xe at *; generalize z.text = xt at *; generalize z.truth = xb at *; generalize z.fault = xf at *
    generalize y.kind = yk at *; generalize y.mant = ym at *; generalize y.exp = ye at *; generalize y.text = yt at *; generalize y.truth = yb at *; generalize y.fault = yf at *
    go_enter Tryz.func99, Tryz.ntmps99
    go_wp2_with fail
    exact bodyPost_ret (v := VV xk xm xe xt xb xf) (by simp [results, Tryz.results99, go_sem]) rfl ⟨rfl, by with_reducible repeat (first | exact Ext.refl _ | apply Ext.drew | apply Ext.alloc | apply Ext.more_)⟩
  · have q1 : (x.kind == 4) = false := by simp [h1]
    by_cases h2 : y.kind = 4
    · obtain rfl : z = y := by rw [← hz]; unfold holdV; simp [h1, h2]
      have q2 : (z.kind == 4) = true := by simp [h2]
      clear h1 h2 hz hx hy hcm htr
      generalize x.kind = xk at *; generalize x.mant = xm at *; generalize x.exp = xe at *; generalize x.text = xt at *; generalize x.truth = xb at *; generalize x.fault = xf at *
      generalize z.kind = yk at *; generalize z.mant = ym at *; generalize z.exp = ye at *; generalize z.text = yt at *; generalize z.truth = yb at *; generalize z.fault = yf at *
      go_enter Tryz.func99, Tryz.ntmps99
      go_wp2_with fail
      exact bodyPost_ret (v := VV yk ym ye yt yb yf) (by simp [results, Tryz.results99, go_sem]) rfl ⟨rfl, by with_reducible repeat (first | exact Ext.refl _ | apply Ext.drew | apply Ext.alloc | apply Ext.more_)⟩
    · obtain rfl : z = truthV (Sg.pred .lt (cmpV x y)) := by rw [← hz]; unfold holdV; simp [h1, h2]
      have q2 : (y.kind == 4) = false := by simp [h2]
      clear h1 h2 hz hx hy
      simp only [truthV, Sg.pred]
      generalize cmpV x y = n at *
      generalize x.kind = xk at *; generalize x.mant = xm at *; generalize x.exp = xe at *; generalize x.text = xt at *; generalize x.truth = xb at *; generalize x.fault = xf at *
      generalize y.kind = yk at *; generalize y.mant = ym at *; generalize y.exp = ye at *; generalize y.text = yt at *; generalize y.truth = yb at *; generalize y.fault = yf at *
      go_enter Tryz.func99, Tryz.ntmps99
      go_wp2_with (first | (go_at_call 16; (with_reducible refine (hcm _).mono ?_); rintro e w' ⟨rfl, hb⟩; obtain ⟨os, d, rfl⟩ := hb.more; clear hb) | (go_at_call 145; (with_reducible refine (htr _ _).mono ?_); rintro e w' ⟨rfl, hb⟩; obtain ⟨os, d, rfl⟩ := hb.more; clear hb))
      exact bodyPost_ret (v := VV 3 0 0 ⟨#[]⟩ _ 0) (by simp [results, Tryz.results99, go_sem]) rfl ⟨rfl, by with_reducible repeat (first | exact Ext.refl _ | apply Ext.drew | apply Ext.alloc | apply Ext.more_)⟩
theorem of2_lt (x y : Val) (w : World) (hx : x.right) (hy : y.right) (z : Val) (hz : holdV (Sg.pred .lt) x y = z) :
    Calls Tryz.prog 52 #[.string ⟨#[60]⟩, VV x.kind x.mant x.exp x.text x.truth x.fault, VV y.kind y.mant y.exp y.text y.truth y.fault] w fun e w' => e = .returned (VV z.kind z.mant z.exp z.text z.truth z.fault) ∧ Ext w w' := by
  have hlv := fun W => rlevel_yes .lt W
  simp only [Sg.key, Sg.level] at hlv
  have htr := fun W => rtruth_lt x y W hx hy z hz
  clear hx hy hz
  generalize x.kind = xk at *; generalize x.mant = xm at *; generalize x.exp = xe at *; generalize x.text = xt at *; generalize x.truth = xb at *; generalize x.fault = xf at *
  generalize y.kind = yk at *; generalize y.mant = ym at *; generalize y.exp = ye at *; generalize y.text = yt at *; generalize y.truth = yb at *; generalize y.fault = yf at *
  generalize z.kind = zk at *; generalize z.mant = zm at *; generalize z.exp = ze at *; generalize z.text = zt at *; generalize z.truth = zb at *; generalize z.fault = zf at *
  go_enter Tryz.func52, Tryz.ntmps52
  go_wp2_with (first | (go_at_call 25; (with_reducible refine (hlv _).mono ?_); rintro e w' ⟨rfl, hb⟩; obtain ⟨os, d, rfl⟩ := hb.more; clear hb) | (go_at_call 99; (with_reducible refine (htr _).mono ?_); rintro e w' ⟨rfl, hb⟩; obtain ⟨os, d, rfl⟩ := hb.more; clear hb))
  exact bodyPost_ret (v := VV zk zm ze zt zb zf) (by simp [results, Tryz.results52, go_sem]) rfl ⟨rfl, by with_reducible repeat (first | exact Ext.refl _ | apply Ext.drew | apply Ext.alloc | apply Ext.more_)⟩
set_option maxHeartbeats 1000000 in
theorem rtruth_le (x y : Val) (w : World) (hx : x.right) (hy : y.right) (z : Val) (hz : holdV (Sg.pred .le) x y = z) :
    Calls Tryz.prog 99 #[.string ⟨#[60, 61]⟩, VV x.kind x.mant x.exp x.text x.truth x.fault, VV y.kind y.mant y.exp y.text y.truth y.fault] w fun e w' => e = .returned (VV z.kind z.mant z.exp z.text z.truth z.fault) ∧ Ext w w' := by
  have hcm := fun W => rcompare_any x y W hx hy
  have htr := fun b W => rtruth_any b W
  by_cases h1 : x.kind = 4
  · obtain rfl : z = x := by rw [← hz]; unfold holdV; simp [h1]
    have q1 : (z.kind == 4) = true := by simp [h1]
    clear h1 hz hx hy hcm htr
    generalize z.kind = xk at *; generalize z.mant = xm at *; generalize z.exp = xe at *; generalize z.text = xt at *; generalize z.truth = xb at *; generalize z.fault = xf at *
    generalize y.kind = yk at *; generalize y.mant = ym at *; generalize y.exp = ye at *; generalize y.text = yt at *; generalize y.truth = yb at *; generalize y.fault = yf at *
    go_enter Tryz.func99, Tryz.ntmps99
    go_wp2_with fail
    exact bodyPost_ret (v := VV xk xm xe xt xb xf) (by simp [results, Tryz.results99, go_sem]) rfl ⟨rfl, by with_reducible repeat (first | exact Ext.refl _ | apply Ext.drew | apply Ext.alloc | apply Ext.more_)⟩
  · have q1 : (x.kind == 4) = false := by simp [h1]
    by_cases h2 : y.kind = 4
    · obtain rfl : z = y := by rw [← hz]; unfold holdV; simp [h1, h2]
      have q2 : (z.kind == 4) = true := by simp [h2]
      clear h1 h2 hz hx hy hcm htr
      generalize x.kind = xk at *; generalize x.mant = xm at *; generalize x.exp = xe at *; generalize x.text = xt at *; generalize x.truth = xb at *; generalize x.fault = xf at *
      generalize z.kind = yk at *; generalize z.mant = ym at *; generalize z.exp = ye at *; generalize z.text = yt at *; generalize z.truth = yb at *; generalize z.fault = yf at *
      go_enter Tryz.func99, Tryz.ntmps99
      go_wp2_with fail
      exact bodyPost_ret (v := VV yk ym ye yt yb yf) (by simp [results, Tryz.results99, go_sem]) rfl ⟨rfl, by with_reducible repeat (first | exact Ext.refl _ | apply Ext.drew | apply Ext.alloc | apply Ext.more_)⟩
    · obtain rfl : z = truthV (Sg.pred .le (cmpV x y)) := by rw [← hz]; unfold holdV; simp [h1, h2]
      have q2 : (y.kind == 4) = false := by simp [h2]
      clear h1 h2 hz hx hy
      simp only [truthV, Sg.pred]
      generalize cmpV x y = n at *
      generalize x.kind = xk at *; generalize x.mant = xm at *; generalize x.exp = xe at *; generalize x.text = xt at *; generalize x.truth = xb at *; generalize x.fault = xf at *
      generalize y.kind = yk at *; generalize y.mant = ym at *; generalize y.exp = ye at *; generalize y.text = yt at *; generalize y.truth = yb at *; generalize y.fault = yf at *
      go_enter Tryz.func99, Tryz.ntmps99
      go_wp2_with (first | (go_at_call 16; (with_reducible refine (hcm _).mono ?_); rintro e w' ⟨rfl, hb⟩; obtain ⟨os, d, rfl⟩ := hb.more; clear hb) | (go_at_call 145; (with_reducible refine (htr _ _).mono ?_); rintro e w' ⟨rfl, hb⟩; obtain ⟨os, d, rfl⟩ := hb.more; clear hb))
      exact bodyPost_ret (v := VV 3 0 0 ⟨#[]⟩ _ 0) (by simp [results, Tryz.results99, go_sem]) rfl ⟨rfl, by with_reducible repeat (first | exact Ext.refl _ | apply Ext.drew | apply Ext.alloc | apply Ext.more_)⟩
theorem of2_le (x y : Val) (w : World) (hx : x.right) (hy : y.right) (z : Val) (hz : holdV (Sg.pred .le) x y = z) :
    Calls Tryz.prog 52 #[.string ⟨#[60, 61]⟩, VV x.kind x.mant x.exp x.text x.truth x.fault, VV y.kind y.mant y.exp y.text y.truth y.fault] w fun e w' => e = .returned (VV z.kind z.mant z.exp z.text z.truth z.fault) ∧ Ext w w' := by
  have hlv := fun W => rlevel_yes .le W
  simp only [Sg.key, Sg.level] at hlv
  have htr := fun W => rtruth_le x y W hx hy z hz
  clear hx hy hz
  generalize x.kind = xk at *; generalize x.mant = xm at *; generalize x.exp = xe at *; generalize x.text = xt at *; generalize x.truth = xb at *; generalize x.fault = xf at *
  generalize y.kind = yk at *; generalize y.mant = ym at *; generalize y.exp = ye at *; generalize y.text = yt at *; generalize y.truth = yb at *; generalize y.fault = yf at *
  generalize z.kind = zk at *; generalize z.mant = zm at *; generalize z.exp = ze at *; generalize z.text = zt at *; generalize z.truth = zb at *; generalize z.fault = zf at *
  go_enter Tryz.func52, Tryz.ntmps52
  go_wp2_with (first | (go_at_call 25; (with_reducible refine (hlv _).mono ?_); rintro e w' ⟨rfl, hb⟩; obtain ⟨os, d, rfl⟩ := hb.more; clear hb) | (go_at_call 99; (with_reducible refine (htr _).mono ?_); rintro e w' ⟨rfl, hb⟩; obtain ⟨os, d, rfl⟩ := hb.more; clear hb))
  exact bodyPost_ret (v := VV zk zm ze zt zb zf) (by simp [results, Tryz.results52, go_sem]) rfl ⟨rfl, by with_reducible repeat (first | exact Ext.refl _ | apply Ext.drew | apply Ext.alloc | apply Ext.more_)⟩
set_option maxHeartbeats 1000000 in
theorem rtruth_gt (x y : Val) (w : World) (hx : x.right) (hy : y.right) (z : Val) (hz : holdV (Sg.pred .gt) x y = z) :
    Calls Tryz.prog 99 #[.string ⟨#[62]⟩, VV x.kind x.mant x.exp x.text x.truth x.fault, VV y.kind y.mant y.exp y.text y.truth y.fault] w fun e w' => e = .returned (VV z.kind z.mant z.exp z.text z.truth z.fault) ∧ Ext w w' := by
  have hcm := fun W => rcompare_any x y W hx hy
  have htr := fun b W => rtruth_any b W
  by_cases h1 : x.kind = 4
  · obtain rfl : z = x := by rw [← hz]; unfold holdV; simp [h1]
    have q1 : (z.kind == 4) = true := by simp [h1]
    clear h1 hz hx hy hcm htr
    generalize z.kind = xk at *; generalize z.mant = xm at *; generalize z.exp = xe at *; generalize z.text = xt at *; generalize z.truth = xb at *; generalize z.fault = xf at *
    generalize y.kind = yk at *; generalize y.mant = ym at *; generalize y.exp = ye at *; generalize y.text = yt at *; generalize y.truth = yb at *; generalize y.fault = yf at *
    go_enter Tryz.func99, Tryz.ntmps99
    go_wp2_with fail
    exact bodyPost_ret (v := VV xk xm xe xt xb xf) (by simp [results, Tryz.results99, go_sem]) rfl ⟨rfl, by with_reducible repeat (first | exact Ext.refl _ | apply Ext.drew | apply Ext.alloc | apply Ext.more_)⟩
  · have q1 : (x.kind == 4) = false := by simp [h1]
    by_cases h2 : y.kind = 4
    · obtain rfl : z = y := by rw [← hz]; unfold holdV; simp [h1, h2]
      have q2 : (z.kind == 4) = true := by simp [h2]
      clear h1 h2 hz hx hy hcm htr
      generalize x.kind = xk at *; generalize x.mant = xm at *; generalize x.exp = xe at *; generalize x.text = xt at *; generalize x.truth = xb at *; generalize x.fault = xf at *
      generalize z.kind = yk at *; generalize z.mant = ym at *; generalize z.exp = ye at *; generalize z.text = yt at *; generalize z.truth = yb at *; generalize z.fault = yf at *
      go_enter Tryz.func99, Tryz.ntmps99
      go_wp2_with fail
      exact bodyPost_ret (v := VV yk ym ye yt yb yf) (by simp [results, Tryz.results99, go_sem]) rfl ⟨rfl, by with_reducible repeat (first | exact Ext.refl _ | apply Ext.drew | apply Ext.alloc | apply Ext.more_)⟩
    · obtain rfl : z = truthV (Sg.pred .gt (cmpV x y)) := by rw [← hz]; unfold holdV; simp [h1, h2]
      have q2 : (y.kind == 4) = false := by simp [h2]
      clear h1 h2 hz hx hy
      simp only [truthV, Sg.pred]
      generalize cmpV x y = n at *
      generalize x.kind = xk at *; generalize x.mant = xm at *; generalize x.exp = xe at *; generalize x.text = xt at *; generalize x.truth = xb at *; generalize x.fault = xf at *
      generalize y.kind = yk at *; generalize y.mant = ym at *; generalize y.exp = ye at *; generalize y.text = yt at *; generalize y.truth = yb at *; generalize y.fault = yf at *
      go_enter Tryz.func99, Tryz.ntmps99
      go_wp2_with (first | (go_at_call 16; (with_reducible refine (hcm _).mono ?_); rintro e w' ⟨rfl, hb⟩; obtain ⟨os, d, rfl⟩ := hb.more; clear hb) | (go_at_call 145; (with_reducible refine (htr _ _).mono ?_); rintro e w' ⟨rfl, hb⟩; obtain ⟨os, d, rfl⟩ := hb.more; clear hb))
      exact bodyPost_ret (v := VV 3 0 0 ⟨#[]⟩ _ 0) (by simp [results, Tryz.results99, go_sem]) rfl ⟨rfl, by with_reducible repeat (first | exact Ext.refl _ | apply Ext.drew | apply Ext.alloc | apply Ext.more_)⟩
theorem of2_gt (x y : Val) (w : World) (hx : x.right) (hy : y.right) (z : Val) (hz : holdV (Sg.pred .gt) x y = z) :
    Calls Tryz.prog 52 #[.string ⟨#[62]⟩, VV x.kind x.mant x.exp x.text x.truth x.fault, VV y.kind y.mant y.exp y.text y.truth y.fault] w fun e w' => e = .returned (VV z.kind z.mant z.exp z.text z.truth z.fault) ∧ Ext w w' := by
  have hlv := fun W => rlevel_yes .gt W
  simp only [Sg.key, Sg.level] at hlv
  have htr := fun W => rtruth_gt x y W hx hy z hz
  clear hx hy hz
  generalize x.kind = xk at *; generalize x.mant = xm at *; generalize x.exp = xe at *; generalize x.text = xt at *; generalize x.truth = xb at *; generalize x.fault = xf at *
  generalize y.kind = yk at *; generalize y.mant = ym at *; generalize y.exp = ye at *; generalize y.text = yt at *; generalize y.truth = yb at *; generalize y.fault = yf at *
  generalize z.kind = zk at *; generalize z.mant = zm at *; generalize z.exp = ze at *; generalize z.text = zt at *; generalize z.truth = zb at *; generalize z.fault = zf at *
  go_enter Tryz.func52, Tryz.ntmps52
  go_wp2_with (first | (go_at_call 25; (with_reducible refine (hlv _).mono ?_); rintro e w' ⟨rfl, hb⟩; obtain ⟨os, d, rfl⟩ := hb.more; clear hb) | (go_at_call 99; (with_reducible refine (htr _).mono ?_); rintro e w' ⟨rfl, hb⟩; obtain ⟨os, d, rfl⟩ := hb.more; clear hb))
  exact bodyPost_ret (v := VV zk zm ze zt zb zf) (by simp [results, Tryz.results52, go_sem]) rfl ⟨rfl, by with_reducible repeat (first | exact Ext.refl _ | apply Ext.drew | apply Ext.alloc | apply Ext.more_)⟩
set_option maxHeartbeats 1000000 in
theorem rtruth_ge (x y : Val) (w : World) (hx : x.right) (hy : y.right) (z : Val) (hz : holdV (Sg.pred .ge) x y = z) :
    Calls Tryz.prog 99 #[.string ⟨#[62, 61]⟩, VV x.kind x.mant x.exp x.text x.truth x.fault, VV y.kind y.mant y.exp y.text y.truth y.fault] w fun e w' => e = .returned (VV z.kind z.mant z.exp z.text z.truth z.fault) ∧ Ext w w' := by
  have hcm := fun W => rcompare_any x y W hx hy
  have htr := fun b W => rtruth_any b W
  by_cases h1 : x.kind = 4
  · obtain rfl : z = x := by rw [← hz]; unfold holdV; simp [h1]
    have q1 : (z.kind == 4) = true := by simp [h1]
    clear h1 hz hx hy hcm htr
    generalize z.kind = xk at *; generalize z.mant = xm at *; generalize z.exp = xe at *; generalize z.text = xt at *; generalize z.truth = xb at *; generalize z.fault = xf at *
    generalize y.kind = yk at *; generalize y.mant = ym at *; generalize y.exp = ye at *; generalize y.text = yt at *; generalize y.truth = yb at *; generalize y.fault = yf at *
    go_enter Tryz.func99, Tryz.ntmps99
    go_wp2_with fail
    exact bodyPost_ret (v := VV xk xm xe xt xb xf) (by simp [results, Tryz.results99, go_sem]) rfl ⟨rfl, by with_reducible repeat (first | exact Ext.refl _ | apply Ext.drew | apply Ext.alloc | apply Ext.more_)⟩
  · have q1 : (x.kind == 4) = false := by simp [h1]
    by_cases h2 : y.kind = 4
    · obtain rfl : z = y := by rw [← hz]; unfold holdV; simp [h1, h2]
      have q2 : (z.kind == 4) = true := by simp [h2]
      clear h1 h2 hz hx hy hcm htr
      generalize x.kind = xk at *; generalize x.mant = xm at *; generalize x.exp = xe at *; generalize x.text = xt at *; generalize x.truth = xb at *; generalize x.fault = xf at *
      generalize z.kind = yk at *; generalize z.mant = ym at *; generalize z.exp = ye at *; generalize z.text = yt at *; generalize z.truth = yb at *; generalize z.fault = yf at *
      go_enter Tryz.func99, Tryz.ntmps99
      go_wp2_with fail
      exact bodyPost_ret (v := VV yk ym ye yt yb yf) (by simp [results, Tryz.results99, go_sem]) rfl ⟨rfl, by with_reducible repeat (first | exact Ext.refl _ | apply Ext.drew | apply Ext.alloc | apply Ext.more_)⟩
    · obtain rfl : z = truthV (Sg.pred .ge (cmpV x y)) := by rw [← hz]; unfold holdV; simp [h1, h2]
      have q2 : (y.kind == 4) = false := by simp [h2]
      clear h1 h2 hz hx hy
      simp only [truthV, Sg.pred]
      generalize cmpV x y = n at *
      generalize x.kind = xk at *; generalize x.mant = xm at *; generalize x.exp = xe at *; generalize x.text = xt at *; generalize x.truth = xb at *; generalize x.fault = xf at *
      generalize y.kind = yk at *; generalize y.mant = ym at *; generalize y.exp = ye at *; generalize y.text = yt at *; generalize y.truth = yb at *; generalize y.fault = yf at *
      go_enter Tryz.func99, Tryz.ntmps99
      go_wp2_with (first | (go_at_call 16; (with_reducible refine (hcm _).mono ?_); rintro e w' ⟨rfl, hb⟩; obtain ⟨os, d, rfl⟩ := hb.more; clear hb) | (go_at_call 145; (with_reducible refine (htr _ _).mono ?_); rintro e w' ⟨rfl, hb⟩; obtain ⟨os, d, rfl⟩ := hb.more; clear hb))
      exact bodyPost_ret (v := VV 3 0 0 ⟨#[]⟩ _ 0) (by simp [results, Tryz.results99, go_sem]) rfl ⟨rfl, by with_reducible repeat (first | exact Ext.refl _ | apply Ext.drew | apply Ext.alloc | apply Ext.more_)⟩
theorem of2_ge (x y : Val) (w : World) (hx : x.right) (hy : y.right) (z : Val) (hz : holdV (Sg.pred .ge) x y = z) :
    Calls Tryz.prog 52 #[.string ⟨#[62, 61]⟩, VV x.kind x.mant x.exp x.text x.truth x.fault, VV y.kind y.mant y.exp y.text y.truth y.fault] w fun e w' => e = .returned (VV z.kind z.mant z.exp z.text z.truth z.fault) ∧ Ext w w' := by
  have hlv := fun W => rlevel_yes .ge W
  simp only [Sg.key, Sg.level] at hlv
  have htr := fun W => rtruth_ge x y W hx hy z hz
  clear hx hy hz
  generalize x.kind = xk at *; generalize x.mant = xm at *; generalize x.exp = xe at *; generalize x.text = xt at *; generalize x.truth = xb at *; generalize x.fault = xf at *
  generalize y.kind = yk at *; generalize y.mant = ym at *; generalize y.exp = ye at *; generalize y.text = yt at *; generalize y.truth = yb at *; generalize y.fault = yf at *
  generalize z.kind = zk at *; generalize z.mant = zm at *; generalize z.exp = ze at *; generalize z.text = zt at *; generalize z.truth = zb at *; generalize z.fault = zf at *
  go_enter Tryz.func52, Tryz.ntmps52
  go_wp2_with (first | (go_at_call 25; (with_reducible refine (hlv _).mono ?_); rintro e w' ⟨rfl, hb⟩; obtain ⟨os, d, rfl⟩ := hb.more; clear hb) | (go_at_call 99; (with_reducible refine (htr _).mono ?_); rintro e w' ⟨rfl, hb⟩; obtain ⟨os, d, rfl⟩ := hb.more; clear hb))
  exact bodyPost_ret (v := VV zk zm ze zt zb zf) (by simp [results, Tryz.results52, go_sem]) rfl ⟨rfl, by with_reducible repeat (first | exact Ext.refl _ | apply Ext.drew | apply Ext.alloc | apply Ext.more_)⟩
set_option maxHeartbeats 1000000 in
theorem of2_join (x y : Val) (w : World) (hx : x.right) (hy : y.right) (z : Val) (hz : joinV x y = z) :
    Calls Tryz.prog 52 #[.string ⟨#[38]⟩, VV x.kind x.mant x.exp x.text x.truth x.fault, VV y.kind y.mant y.exp y.text y.truth y.fault] w fun e w' => e = .returned (VV z.kind z.mant z.exp z.text z.truth z.fault) ∧ Ext w w' := by
  have hlv := fun W => rlevel_yes .join W
  simp only [Sg.key, Sg.level] at hlv
  have ht1 := fun W => rtoText_any x W hx
  have ht2 := fun W => rtoText_any y W hy
  simp only [ttV] at ht1 ht2
  have s1 := tt_size hx
  have s2 := tt_size hy
  by_cases h1 : ttF x = 0
  · by_cases h2 : ttF y = 0
    · obtain rfl : z = textV (ttS x ++ ttS y) := by rw [← hz]; unfold joinV; simp [h1, h2]
      rw [h1] at ht1
      rw [h2] at ht2
      have htx := fun W => rtext2_any (ttS x ++ ttS y) W (by rw [ByteArray.size_append]; omega)
      have hsz : ¬ 9223372036854775807 < (ttS x).size + (ttS y).size := by omega
      have e1 : (textV (ttS x ++ ttS y)).mant = 0 := by unfold textV; split <;> rfl
      have e2 : (textV (ttS x ++ ttS y)).exp = 0 := by unfold textV; split <;> rfl
      have e3 : (textV (ttS x ++ ttS y)).truth = false := by unfold textV; split <;> rfl
      rw [e1, e2, e3]
      clear hx hy hz h1 h2 e1 e2 e3 s1 s2
      generalize (textV (ttS x ++ ttS y)).kind = zk at *
      generalize (textV (ttS x ++ ttS y)).text = zt at *
      generalize (textV (ttS x ++ ttS y)).fault = zf at *
      generalize ttS x = X at *
      generalize ttS y = Y at *
      generalize x.kind = xk at *; generalize x.mant = xm at *; generalize x.exp = xe at *; generalize x.text = xt at *; generalize x.truth = xb at *; generalize x.fault = xf at *
      generalize y.kind = yk at *; generalize y.mant = ym at *; generalize y.exp = ye at *; generalize y.text = yt at *; generalize y.truth = yb at *; generalize y.fault = yf at *
      go_enter Tryz.func52, Tryz.ntmps52
      go_wp2_with (first | (go_at_call 25; (with_reducible refine (hlv _).mono ?_); rintro e w' ⟨rfl, hb⟩; obtain ⟨os, d, rfl⟩ := hb.more; clear hb) | (go_at_call 100; (with_reducible refine (ht1 _).mono ?_); rintro e w' ⟨rfl, hb⟩; obtain ⟨os, d, rfl⟩ := hb.more; clear hb) | (go_at_call 100; (with_reducible refine (ht2 _).mono ?_); rintro e w' ⟨rfl, hb⟩; obtain ⟨os, d, rfl⟩ := hb.more; clear hb) | (go_at_call 101; (with_reducible refine (htx _).mono ?_); rintro e w' ⟨rfl, hb⟩; obtain ⟨os, d, rfl⟩ := hb.more; clear hb))
      exact bodyPost_ret (v := VV zk 0 0 zt false zf) (by simp [results, Tryz.results52, go_sem]) rfl ⟨rfl, by with_reducible repeat (first | exact Ext.refl _ | apply Ext.drew | apply Ext.alloc | apply Ext.more_)⟩
    · obtain rfl : z = bad_ (ttF y) := by rw [← hz]; unfold joinV; simp [h1, h2]
      rw [h1] at ht1
      have hbad := fun W => rbad2_any (ttF y) W
      have q0 : (ttF y != 0) = true := by simpa using h2
      generalize ttF y = f at *
      simp only [bad_, badV]
      clear hx hy hz h1 h2 s1 s2
      generalize ttS x = X at *
      generalize ttS y = Y at *
      generalize x.kind = xk at *; generalize x.mant = xm at *; generalize x.exp = xe at *; generalize x.text = xt at *; generalize x.truth = xb at *; generalize x.fault = xf at *
      generalize y.kind = yk at *; generalize y.mant = ym at *; generalize y.exp = ye at *; generalize y.text = yt at *; generalize y.truth = yb at *; generalize y.fault = yf at *
      go_enter Tryz.func52, Tryz.ntmps52
      go_wp2_with (first | (go_at_call 25; (with_reducible refine (hlv _).mono ?_); rintro e w' ⟨rfl, hb⟩; obtain ⟨os, d, rfl⟩ := hb.more; clear hb) | (go_at_call 100; (with_reducible refine (ht1 _).mono ?_); rintro e w' ⟨rfl, hb⟩; obtain ⟨os, d, rfl⟩ := hb.more; clear hb) | (go_at_call 100; (with_reducible refine (ht2 _).mono ?_); rintro e w' ⟨rfl, hb⟩; obtain ⟨os, d, rfl⟩ := hb.more; clear hb) | (go_at_call 27; (with_reducible refine (hbad _).mono ?_); rintro e w' ⟨rfl, hb⟩; obtain ⟨os, d, rfl⟩ := hb.more; clear hb))
      exact bodyPost_ret (v := VV 4 0 0 ⟨#[]⟩ false (badF f)) (by simp [results, Tryz.results52, go_sem]) rfl ⟨rfl, by with_reducible repeat (first | exact Ext.refl _ | apply Ext.drew | apply Ext.alloc | apply Ext.more_)⟩
  · obtain rfl : z = bad_ (ttF x) := by rw [← hz]; unfold joinV; simp [h1]
    have hbad := fun W => rbad2_any (ttF x) W
    have q0 : (ttF x != 0) = true := by simpa using h1
    generalize ttF x = f at *
    simp only [bad_, badV]
    clear hx hy hz h1 s1 s2 ht2
    generalize ttS x = X at *
    generalize x.kind = xk at *; generalize x.mant = xm at *; generalize x.exp = xe at *; generalize x.text = xt at *; generalize x.truth = xb at *; generalize x.fault = xf at *
    generalize y.kind = yk at *; generalize y.mant = ym at *; generalize y.exp = ye at *; generalize y.text = yt at *; generalize y.truth = yb at *; generalize y.fault = yf at *
    go_enter Tryz.func52, Tryz.ntmps52
    go_wp2_with (first | (go_at_call 25; (with_reducible refine (hlv _).mono ?_); rintro e w' ⟨rfl, hb⟩; obtain ⟨os, d, rfl⟩ := hb.more; clear hb) | (go_at_call 100; (with_reducible refine (ht1 _).mono ?_); rintro e w' ⟨rfl, hb⟩; obtain ⟨os, d, rfl⟩ := hb.more; clear hb) | (go_at_call 27; (with_reducible refine (hbad _).mono ?_); rintro e w' ⟨rfl, hb⟩; obtain ⟨os, d, rfl⟩ := hb.more; clear hb))
    exact bodyPost_ret (v := VV 4 0 0 ⟨#[]⟩ false (badF f)) (by simp [results, Tryz.results52, go_sem]) rfl ⟨rfl, by with_reducible repeat (first | exact Ext.refl _ | apply Ext.drew | apply Ext.alloc | apply Ext.more_)⟩
set_option maxHeartbeats 2000000 in
theorem of2_add (x y : Val) (w : World) (hx : x.right) (hy : y.right) (z : Val) (hz : reckV addS x y = z) :
    Calls Tryz.prog 52 #[.string ⟨#[43]⟩, VV x.kind x.mant x.exp x.text x.truth x.fault, VV y.kind y.mant y.exp y.text y.truth y.fault] w fun e w' => e = .returned (VV z.kind z.mant z.exp z.text z.truth z.fault) ∧ Ext w w' := by
  have hlv := fun W => rlevel_yes .add W
  simp only [Sg.key, Sg.level] at hlv
  have ht1 := fun W => rtoNum_any x W hx
  have ht2 := fun W => rtoNum_any y W hy
  simp only [tnV] at ht1 ht2
  by_cases h1 : tnF x = 0
  · rw [h1] at ht1
    by_cases h2 : tnF y = 0
    · rw [h2] at ht2
      have rx := tn_rt hx
      have ry := tn_rt hy
      obtain rfl : z = numRes (addS (tnP x).1 (tnP x).2 (tnP y).1 (tnP y).2) := by rw [← hz]; unfold reckV; simp [h1, h2]
      have hfn := fun W => radd_any (tnP x).1 (tnP x).2 (tnP y).1 (tnP y).2 W (Rt_i64 rx).1 (Rt_i64 ry).1
      have htd := fun W => rmade_any (addS (tnP x).1 (tnP x).2 (tnP y).1 (tnP y).2) W
      clear hx hy hz h1 h2 rx ry
      generalize addS (tnP x).1 (tnP x).2 (tnP y).1 (tnP y).2 = R at *
      generalize (tnP x).1 = a at *
      generalize (tnP x).2 = b at *
      generalize (tnP y).1 = c at *
      generalize (tnP y).2 = d at *
      generalize numRes R = z at *
      simp only [rnV] at hfn
      generalize x.kind = xk at *; generalize x.mant = xm at *; generalize x.exp = xe at *; generalize x.text = xt at *; generalize x.truth = xb at *; generalize x.fault = xf at *
      generalize y.kind = yk at *; generalize y.mant = ym at *; generalize y.exp = ye at *; generalize y.text = yt at *; generalize y.truth = yb at *; generalize y.fault = yf at *
      generalize z.kind = zk at *; generalize z.mant = zm at *; generalize z.exp = ze at *; generalize z.text = zt at *; generalize z.truth = zb at *; generalize z.fault = zf at *
      go_enter Tryz.func52, Tryz.ntmps52
      go_wp2_with (first | (go_at_call 25; (with_reducible refine (hlv _).mono ?_); rintro e w' ⟨rfl, hb⟩; obtain ⟨os, d, rfl⟩ := hb.more; clear hb) | (go_at_call 26; (with_reducible refine (ht1 _).mono ?_); rintro e w' ⟨rfl, hb⟩; obtain ⟨os, d, rfl⟩ := hb.more; clear hb) | (go_at_call 26; (with_reducible refine (ht2 _).mono ?_); rintro e w' ⟨rfl, hb⟩; obtain ⟨os, d, rfl⟩ := hb.more; clear hb) | (go_at_call 103; (with_reducible refine (hfn _).mono ?_); rintro e w' ⟨rfl, hb⟩; obtain ⟨os, d, rfl⟩ := hb.more; clear hb) | (go_at_call 102; (with_reducible refine (htd _).mono ?_); rintro e w' ⟨rfl, hb⟩; obtain ⟨os, d, rfl⟩ := hb.more; clear hb))
      exact bodyPost_ret (v := VV zk zm ze zt zb zf) (by simp [results, Tryz.results52, go_sem]) rfl ⟨rfl, by with_reducible repeat (first | exact Ext.refl _ | apply Ext.drew | apply Ext.alloc | apply Ext.more_)⟩
    · obtain rfl : z = bad_ (tnF y) := by rw [← hz]; unfold reckV; simp [h1, h2]
      have hbad := fun W => rbad2_any (tnF y) W
      have q0 : (tnF y != 0) = true := by simpa using h2
      generalize tnF y = f at *
      simp only [bad_, badV]
      clear hx hy hz h1 h2
      generalize (tnP x).1 = a at *
      generalize (tnP x).2 = b at *
      generalize (tnP y).1 = c at *
      generalize (tnP y).2 = d at *
      generalize x.kind = xk at *; generalize x.mant = xm at *; generalize x.exp = xe at *; generalize x.text = xt at *; generalize x.truth = xb at *; generalize x.fault = xf at *
      generalize y.kind = yk at *; generalize y.mant = ym at *; generalize y.exp = ye at *; generalize y.text = yt at *; generalize y.truth = yb at *; generalize y.fault = yf at *
      go_enter Tryz.func52, Tryz.ntmps52
      go_wp2_with (first | (go_at_call 25; (with_reducible refine (hlv _).mono ?_); rintro e w' ⟨rfl, hb⟩; obtain ⟨os, d, rfl⟩ := hb.more; clear hb) | (go_at_call 26; (with_reducible refine (ht1 _).mono ?_); rintro e w' ⟨rfl, hb⟩; obtain ⟨os, d, rfl⟩ := hb.more; clear hb) | (go_at_call 26; (with_reducible refine (ht2 _).mono ?_); rintro e w' ⟨rfl, hb⟩; obtain ⟨os, d, rfl⟩ := hb.more; clear hb) | (go_at_call 27; (with_reducible refine (hbad _).mono ?_); rintro e w' ⟨rfl, hb⟩; obtain ⟨os, d, rfl⟩ := hb.more; clear hb))
      exact bodyPost_ret (v := VV 4 0 0 ⟨#[]⟩ false (badF f)) (by simp [results, Tryz.results52, go_sem]) rfl ⟨rfl, by with_reducible repeat (first | exact Ext.refl _ | apply Ext.drew | apply Ext.alloc | apply Ext.more_)⟩
  · obtain rfl : z = bad_ (tnF x) := by rw [← hz]; unfold reckV; simp [h1]
    have hbad := fun W => rbad2_any (tnF x) W
    have q0 : (tnF x != 0) = true := by simpa using h1
    generalize tnF x = f at *
    simp only [bad_, badV]
    clear hx hy hz h1 ht2
    generalize (tnP x).1 = a at *
    generalize (tnP x).2 = b at *
    generalize x.kind = xk at *; generalize x.mant = xm at *; generalize x.exp = xe at *; generalize x.text = xt at *; generalize x.truth = xb at *; generalize x.fault = xf at *
    generalize y.kind = yk at *; generalize y.mant = ym at *; generalize y.exp = ye at *; generalize y.text = yt at *; generalize y.truth = yb at *; generalize y.fault = yf at *
    go_enter Tryz.func52, Tryz.ntmps52
    go_wp2_with (first | (go_at_call 25; (with_reducible refine (hlv _).mono ?_); rintro e w' ⟨rfl, hb⟩; obtain ⟨os, d, rfl⟩ := hb.more; clear hb) | (go_at_call 26; (with_reducible refine (ht1 _).mono ?_); rintro e w' ⟨rfl, hb⟩; obtain ⟨os, d, rfl⟩ := hb.more; clear hb) | (go_at_call 27; (with_reducible refine (hbad _).mono ?_); rintro e w' ⟨rfl, hb⟩; obtain ⟨os, d, rfl⟩ := hb.more; clear hb))
    exact bodyPost_ret (v := VV 4 0 0 ⟨#[]⟩ false (badF f)) (by simp [results, Tryz.results52, go_sem]) rfl ⟨rfl, by with_reducible repeat (first | exact Ext.refl _ | apply Ext.drew | apply Ext.alloc | apply Ext.more_)⟩
set_option maxHeartbeats 2000000 in
theorem of2_sub (x y : Val) (w : World) (hx : x.right) (hy : y.right) (z : Val) (hz : reckV subS x y = z) :
    Calls Tryz.prog 52 #[.string ⟨#[45]⟩, VV x.kind x.mant x.exp x.text x.truth x.fault, VV y.kind y.mant y.exp y.text y.truth y.fault] w fun e w' => e = .returned (VV z.kind z.mant z.exp z.text z.truth z.fault) ∧ Ext w w' := by
  have hlv := fun W => rlevel_yes .sub W
  simp only [Sg.key, Sg.level] at hlv
  have ht1 := fun W => rtoNum_any x W hx
  have ht2 := fun W => rtoNum_any y W hy
  simp only [tnV] at ht1 ht2
  by_cases h1 : tnF x = 0
  · rw [h1] at ht1
    by_cases h2 : tnF y = 0
    · rw [h2] at ht2
      have rx := tn_rt hx
      have ry := tn_rt hy
      obtain rfl : z = numRes (subS (tnP x).1 (tnP x).2 (tnP y).1 (tnP y).2) := by rw [← hz]; unfold reckV; simp [h1, h2]
      have hfn := fun W => rsub_any (tnP x).1 (tnP x).2 (tnP y).1 (tnP y).2 W (Rt_i64 rx).1 (Rt_i64 ry).1
      have htd := fun W => rmade_any (subS (tnP x).1 (tnP x).2 (tnP y).1 (tnP y).2) W
      clear hx hy hz h1 h2 rx ry
      generalize subS (tnP x).1 (tnP x).2 (tnP y).1 (tnP y).2 = R at *
      generalize (tnP x).1 = a at *
      generalize (tnP x).2 = b at *
      generalize (tnP y).1 = c at *
      generalize (tnP y).2 = d at *
      generalize numRes R = z at *
      simp only [rnV] at hfn
      generalize x.kind = xk at *; generalize x.mant = xm at *; generalize x.exp = xe at *; generalize x.text = xt at *; generalize x.truth = xb at *; generalize x.fault = xf at *
      generalize y.kind = yk at *; generalize y.mant = ym at *; generalize y.exp = ye at *; generalize y.text = yt at *; generalize y.truth = yb at *; generalize y.fault = yf at *
      generalize z.kind = zk at *; generalize z.mant = zm at *; generalize z.exp = ze at *; generalize z.text = zt at *; generalize z.truth = zb at *; generalize z.fault = zf at *
      go_enter Tryz.func52, Tryz.ntmps52
      go_wp2_with (first | (go_at_call 25; (with_reducible refine (hlv _).mono ?_); rintro e w' ⟨rfl, hb⟩; obtain ⟨os, d, rfl⟩ := hb.more; clear hb) | (go_at_call 26; (with_reducible refine (ht1 _).mono ?_); rintro e w' ⟨rfl, hb⟩; obtain ⟨os, d, rfl⟩ := hb.more; clear hb) | (go_at_call 26; (with_reducible refine (ht2 _).mono ?_); rintro e w' ⟨rfl, hb⟩; obtain ⟨os, d, rfl⟩ := hb.more; clear hb) | (go_at_call 104; (with_reducible refine (hfn _).mono ?_); rintro e w' ⟨rfl, hb⟩; obtain ⟨os, d, rfl⟩ := hb.more; clear hb) | (go_at_call 102; (with_reducible refine (htd _).mono ?_); rintro e w' ⟨rfl, hb⟩; obtain ⟨os, d, rfl⟩ := hb.more; clear hb))
      exact bodyPost_ret (v := VV zk zm ze zt zb zf) (by simp [results, Tryz.results52, go_sem]) rfl ⟨rfl, by with_reducible repeat (first | exact Ext.refl _ | apply Ext.drew | apply Ext.alloc | apply Ext.more_)⟩
    · obtain rfl : z = bad_ (tnF y) := by rw [← hz]; unfold reckV; simp [h1, h2]
      have hbad := fun W => rbad2_any (tnF y) W
      have q0 : (tnF y != 0) = true := by simpa using h2
      generalize tnF y = f at *
      simp only [bad_, badV]
      clear hx hy hz h1 h2
      generalize (tnP x).1 = a at *
      generalize (tnP x).2 = b at *
      generalize (tnP y).1 = c at *
      generalize (tnP y).2 = d at *
      generalize x.kind = xk at *; generalize x.mant = xm at *; generalize x.exp = xe at *; generalize x.text = xt at *; generalize x.truth = xb at *; generalize x.fault = xf at *
      generalize y.kind = yk at *; generalize y.mant = ym at *; generalize y.exp = ye at *; generalize y.text = yt at *; generalize y.truth = yb at *; generalize y.fault = yf at *
      go_enter Tryz.func52, Tryz.ntmps52
      go_wp2_with (first | (go_at_call 25; (with_reducible refine (hlv _).mono ?_); rintro e w' ⟨rfl, hb⟩; obtain ⟨os, d, rfl⟩ := hb.more; clear hb) | (go_at_call 26; (with_reducible refine (ht1 _).mono ?_); rintro e w' ⟨rfl, hb⟩; obtain ⟨os, d, rfl⟩ := hb.more; clear hb) | (go_at_call 26; (with_reducible refine (ht2 _).mono ?_); rintro e w' ⟨rfl, hb⟩; obtain ⟨os, d, rfl⟩ := hb.more; clear hb) | (go_at_call 27; (with_reducible refine (hbad _).mono ?_); rintro e w' ⟨rfl, hb⟩; obtain ⟨os, d, rfl⟩ := hb.more; clear hb))
      exact bodyPost_ret (v := VV 4 0 0 ⟨#[]⟩ false (badF f)) (by simp [results, Tryz.results52, go_sem]) rfl ⟨rfl, by with_reducible repeat (first | exact Ext.refl _ | apply Ext.drew | apply Ext.alloc | apply Ext.more_)⟩
  · obtain rfl : z = bad_ (tnF x) := by rw [← hz]; unfold reckV; simp [h1]
    have hbad := fun W => rbad2_any (tnF x) W
    have q0 : (tnF x != 0) = true := by simpa using h1
    generalize tnF x = f at *
    simp only [bad_, badV]
    clear hx hy hz h1 ht2
    generalize (tnP x).1 = a at *
    generalize (tnP x).2 = b at *
    generalize x.kind = xk at *; generalize x.mant = xm at *; generalize x.exp = xe at *; generalize x.text = xt at *; generalize x.truth = xb at *; generalize x.fault = xf at *
    generalize y.kind = yk at *; generalize y.mant = ym at *; generalize y.exp = ye at *; generalize y.text = yt at *; generalize y.truth = yb at *; generalize y.fault = yf at *
    go_enter Tryz.func52, Tryz.ntmps52
    go_wp2_with (first | (go_at_call 25; (with_reducible refine (hlv _).mono ?_); rintro e w' ⟨rfl, hb⟩; obtain ⟨os, d, rfl⟩ := hb.more; clear hb) | (go_at_call 26; (with_reducible refine (ht1 _).mono ?_); rintro e w' ⟨rfl, hb⟩; obtain ⟨os, d, rfl⟩ := hb.more; clear hb) | (go_at_call 27; (with_reducible refine (hbad _).mono ?_); rintro e w' ⟨rfl, hb⟩; obtain ⟨os, d, rfl⟩ := hb.more; clear hb))
    exact bodyPost_ret (v := VV 4 0 0 ⟨#[]⟩ false (badF f)) (by simp [results, Tryz.results52, go_sem]) rfl ⟨rfl, by with_reducible repeat (first | exact Ext.refl _ | apply Ext.drew | apply Ext.alloc | apply Ext.more_)⟩
set_option maxHeartbeats 2000000 in
theorem of2_mul (x y : Val) (w : World) (hx : x.right) (hy : y.right) (z : Val) (hz : reckV mulS x y = z) :
    Calls Tryz.prog 52 #[.string ⟨#[42]⟩, VV x.kind x.mant x.exp x.text x.truth x.fault, VV y.kind y.mant y.exp y.text y.truth y.fault] w fun e w' => e = .returned (VV z.kind z.mant z.exp z.text z.truth z.fault) ∧ Ext w w' := by
  have hlv := fun W => rlevel_yes .mul W
  simp only [Sg.key, Sg.level] at hlv
  have ht1 := fun W => rtoNum_any x W hx
  have ht2 := fun W => rtoNum_any y W hy
  simp only [tnV] at ht1 ht2
  by_cases h1 : tnF x = 0
  · rw [h1] at ht1
    by_cases h2 : tnF y = 0
    · rw [h2] at ht2
      have rx := tn_rt hx
      have ry := tn_rt hy
      obtain rfl : z = numRes (mulS (tnP x).1 (tnP x).2 (tnP y).1 (tnP y).2) := by rw [← hz]; unfold reckV; simp [h1, h2]
      have hfn := fun W => rmul_any (tnP x).1 (tnP x).2 (tnP y).1 (tnP y).2 W (Rt_i64 rx).1 (Rt_i64 ry).1
      have htd := fun W => rmade_any (mulS (tnP x).1 (tnP x).2 (tnP y).1 (tnP y).2) W
      clear hx hy hz h1 h2 rx ry
      generalize mulS (tnP x).1 (tnP x).2 (tnP y).1 (tnP y).2 = R at *
      generalize (tnP x).1 = a at *
      generalize (tnP x).2 = b at *
      generalize (tnP y).1 = c at *
      generalize (tnP y).2 = d at *
      generalize numRes R = z at *
      simp only [rnV] at hfn
      generalize x.kind = xk at *; generalize x.mant = xm at *; generalize x.exp = xe at *; generalize x.text = xt at *; generalize x.truth = xb at *; generalize x.fault = xf at *
      generalize y.kind = yk at *; generalize y.mant = ym at *; generalize y.exp = ye at *; generalize y.text = yt at *; generalize y.truth = yb at *; generalize y.fault = yf at *
      generalize z.kind = zk at *; generalize z.mant = zm at *; generalize z.exp = ze at *; generalize z.text = zt at *; generalize z.truth = zb at *; generalize z.fault = zf at *
      go_enter Tryz.func52, Tryz.ntmps52
      go_wp2_with (first | (go_at_call 25; (with_reducible refine (hlv _).mono ?_); rintro e w' ⟨rfl, hb⟩; obtain ⟨os, d, rfl⟩ := hb.more; clear hb) | (go_at_call 26; (with_reducible refine (ht1 _).mono ?_); rintro e w' ⟨rfl, hb⟩; obtain ⟨os, d, rfl⟩ := hb.more; clear hb) | (go_at_call 26; (with_reducible refine (ht2 _).mono ?_); rintro e w' ⟨rfl, hb⟩; obtain ⟨os, d, rfl⟩ := hb.more; clear hb) | (go_at_call 105; (with_reducible refine (hfn _).mono ?_); rintro e w' ⟨rfl, hb⟩; obtain ⟨os, d, rfl⟩ := hb.more; clear hb) | (go_at_call 102; (with_reducible refine (htd _).mono ?_); rintro e w' ⟨rfl, hb⟩; obtain ⟨os, d, rfl⟩ := hb.more; clear hb))
      exact bodyPost_ret (v := VV zk zm ze zt zb zf) (by simp [results, Tryz.results52, go_sem]) rfl ⟨rfl, by with_reducible repeat (first | exact Ext.refl _ | apply Ext.drew | apply Ext.alloc | apply Ext.more_)⟩
    · obtain rfl : z = bad_ (tnF y) := by rw [← hz]; unfold reckV; simp [h1, h2]
      have hbad := fun W => rbad2_any (tnF y) W
      have q0 : (tnF y != 0) = true := by simpa using h2
      generalize tnF y = f at *
      simp only [bad_, badV]
      clear hx hy hz h1 h2
      generalize (tnP x).1 = a at *
      generalize (tnP x).2 = b at *
      generalize (tnP y).1 = c at *
      generalize (tnP y).2 = d at *
      generalize x.kind = xk at *; generalize x.mant = xm at *; generalize x.exp = xe at *; generalize x.text = xt at *; generalize x.truth = xb at *; generalize x.fault = xf at *
      generalize y.kind = yk at *; generalize y.mant = ym at *; generalize y.exp = ye at *; generalize y.text = yt at *; generalize y.truth = yb at *; generalize y.fault = yf at *
      go_enter Tryz.func52, Tryz.ntmps52
      go_wp2_with (first | (go_at_call 25; (with_reducible refine (hlv _).mono ?_); rintro e w' ⟨rfl, hb⟩; obtain ⟨os, d, rfl⟩ := hb.more; clear hb) | (go_at_call 26; (with_reducible refine (ht1 _).mono ?_); rintro e w' ⟨rfl, hb⟩; obtain ⟨os, d, rfl⟩ := hb.more; clear hb) | (go_at_call 26; (with_reducible refine (ht2 _).mono ?_); rintro e w' ⟨rfl, hb⟩; obtain ⟨os, d, rfl⟩ := hb.more; clear hb) | (go_at_call 27; (with_reducible refine (hbad _).mono ?_); rintro e w' ⟨rfl, hb⟩; obtain ⟨os, d, rfl⟩ := hb.more; clear hb))
      exact bodyPost_ret (v := VV 4 0 0 ⟨#[]⟩ false (badF f)) (by simp [results, Tryz.results52, go_sem]) rfl ⟨rfl, by with_reducible repeat (first | exact Ext.refl _ | apply Ext.drew | apply Ext.alloc | apply Ext.more_)⟩
  · obtain rfl : z = bad_ (tnF x) := by rw [← hz]; unfold reckV; simp [h1]
    have hbad := fun W => rbad2_any (tnF x) W
    have q0 : (tnF x != 0) = true := by simpa using h1
    generalize tnF x = f at *
    simp only [bad_, badV]
    clear hx hy hz h1 ht2
    generalize (tnP x).1 = a at *
    generalize (tnP x).2 = b at *
    generalize x.kind = xk at *; generalize x.mant = xm at *; generalize x.exp = xe at *; generalize x.text = xt at *; generalize x.truth = xb at *; generalize x.fault = xf at *
    generalize y.kind = yk at *; generalize y.mant = ym at *; generalize y.exp = ye at *; generalize y.text = yt at *; generalize y.truth = yb at *; generalize y.fault = yf at *
    go_enter Tryz.func52, Tryz.ntmps52
    go_wp2_with (first | (go_at_call 25; (with_reducible refine (hlv _).mono ?_); rintro e w' ⟨rfl, hb⟩; obtain ⟨os, d, rfl⟩ := hb.more; clear hb) | (go_at_call 26; (with_reducible refine (ht1 _).mono ?_); rintro e w' ⟨rfl, hb⟩; obtain ⟨os, d, rfl⟩ := hb.more; clear hb) | (go_at_call 27; (with_reducible refine (hbad _).mono ?_); rintro e w' ⟨rfl, hb⟩; obtain ⟨os, d, rfl⟩ := hb.more; clear hb))
    exact bodyPost_ret (v := VV 4 0 0 ⟨#[]⟩ false (badF f)) (by simp [results, Tryz.results52, go_sem]) rfl ⟨rfl, by with_reducible repeat (first | exact Ext.refl _ | apply Ext.drew | apply Ext.alloc | apply Ext.more_)⟩
set_option maxHeartbeats 2000000 in
theorem of2_div (x y : Val) (w : World) (hx : x.right) (hy : y.right) (z : Val) (hz : quotV x y = z) :
    Calls Tryz.prog 52 #[.string ⟨#[47]⟩, VV x.kind x.mant x.exp x.text x.truth x.fault, VV y.kind y.mant y.exp y.text y.truth y.fault] w fun e w' => e = .returned (VV z.kind z.mant z.exp z.text z.truth z.fault) ∧ Ext w w' := by
  have hlv := fun W => rlevel_yes .div W
  simp only [Sg.key, Sg.level] at hlv
  have ht1 := fun W => rtoNum_any x W hx
  have ht2 := fun W => rtoNum_any y W hy
  simp only [tnV] at ht1 ht2
  by_cases h1 : tnF x = 0
  · rw [h1] at ht1
    by_cases h2 : tnF y = 0
    · rw [h2] at ht2
      have rx := tn_rt hx
      have ry := tn_rt hy
      by_cases h0 : (tnP y).1 = 0
      · obtain rfl : z = badV 1 := by rw [← hz]; unfold quotV; simp [h1, h2, h0]
        have q0 : ((tnP y).1 == 0) = true := by simpa using h0
        have hbad := fun W => rbad2_any 1 W
        rw [show badF 1 = 1 by decide] at hbad
        simp only [badV]
        clear hx hy hz h1 h2 rx ry h0
        generalize (tnP x).1 = a at *
        generalize (tnP x).2 = b at *
        generalize (tnP y).1 = c at *
        generalize (tnP y).2 = d at *
        generalize x.kind = xk at *; generalize x.mant = xm at *; generalize x.exp = xe at *; generalize x.text = xt at *; generalize x.truth = xb at *; generalize x.fault = xf at *
        generalize y.kind = yk at *; generalize y.mant = ym at *; generalize y.exp = ye at *; generalize y.text = yt at *; generalize y.truth = yb at *; generalize y.fault = yf at *
        go_enter Tryz.func52, Tryz.ntmps52
        go_wp2_with (first | (go_at_call 25; (with_reducible refine (hlv _).mono ?_); rintro e w' ⟨rfl, hb⟩; obtain ⟨os, d, rfl⟩ := hb.more; clear hb) | (go_at_call 26; (with_reducible refine (ht1 _).mono ?_); rintro e w' ⟨rfl, hb⟩; obtain ⟨os, d, rfl⟩ := hb.more; clear hb) | (go_at_call 26; (with_reducible refine (ht2 _).mono ?_); rintro e w' ⟨rfl, hb⟩; obtain ⟨os, d, rfl⟩ := hb.more; clear hb) | (go_at_call 27; (with_reducible refine (hbad _).mono ?_); rintro e w' ⟨rfl, hb⟩; obtain ⟨os, d, rfl⟩ := hb.more; clear hb))
        exact bodyPost_ret (v := VV 4 0 0 ⟨#[]⟩ false 1) (by simp [results, Tryz.results52, go_sem]) rfl ⟨rfl, by with_reducible repeat (first | exact Ext.refl _ | apply Ext.drew | apply Ext.alloc | apply Ext.more_)⟩
      · obtain rfl : z = numRes (divS (tnP x).1 (tnP x).2 (tnP y).1 (tnP y).2) := by rw [← hz]; unfold quotV; simp [h1, h2, h0]
        have q0 : ((tnP y).1 == 0) = false := by simpa using h0
        clear h0
        have hfn := fun W => rdiv_any (tnP x).1 (tnP x).2 (tnP y).1 (tnP y).2 W (Rt_i64 rx).1 (Rt_i64 ry).1
        have htd := fun W => rmade_any (divS (tnP x).1 (tnP x).2 (tnP y).1 (tnP y).2) W
        clear hx hy hz h1 h2 rx ry
        generalize divS (tnP x).1 (tnP x).2 (tnP y).1 (tnP y).2 = R at *
        generalize (tnP x).1 = a at *
        generalize (tnP x).2 = b at *
        generalize (tnP y).1 = c at *
        generalize (tnP y).2 = d at *
        generalize numRes R = z at *
        simp only [rnV] at hfn
        generalize x.kind = xk at *; generalize x.mant = xm at *; generalize x.exp = xe at *; generalize x.text = xt at *; generalize x.truth = xb at *; generalize x.fault = xf at *
        generalize y.kind = yk at *; generalize y.mant = ym at *; generalize y.exp = ye at *; generalize y.text = yt at *; generalize y.truth = yb at *; generalize y.fault = yf at *
        generalize z.kind = zk at *; generalize z.mant = zm at *; generalize z.exp = ze at *; generalize z.text = zt at *; generalize z.truth = zb at *; generalize z.fault = zf at *
        go_enter Tryz.func52, Tryz.ntmps52
        go_wp2_with (first | (go_at_call 25; (with_reducible refine (hlv _).mono ?_); rintro e w' ⟨rfl, hb⟩; obtain ⟨os, d, rfl⟩ := hb.more; clear hb) | (go_at_call 26; (with_reducible refine (ht1 _).mono ?_); rintro e w' ⟨rfl, hb⟩; obtain ⟨os, d, rfl⟩ := hb.more; clear hb) | (go_at_call 26; (with_reducible refine (ht2 _).mono ?_); rintro e w' ⟨rfl, hb⟩; obtain ⟨os, d, rfl⟩ := hb.more; clear hb) | (go_at_call 106; (with_reducible refine (hfn _).mono ?_); rintro e w' ⟨rfl, hb⟩; obtain ⟨os, d, rfl⟩ := hb.more; clear hb) | (go_at_call 102; (with_reducible refine (htd _).mono ?_); rintro e w' ⟨rfl, hb⟩; obtain ⟨os, d, rfl⟩ := hb.more; clear hb))
        exact bodyPost_ret (v := VV zk zm ze zt zb zf) (by simp [results, Tryz.results52, go_sem]) rfl ⟨rfl, by with_reducible repeat (first | exact Ext.refl _ | apply Ext.drew | apply Ext.alloc | apply Ext.more_)⟩
    · obtain rfl : z = bad_ (tnF y) := by rw [← hz]; unfold quotV; simp [h1, h2]
      have hbad := fun W => rbad2_any (tnF y) W
      have q0 : (tnF y != 0) = true := by simpa using h2
      generalize tnF y = f at *
      simp only [bad_, badV]
      clear hx hy hz h1 h2
      generalize (tnP x).1 = a at *
      generalize (tnP x).2 = b at *
      generalize (tnP y).1 = c at *
      generalize (tnP y).2 = d at *
      generalize x.kind = xk at *; generalize x.mant = xm at *; generalize x.exp = xe at *; generalize x.text = xt at *; generalize x.truth = xb at *; generalize x.fault = xf at *
      generalize y.kind = yk at *; generalize y.mant = ym at *; generalize y.exp = ye at *; generalize y.text = yt at *; generalize y.truth = yb at *; generalize y.fault = yf at *
      go_enter Tryz.func52, Tryz.ntmps52
      go_wp2_with (first | (go_at_call 25; (with_reducible refine (hlv _).mono ?_); rintro e w' ⟨rfl, hb⟩; obtain ⟨os, d, rfl⟩ := hb.more; clear hb) | (go_at_call 26; (with_reducible refine (ht1 _).mono ?_); rintro e w' ⟨rfl, hb⟩; obtain ⟨os, d, rfl⟩ := hb.more; clear hb) | (go_at_call 26; (with_reducible refine (ht2 _).mono ?_); rintro e w' ⟨rfl, hb⟩; obtain ⟨os, d, rfl⟩ := hb.more; clear hb) | (go_at_call 27; (with_reducible refine (hbad _).mono ?_); rintro e w' ⟨rfl, hb⟩; obtain ⟨os, d, rfl⟩ := hb.more; clear hb))
      exact bodyPost_ret (v := VV 4 0 0 ⟨#[]⟩ false (badF f)) (by simp [results, Tryz.results52, go_sem]) rfl ⟨rfl, by with_reducible repeat (first | exact Ext.refl _ | apply Ext.drew | apply Ext.alloc | apply Ext.more_)⟩
  · obtain rfl : z = bad_ (tnF x) := by rw [← hz]; unfold quotV; simp [h1]
    have hbad := fun W => rbad2_any (tnF x) W
    have q0 : (tnF x != 0) = true := by simpa using h1
    generalize tnF x = f at *
    simp only [bad_, badV]
    clear hx hy hz h1 ht2
    generalize (tnP x).1 = a at *
    generalize (tnP x).2 = b at *
    generalize x.kind = xk at *; generalize x.mant = xm at *; generalize x.exp = xe at *; generalize x.text = xt at *; generalize x.truth = xb at *; generalize x.fault = xf at *
    generalize y.kind = yk at *; generalize y.mant = ym at *; generalize y.exp = ye at *; generalize y.text = yt at *; generalize y.truth = yb at *; generalize y.fault = yf at *
    go_enter Tryz.func52, Tryz.ntmps52
    go_wp2_with (first | (go_at_call 25; (with_reducible refine (hlv _).mono ?_); rintro e w' ⟨rfl, hb⟩; obtain ⟨os, d, rfl⟩ := hb.more; clear hb) | (go_at_call 26; (with_reducible refine (ht1 _).mono ?_); rintro e w' ⟨rfl, hb⟩; obtain ⟨os, d, rfl⟩ := hb.more; clear hb) | (go_at_call 27; (with_reducible refine (hbad _).mono ?_); rintro e w' ⟨rfl, hb⟩; obtain ⟨os, d, rfl⟩ := hb.more; clear hb))
    exact bodyPost_ret (v := VV 4 0 0 ⟨#[]⟩ false (badF f)) (by simp [results, Tryz.results52, go_sem]) rfl ⟨rfl, by with_reducible repeat (first | exact Ext.refl _ | apply Ext.drew | apply Ext.alloc | apply Ext.more_)⟩
set_option maxHeartbeats 2000000 in
theorem of2_pow (x y : Val) (w : World) (hx : x.right) (hy : y.right) (z : Val) (hz : powV x y = z) :
    Calls Tryz.prog 52 #[.string ⟨#[94]⟩, VV x.kind x.mant x.exp x.text x.truth x.fault, VV y.kind y.mant y.exp y.text y.truth y.fault] w fun e w' => e = .returned (VV z.kind z.mant z.exp z.text z.truth z.fault) ∧ Ext w w' := by
  have hlv := fun W => rlevel_yes .pow W
  simp only [Sg.key, Sg.level] at hlv
  have ht1 := fun W => rtoNum_any x W hx
  have ht2 := fun W => rtoNum_any y W hy
  simp only [tnV] at ht1 ht2
  by_cases h1 : tnF x = 0
  · rw [h1] at ht1
    by_cases h2 : tnF y = 0
    · rw [h2] at ht2
      have rx := tn_rt hx
      have ry := tn_rt hy
      have hin := fun W => rint_any (tnP y).1 (tnP y).2 W (Rt_i64 ry).1
      simp only [inV] at hin
      have hfw := floor_whole ry
      by_cases he : (tnP y).2 < 0
      · have hne : floorS (tnP y).1 (tnP y).2 ≠ tnP y := fun h => by have := hfw.1 h; omega
        obtain rfl : z = badV 5 := by rw [← hz]; unfold powV; simp [h1, h2, hne]
        have q0 : decide ((tnP y).2 < 0) = true := decide_eq_true he
        have hbad := fun W => rbad2_any 5 W
        rw [show badF 5 = 5 by decide] at hbad
        simp only [badV]
        clear hx hy hz h1 h2 rx ry he hne hfw
        generalize hI : intS (tnP y).1 (tnP y).2 = I at *
        generalize (tnP x).1 = a at *
        generalize (tnP x).2 = b at *
        generalize (tnP y).1 = c at *
        generalize (tnP y).2 = d at *
        generalize x.kind = xk at *; generalize x.mant = xm at *; generalize x.exp = xe at *; generalize x.text = xt at *; generalize x.truth = xb at *; generalize x.fault = xf at *
        generalize y.kind = yk at *; generalize y.mant = ym at *; generalize y.exp = ye at *; generalize y.text = yt at *; generalize y.truth = yb at *; generalize y.fault = yf at *
        go_enter Tryz.func52, Tryz.ntmps52
        go_wp2_with (first | (go_at_call 25; (with_reducible refine (hlv _).mono ?_); rintro e w' ⟨rfl, hb⟩; obtain ⟨os, d, rfl⟩ := hb.more; clear hb) | (go_at_call 26; (with_reducible refine (ht1 _).mono ?_); rintro e w' ⟨rfl, hb⟩; obtain ⟨os, d, rfl⟩ := hb.more; clear hb) | (go_at_call 26; (with_reducible refine (ht2 _).mono ?_); rintro e w' ⟨rfl, hb⟩; obtain ⟨os, d, rfl⟩ := hb.more; clear hb) | (go_at_call 40; (with_reducible refine (hin _).mono ?_); rintro e w' ⟨rfl, hb⟩; obtain ⟨os, d, rfl⟩ := hb.more; clear hb) | (go_at_call 27; (with_reducible refine (hbad _).mono ?_); rintro e w' ⟨rfl, hb⟩; obtain ⟨os, d, rfl⟩ := hb.more; clear hb))
        exact bodyPost_ret (v := VV 4 0 0 ⟨#[]⟩ false 5) (by simp [results, Tryz.results52, go_sem]) rfl ⟨rfl, by with_reducible repeat (first | exact Ext.refl _ | apply Ext.drew | apply Ext.alloc | apply Ext.more_)⟩
      · have heq : floorS (tnP y).1 (tnP y).2 = tnP y := hfw.2 (by omega)
        have q0 : decide ((tnP y).2 < 0) = false := decide_eq_false he
        clear hfw
        by_cases hd : (tnP x).1 = 0 ∧ (tnP y).1 < 0
        · obtain rfl : z = badV 1 := by rw [← hz]; unfold powV; simp [h1, h2, heq, hd]
          have q1 : ((tnP x).1 == 0) = true := by simpa using hd.1
          have q2 : decide ((tnP y).1 < 0) = true := decide_eq_true hd.2
          have hbad := fun W => rbad2_any 1 W
          rw [show badF 1 = 1 by decide] at hbad
          simp only [badV]
          clear hx hy hz h1 h2 rx ry he heq hd
          generalize hI : intS (tnP y).1 (tnP y).2 = I at *
          generalize (tnP x).1 = a at *
          generalize (tnP x).2 = b at *
          generalize (tnP y).1 = c at *
          generalize (tnP y).2 = d at *
          generalize x.kind = xk at *; generalize x.mant = xm at *; generalize x.exp = xe at *; generalize x.text = xt at *; generalize x.truth = xb at *; generalize x.fault = xf at *
          generalize y.kind = yk at *; generalize y.mant = ym at *; generalize y.exp = ye at *; generalize y.text = yt at *; generalize y.truth = yb at *; generalize y.fault = yf at *
          go_enter Tryz.func52, Tryz.ntmps52
          go_wp2_with (first | (go_at_call 25; (with_reducible refine (hlv _).mono ?_); rintro e w' ⟨rfl, hb⟩; obtain ⟨os, d, rfl⟩ := hb.more; clear hb) | (go_at_call 26; (with_reducible refine (ht1 _).mono ?_); rintro e w' ⟨rfl, hb⟩; obtain ⟨os, d, rfl⟩ := hb.more; clear hb) | (go_at_call 26; (with_reducible refine (ht2 _).mono ?_); rintro e w' ⟨rfl, hb⟩; obtain ⟨os, d, rfl⟩ := hb.more; clear hb) | (go_at_call 40; (with_reducible refine (hin _).mono ?_); rintro e w' ⟨rfl, hb⟩; obtain ⟨os, d, rfl⟩ := hb.more; clear hb) | (go_at_call 27; (with_reducible refine (hbad _).mono ?_); rintro e w' ⟨rfl, hb⟩; obtain ⟨os, d, rfl⟩ := hb.more; clear hb))
          exact bodyPost_ret (v := VV 4 0 0 ⟨#[]⟩ false 1) (by simp [results, Tryz.results52, go_sem]) rfl ⟨rfl, by with_reducible repeat (first | exact Ext.refl _ | apply Ext.drew | apply Ext.alloc | apply Ext.more_)⟩
        · by_cases ha0 : (tnP x).1 = 0
          · have q1 : ((tnP x).1 == 0) = true := by simpa using ha0
            have q2 : decide ((tnP y).1 < 0) = false := decide_eq_false (fun h => hd ⟨ha0, h⟩)
            clear ha0
            cases hI0 : intS (tnP y).1 (tnP y).2 with
            | none =>
              obtain rfl : z = badV 5 := by rw [← hz]; unfold powV; simp [h1, h2, heq, hd, hI0]
              rw [hI0] at hin
              simp only [Option.getD_none, Option.isSome_none] at hin
              have hbad := fun W => rbad2_any 5 W
              rw [show badF 5 = 5 by decide] at hbad
              simp only [badV]
              clear hx hy hz h1 h2 rx ry he heq hd hI0
              generalize (tnP x).1 = a at *
              generalize (tnP x).2 = b at *
              generalize (tnP y).1 = c at *
              generalize (tnP y).2 = d at *
              generalize x.kind = xk at *; generalize x.mant = xm at *; generalize x.exp = xe at *; generalize x.text = xt at *; generalize x.truth = xb at *; generalize x.fault = xf at *
              generalize y.kind = yk at *; generalize y.mant = ym at *; generalize y.exp = ye at *; generalize y.text = yt at *; generalize y.truth = yb at *; generalize y.fault = yf at *
              go_enter Tryz.func52, Tryz.ntmps52
              go_wp2_with (first | (go_at_call 25; (with_reducible refine (hlv _).mono ?_); rintro e w' ⟨rfl, hb⟩; obtain ⟨os, d, rfl⟩ := hb.more; clear hb) | (go_at_call 26; (with_reducible refine (ht1 _).mono ?_); rintro e w' ⟨rfl, hb⟩; obtain ⟨os, d, rfl⟩ := hb.more; clear hb) | (go_at_call 26; (with_reducible refine (ht2 _).mono ?_); rintro e w' ⟨rfl, hb⟩; obtain ⟨os, d, rfl⟩ := hb.more; clear hb) | (go_at_call 40; (with_reducible refine (hin _).mono ?_); rintro e w' ⟨rfl, hb⟩; obtain ⟨os, d, rfl⟩ := hb.more; clear hb) | (go_at_call 27; (with_reducible refine (hbad _).mono ?_); rintro e w' ⟨rfl, hb⟩; obtain ⟨os, d, rfl⟩ := hb.more; clear hb))
              exact bodyPost_ret (v := VV 4 0 0 ⟨#[]⟩ false 5) (by simp [results, Tryz.results52, go_sem]) rfl ⟨rfl, by with_reducible repeat (first | exact Ext.refl _ | apply Ext.drew | apply Ext.alloc | apply Ext.more_)⟩
            | some n =>
              obtain rfl : z = numRes (powS (tnP x).1 (tnP x).2 n) := by rw [← hz]; unfold powV; simp [h1, h2, heq, hd, hI0]
              rw [hI0] at hin
              simp only [Option.getD_some, Option.isSome_some] at hin
              have hni := intS_i64 hI0
              have hfn := fun W => rpow_any (tnP x).1 (tnP x).2 n W (Rt_i64 rx).1 hni
              have htd := fun W => rmade_any (powS (tnP x).1 (tnP x).2 n) W
              clear hx hy hz h1 h2 rx ry he heq hd hI0 hni
              generalize powS (tnP x).1 (tnP x).2 n = R at *
              generalize (tnP x).1 = a at *
              generalize (tnP x).2 = b at *
              generalize (tnP y).1 = c at *
              generalize (tnP y).2 = d at *
              generalize numRes R = z at *
              simp only [rnV] at hfn
              generalize x.kind = xk at *; generalize x.mant = xm at *; generalize x.exp = xe at *; generalize x.text = xt at *; generalize x.truth = xb at *; generalize x.fault = xf at *
              generalize y.kind = yk at *; generalize y.mant = ym at *; generalize y.exp = ye at *; generalize y.text = yt at *; generalize y.truth = yb at *; generalize y.fault = yf at *
              generalize z.kind = zk at *; generalize z.mant = zm at *; generalize z.exp = ze at *; generalize z.text = zt at *; generalize z.truth = zb at *; generalize z.fault = zf at *
              go_enter Tryz.func52, Tryz.ntmps52
              go_wp2_with (first | (go_at_call 25; (with_reducible refine (hlv _).mono ?_); rintro e w' ⟨rfl, hb⟩; obtain ⟨os, d, rfl⟩ := hb.more; clear hb) | (go_at_call 26; (with_reducible refine (ht1 _).mono ?_); rintro e w' ⟨rfl, hb⟩; obtain ⟨os, d, rfl⟩ := hb.more; clear hb) | (go_at_call 26; (with_reducible refine (ht2 _).mono ?_); rintro e w' ⟨rfl, hb⟩; obtain ⟨os, d, rfl⟩ := hb.more; clear hb) | (go_at_call 40; (with_reducible refine (hin _).mono ?_); rintro e w' ⟨rfl, hb⟩; obtain ⟨os, d, rfl⟩ := hb.more; clear hb) | (go_at_call 107; (with_reducible refine (hfn _).mono ?_); rintro e w' ⟨rfl, hb⟩; obtain ⟨os, d, rfl⟩ := hb.more; clear hb) | (go_at_call 102; (with_reducible refine (htd _).mono ?_); rintro e w' ⟨rfl, hb⟩; obtain ⟨os, d, rfl⟩ := hb.more; clear hb))
              exact bodyPost_ret (v := VV zk zm ze zt zb zf) (by simp [results, Tryz.results52, go_sem]) rfl ⟨rfl, by with_reducible repeat (first | exact Ext.refl _ | apply Ext.drew | apply Ext.alloc | apply Ext.more_)⟩
          · have q1 : ((tnP x).1 == 0) = false := by simpa using ha0
            clear ha0
            cases hI0 : intS (tnP y).1 (tnP y).2 with
            | none =>
              obtain rfl : z = badV 5 := by rw [← hz]; unfold powV; simp [h1, h2, heq, hd, hI0]
              rw [hI0] at hin
              simp only [Option.getD_none, Option.isSome_none] at hin
              have hbad := fun W => rbad2_any 5 W
              rw [show badF 5 = 5 by decide] at hbad
              simp only [badV]
              clear hx hy hz h1 h2 rx ry he heq hd hI0
              generalize (tnP x).1 = a at *
              generalize (tnP x).2 = b at *
              generalize (tnP y).1 = c at *
              generalize (tnP y).2 = d at *
              generalize x.kind = xk at *; generalize x.mant = xm at *; generalize x.exp = xe at *; generalize x.text = xt at *; generalize x.truth = xb at *; generalize x.fault = xf at *
              generalize y.kind = yk at *; generalize y.mant = ym at *; generalize y.exp = ye at *; generalize y.text = yt at *; generalize y.truth = yb at *; generalize y.fault = yf at *
              go_enter Tryz.func52, Tryz.ntmps52
              go_wp2_with (first | (go_at_call 25; (with_reducible refine (hlv _).mono ?_); rintro e w' ⟨rfl, hb⟩; obtain ⟨os, d, rfl⟩ := hb.more; clear hb) | (go_at_call 26; (with_reducible refine (ht1 _).mono ?_); rintro e w' ⟨rfl, hb⟩; obtain ⟨os, d, rfl⟩ := hb.more; clear hb) | (go_at_call 26; (with_reducible refine (ht2 _).mono ?_); rintro e w' ⟨rfl, hb⟩; obtain ⟨os, d, rfl⟩ := hb.more; clear hb) | (go_at_call 40; (with_reducible refine (hin _).mono ?_); rintro e w' ⟨rfl, hb⟩; obtain ⟨os, d, rfl⟩ := hb.more; clear hb) | (go_at_call 27; (with_reducible refine (hbad _).mono ?_); rintro e w' ⟨rfl, hb⟩; obtain ⟨os, d, rfl⟩ := hb.more; clear hb))
              exact bodyPost_ret (v := VV 4 0 0 ⟨#[]⟩ false 5) (by simp [results, Tryz.results52, go_sem]) rfl ⟨rfl, by with_reducible repeat (first | exact Ext.refl _ | apply Ext.drew | apply Ext.alloc | apply Ext.more_)⟩
            | some n =>
              obtain rfl : z = numRes (powS (tnP x).1 (tnP x).2 n) := by rw [← hz]; unfold powV; simp [h1, h2, heq, hd, hI0]
              rw [hI0] at hin
              simp only [Option.getD_some, Option.isSome_some] at hin
              have hni := intS_i64 hI0
              have hfn := fun W => rpow_any (tnP x).1 (tnP x).2 n W (Rt_i64 rx).1 hni
              have htd := fun W => rmade_any (powS (tnP x).1 (tnP x).2 n) W
              clear hx hy hz h1 h2 rx ry he heq hd hI0 hni
              generalize powS (tnP x).1 (tnP x).2 n = R at *
              generalize (tnP x).1 = a at *
              generalize (tnP x).2 = b at *
              generalize (tnP y).1 = c at *
              generalize (tnP y).2 = d at *
              generalize numRes R = z at *
              simp only [rnV] at hfn
              generalize x.kind = xk at *; generalize x.mant = xm at *; generalize x.exp = xe at *; generalize x.text = xt at *; generalize x.truth = xb at *; generalize x.fault = xf at *
              generalize y.kind = yk at *; generalize y.mant = ym at *; generalize y.exp = ye at *; generalize y.text = yt at *; generalize y.truth = yb at *; generalize y.fault = yf at *
              generalize z.kind = zk at *; generalize z.mant = zm at *; generalize z.exp = ze at *; generalize z.text = zt at *; generalize z.truth = zb at *; generalize z.fault = zf at *
              go_enter Tryz.func52, Tryz.ntmps52
              go_wp2_with (first | (go_at_call 25; (with_reducible refine (hlv _).mono ?_); rintro e w' ⟨rfl, hb⟩; obtain ⟨os, d, rfl⟩ := hb.more; clear hb) | (go_at_call 26; (with_reducible refine (ht1 _).mono ?_); rintro e w' ⟨rfl, hb⟩; obtain ⟨os, d, rfl⟩ := hb.more; clear hb) | (go_at_call 26; (with_reducible refine (ht2 _).mono ?_); rintro e w' ⟨rfl, hb⟩; obtain ⟨os, d, rfl⟩ := hb.more; clear hb) | (go_at_call 40; (with_reducible refine (hin _).mono ?_); rintro e w' ⟨rfl, hb⟩; obtain ⟨os, d, rfl⟩ := hb.more; clear hb) | (go_at_call 107; (with_reducible refine (hfn _).mono ?_); rintro e w' ⟨rfl, hb⟩; obtain ⟨os, d, rfl⟩ := hb.more; clear hb) | (go_at_call 102; (with_reducible refine (htd _).mono ?_); rintro e w' ⟨rfl, hb⟩; obtain ⟨os, d, rfl⟩ := hb.more; clear hb))
              exact bodyPost_ret (v := VV zk zm ze zt zb zf) (by simp [results, Tryz.results52, go_sem]) rfl ⟨rfl, by with_reducible repeat (first | exact Ext.refl _ | apply Ext.drew | apply Ext.alloc | apply Ext.more_)⟩
    · obtain rfl : z = bad_ (tnF y) := by rw [← hz]; unfold powV; simp [h1, h2]
      have hbad := fun W => rbad2_any (tnF y) W
      have q0 : (tnF y != 0) = true := by simpa using h2
      generalize tnF y = f at *
      simp only [bad_, badV]
      clear hx hy hz h1 h2
      generalize (tnP x).1 = a at *
      generalize (tnP x).2 = b at *
      generalize (tnP y).1 = c at *
      generalize (tnP y).2 = d at *
      generalize x.kind = xk at *; generalize x.mant = xm at *; generalize x.exp = xe at *; generalize x.text = xt at *; generalize x.truth = xb at *; generalize x.fault = xf at *
      generalize y.kind = yk at *; generalize y.mant = ym at *; generalize y.exp = ye at *; generalize y.text = yt at *; generalize y.truth = yb at *; generalize y.fault = yf at *
      go_enter Tryz.func52, Tryz.ntmps52
      go_wp2_with (first | (go_at_call 25; (with_reducible refine (hlv _).mono ?_); rintro e w' ⟨rfl, hb⟩; obtain ⟨os, d, rfl⟩ := hb.more; clear hb) | (go_at_call 26; (with_reducible refine (ht1 _).mono ?_); rintro e w' ⟨rfl, hb⟩; obtain ⟨os, d, rfl⟩ := hb.more; clear hb) | (go_at_call 26; (with_reducible refine (ht2 _).mono ?_); rintro e w' ⟨rfl, hb⟩; obtain ⟨os, d, rfl⟩ := hb.more; clear hb) | (go_at_call 27; (with_reducible refine (hbad _).mono ?_); rintro e w' ⟨rfl, hb⟩; obtain ⟨os, d, rfl⟩ := hb.more; clear hb))
      exact bodyPost_ret (v := VV 4 0 0 ⟨#[]⟩ false (badF f)) (by simp [results, Tryz.results52, go_sem]) rfl ⟨rfl, by with_reducible repeat (first | exact Ext.refl _ | apply Ext.drew | apply Ext.alloc | apply Ext.more_)⟩
  · obtain rfl : z = bad_ (tnF x) := by rw [← hz]; unfold powV; simp [h1]
    have hbad := fun W => rbad2_any (tnF x) W
    have q0 : (tnF x != 0) = true := by simpa using h1
    generalize tnF x = f at *
    simp only [bad_, badV]
    clear hx hy hz h1 ht2
    generalize (tnP x).1 = a at *
    generalize (tnP x).2 = b at *
    generalize x.kind = xk at *; generalize x.mant = xm at *; generalize x.exp = xe at *; generalize x.text = xt at *; generalize x.truth = xb at *; generalize x.fault = xf at *
    generalize y.kind = yk at *; generalize y.mant = ym at *; generalize y.exp = ye at *; generalize y.text = yt at *; generalize y.truth = yb at *; generalize y.fault = yf at *
    go_enter Tryz.func52, Tryz.ntmps52
    go_wp2_with (first | (go_at_call 25; (with_reducible refine (hlv _).mono ?_); rintro e w' ⟨rfl, hb⟩; obtain ⟨os, d, rfl⟩ := hb.more; clear hb) | (go_at_call 26; (with_reducible refine (ht1 _).mono ?_); rintro e w' ⟨rfl, hb⟩; obtain ⟨os, d, rfl⟩ := hb.more; clear hb) | (go_at_call 27; (with_reducible refine (hbad _).mono ?_); rintro e w' ⟨rfl, hb⟩; obtain ⟨os, d, rfl⟩ := hb.more; clear hb))
    exact bodyPost_ret (v := VV 4 0 0 ⟨#[]⟩ false (badF f)) (by simp [results, Tryz.results52, go_sem]) rfl ⟨rfl, by with_reducible repeat (first | exact Ext.refl _ | apply Ext.drew | apply Ext.alloc | apply Ext.more_)⟩
end Go.Proofs.YteigcfflljoioaaGreatDoor
namespace Go.Proofs.YteigcfflljoioaaGreatDoor
open Go.RowKit NM
theorem oneV_right {x : Val} (h : valRight x = true) : oneV x = x := by unfold oneV; rw [if_pos h]
theorem each_right {t : Val → Val} {R C : Nat} {l : List Val} (hr : rightA R C l = true) (ht : ∀ x, x.right → (t x).right) : eachRes t R C l = ⟨R, C, l.map t⟩ := by
  unfold eachRes
  rw [if_pos hr, Int.toNat_natCast, Int.toNat_natCast]
  congr 1
  refine List.map_congr_left fun x hx => oneV_right (ht x ((rightA_nat.1 hr).2.2.2.2 x hx))
theorem each_wrong {t : Val → Val} {r c : Int} {l : List Val} (hr : rightA r c l = false) : eachRes t r c l = ⟨1, 1, [bad9]⟩ := by
  unfold eachRes; rw [hr]; rfl
theorem neg_right (x : Val) (h : x.right) : (negV x).right := right_reck (fun _ _ _ _ _ => subS_rt) _ _
theorem cent_right (x : Val) (h : x.right) : (centV x).right := right_reck (fun _ _ _ _ _ => divS_rt) _ _
theorem map_take {t : Val → Val} {l : List Val} {k : Nat} (h : k < l.length) : (l.map t).take (k + 1) = (l.map t).take k ++ [t (getV l k)] := by
  rw [List.take_succ_eq_append_getElem (by rw [List.length_map]; exact h), List.getElem_map, getV_lt h]
theorem runary_no (s : ByteArray) (r c : Int) (A : Option Addr) (n cap : Nat) (w : World) (h1 : (s.toList == [43]) = false) (h2 : (s.toList == [45]) = false) (h3 : (s.toList == [37]) = false) :
    Calls Tryz.prog 34 #[.string s, AV r c (.slice A n cap)] w fun e w' => e = .returned (.tuple #[AV 0 0 (.slice none 0 0), .bool false]) ∧ Ext w w' := by
  go_enter Tryz.func34, Tryz.ntmps34
  go_wp2_with fail
  exact bodyPost_ret (v := .tuple #[AV 0 0 (.slice none 0 0), .bool false]) (by simp [results, Tryz.results34, go_sem]) rfl ⟨rfl, by with_reducible repeat (first | exact Ext.refl _ | exact ext_app _ _ _ _ _ | apply Ext.drew | apply Ext.alloc | apply Ext.more_)⟩
set_option maxHeartbeats 1000000 in
theorem runary_plus (r c : Int) (A : Option Addr) (n cap : Nat) (l : List Val) (w : World) (h : ArrIn w A n cap l) (x : NA) (hx : eachRes (fun v => v) r c l = x) :
    Calls Tryz.prog 34 #[.string ⟨#[43]⟩, AV r c (.slice A n cap)] w fun e w' => ∃ D m cc, e = .returned (.tuple #[AV x.R x.C (.slice D m cc), .bool true]) ∧ ArrN w.heap.size w' D m cc x.l ∧ Ext w w' := by
  cases hr : rightA r c l with
  | false =>
    have hrr : refRightA r c l = false := by rw [← rightA_eq _ _ l h.ok]; exact hr
    rw [each_wrong hr] at hx
    subst hx
    go_enter Tryz.func34, Tryz.ntmps34
    go_wp2_with fail
    refine (refRightA_any _ _ _ _ _ _ _ (h.ext (by with_reducible repeat (first | exact Ext.refl _ | exact ext_app _ _ _ _ _ | apply Ext.drew | apply Ext.alloc | apply Ext.more_)))).mono ?_; rintro e w' ⟨rfl, hb⟩; obtain ⟨os1, d1, rfl⟩ := hb.more; clear hb
    go_wp2_with fail
    refine (refBad_any 9 _).mono ?_
    rintro e w' ⟨⟨D, cc, rfl, hs, hcc⟩, hb⟩
    obtain ⟨os2, d2, rfl⟩ := hb.more
    clear hb
    go_wp2_with fail
    exact bodyPost_ret (v := .tuple #[AV 1 1 (.slice D 1 cc), .bool true]) (by simp [results, Tryz.results34, go_sem]) rfl ⟨D, 1, cc, rfl, ⟨(by (try simp only [more_more] at hs); (try simp only [drew_more] at hs); (try simp only [more_drew] at hs); (try simp only [Array.append_assoc] at hs); exact Rd.swap hs (by first | (simp; done) | (simp; omega) | omega) (by first | (simp; done) | (simp; omega) | omega) (by first | (simp; done) | (simp; omega) | omega)), rfl, hcc, by omega, by simpa using bad9_ok⟩, by with_reducible repeat (first | exact Ext.refl _ | exact ext_app _ _ _ _ _ | apply Ext.drew | apply Ext.alloc | apply Ext.more_)⟩
  | true =>
    obtain ⟨i0, hi0, hz0, hz1, hz2⟩ := info_parts info_val
    have hrr : refRightA r c l = true := by rw [← rightA_eq _ _ l h.ok]; exact hr
    obtain ⟨R, C, rfl, rfl, _⟩ := right_parts hr
    rw [each_right hr (fun _ h => h)] at hx
    subst hx
    obtain ⟨r1, r2, r3, r4, r5, r6⟩ := right_bd hr
    have HRR := Lib.hid (rightA_nat.1 hr).2.2.2.2
    have hln := h.len
    have hN : n ≤ 4096 := by omega
    have HN := Lib.hid (And.intro hln (show n = R * C by omega))
    clear r3 r4 hln
    go_enter Tryz.func34, Tryz.ntmps34
    go_wp2_with fail
    refine (refRightA_any _ _ _ _ _ _ _ (h.ext (by with_reducible repeat (first | exact Ext.refl _ | exact ext_app _ _ _ _ _ | apply Ext.drew | apply Ext.alloc | apply Ext.more_)))).mono ?_; rintro e w' ⟨rfl, hb⟩; obtain ⟨os1, d1, rfl⟩ := hb.more; clear hb
    go_wp2_with fail
    have hacc0 := Acc.start (more ((w.alloc (.cells #[.int .i64 R, .int .i64 C, .slice A n cap] 34)).alloc (.cells #[.int .i64 0, .int .i64 0, .slice none 0 0] 34)) os1 d1) R C
    go_loopw [7] (fun i wr => ∃ (k cp : Nat) (G : Option Addr), k ≤ n ∧ i = .int .i64 k ∧ Acc (more ((w.alloc (.cells #[.int .i64 R, .int .i64 C, .slice A n cap] 34)).alloc (.cells #[.int .i64 0, .int .i64 0, .slice none 0 0] 34)) os1 d1) (w.heap.size + 1 + 1 + os1.size) R C G cp k ((l.map (fun v => v)).take k) wr) (fun i _ => n - (intOf i).toNat)
    case atStart => exact ⟨0, 0, none, Nat.zero_le _, rfl, by simpa using hacc0⟩
    case round =>
      clear hacc0
      obtain ⟨k, cp, G, hk, rfl, hacc⟩ := hrel
      have hlt0 := hacc.lt
      have p2 : wr.cell? ⟨w.heap.size, 2, none⟩ = some (.slice A n cap) := hacc.ext.cell_some (by simp [go_sem])
      by_cases hlt : k < n
      · obtain ⟨b, off, rfl, hv, hxo⟩ := h.get hlt
        have hxr : (getV l k).right := HRR.out _ (getV_mem (by rw [HN.out.1]; exact hlt))
        have hmt := map_take (t := fun v => v) (l := l) (k := k) (by rw [HN.out.1]; exact hlt)
        obtain ⟨v0, v1, v2, v3, v4, v5⟩ := hv
        have hbl := lt_of_cell v0
        generalize hz : getV l k = z
        have HZ := Lib.hid hmt
        clear hmt
        go_wp2
        clear p2
        refine wp_plan (S := AccS _ _ _ _ _ _ _) [(0, 0), (1, 0), (2, 0), (3, 0), (4, 0), (5, 0), (6, 0), (7, 0), (8, 1), (9, 1), (10, 1), (11, 0), (12, 2)] [12] (by kernel_rfl) (by kernel_rfl) (by kernel_rfl) (fun _ _ d _ _ h => by cases d <;> exact h) ⟨(hacc.of_ext (by repeat (first | exact Ext.refl _ | (with_reducible (first | exact ext_d _ _ _ _ | exact ext_app _ _ _ _ _ | apply Ext.drew | apply Ext.alloc | apply Ext.more_)) | apply Ext.drew | apply Ext.alloc | apply Ext.more_))).ext, (hacc.of_ext (by repeat (first | exact Ext.refl _ | (with_reducible (first | exact ext_d _ _ _ _ | exact ext_app _ _ _ _ _ | apply Ext.drew | apply Ext.alloc | apply Ext.more_)) | apply Ext.drew | apply Ext.alloc | apply Ext.more_))).row⟩ ?_
        iterate 8 ((refine wpPl_read (v := ?_) rfl ?_ (fun w1 h1 => ?_) ?_; rotate_left 1; rfl; (obtain ⟨h1e, h1r⟩ := h1; have c2 := cell_of_row _ _ 2 _ _ _ h1r; clear h1r; obtain ⟨os1, d1, rfl⟩ := h1e.more; (try simp only [more_more, Array.append_assoc] at c2); go_simp; first | done | rfl)); try simp only [Act.put, zqA, zqB, zqC])
        (refine wpPl_eff rfl ?_ (fun K hK => ?_); rfl; go_simp; refine (of1_plus z _).mono ?_; rintro e w' ⟨rfl, hb⟩; obtain ⟨os, d, rfl⟩ := hb.more; clear hb; refine hK _ _ ⟨(hacc.of_ext (by repeat (first | exact Ext.refl _ | (with_reducible (first | exact ext_d _ _ _ _ | exact ext_app _ _ _ _ _ | apply Ext.drew | apply Ext.alloc | apply Ext.more_)) | apply Ext.drew | apply Ext.alloc | apply Ext.more_))).ext, (hacc.of_ext (by repeat (first | exact Ext.refl _ | (with_reducible (first | exact ext_d _ _ _ _ | exact ext_app _ _ _ _ _ | apply Ext.drew | apply Ext.alloc | apply Ext.more_)) | apply Ext.drew | apply Ext.alloc | apply Ext.more_))).row⟩ ?_)
        try simp only [Act.put, zqA, zqB, zqC]
        (refine wpPl_eff rfl ?_ (fun K hK => ?_); rfl; go_simp; refine hK _ _ ⟨(hacc.of_ext (by repeat (first | exact Ext.refl _ | (with_reducible (first | exact ext_d _ _ _ _ | exact ext_app _ _ _ _ _ | apply Ext.drew | apply Ext.alloc | apply Ext.more_)) | apply Ext.drew | apply Ext.alloc | apply Ext.more_))).ext, (hacc.of_ext (by repeat (first | exact Ext.refl _ | (with_reducible (first | exact ext_d _ _ _ _ | exact ext_app _ _ _ _ _ | apply Ext.drew | apply Ext.alloc | apply Ext.more_)) | apply Ext.drew | apply Ext.alloc | apply Ext.more_))).row⟩ ?_)
        try simp only [Act.put, zqA, zqB, zqC]
        (refine wpPl_eff rfl ?_ (fun K hK => ?_); rfl)
        refine wp_append_own _ _ _ _ rfl _ 26 i0 (VV 0 0 0 ⟨#[]⟩ false 0) 6 56 Tryz.underlying22 hi0 hz0 hz1 hz2 rfl (by decide) _ _ _ rfl (own_ext hacc.own (by repeat (first | exact Ext.refl _ | (with_reducible (first | exact ext_d _ _ _ _ | exact ext_app _ _ _ _ _ | apply Ext.drew | apply Ext.alloc | apply Ext.more_)) | apply Ext.drew | apply Ext.alloc | apply Ext.more_))) _ 1 1 (Val.cells z) rfl rfl (new_cells_at _ _ _ (by simp) rfl _) (cells_one _) (by simp only [maxLen]; omega) (by omega) (by have := hacc.lt; simp; omega) ?_
        intro v3 w3 ho3 hg3
        obtain ⟨A2, cap2, rfl, hrow3, hex3, hacc2⟩ := hacc.step (by repeat (first | exact Ext.refl _ | (with_reducible (first | exact ext_d _ _ _ _ | exact ext_app _ _ _ _ _ | apply Ext.drew | apply Ext.alloc | apply Ext.more_)) | apply Ext.drew | apply Ext.alloc | apply Ext.more_)) hg3 ho3
        refine hK _ _ ⟨hex3, hrow3⟩ ?_
        try simp only [Act.put, zqA, zqB, zqC]
        (refine wpPl_read (v := ?_) rfl ?_ (fun w1 h1 => ?_) ?_; rotate_left 1; rfl; (obtain ⟨h1e, h1r⟩ := h1; have c2 := cell_of_row _ _ 2 _ _ _ h1r; clear h1r; obtain ⟨os1, d1, rfl⟩ := h1e.more; (try simp only [more_more, Array.append_assoc] at c2); go_simp; first | done | rfl))
        try simp only [Act.put, zqA, zqB, zqC]
        have c2 := cell_of_row _ _ 2 _ _ _ hrow3
        have f2 := frozen_of_row _ _ 2 _ _ hrow3
        clear hrow3 hex3 hg3 ho3
        (refine wpPl_tail rfl ?_ (fun K hK => ?_); rfl; go_simp; refine hK _ _ ?_)
        clear c2 f2
        try simp only [Act.put]
        refine wpPl_nil ?_
        go_wp2
        refine ⟨⟨k + 1, cap2, A2, by omega, by go_num, ?_⟩, by simp [intOf]; omega⟩
        rw [HZ.out, hz]
        exact hacc2
      · obtain rfl : k = n := by omega
        have q0 : wr.cell? ⟨w.heap.size + 1, 0, none⟩ = some (.int .i64 0) := hacc.ext.cell_some (by simp [go_sem]); have q1 : wr.cell? ⟨w.heap.size + 1, 1, none⟩ = some (.int .i64 0) := hacc.ext.cell_some (by simp [go_sem]); have q2 : wr.cell? ⟨w.heap.size + 1, 2, none⟩ = some (.slice none 0 0) := hacc.ext.cell_some (by simp [go_sem]); have q3 : wr.frozen? ⟨w.heap.size + 1, 0, none⟩ = false := (hacc.ext.frozen (p := ⟨w.heap.size + 1, 0, none⟩) (by simp; try omega)).trans (by simp [go_sem]); have q4 : wr.frozen? ⟨w.heap.size + 1, 1, none⟩ = false := (hacc.ext.frozen (p := ⟨w.heap.size + 1, 1, none⟩) (by simp; try omega)).trans (by simp [go_sem]); have q5 : wr.frozen? ⟨w.heap.size + 1, 2, none⟩ = false := (hacc.ext.frozen (p := ⟨w.heap.size + 1, 2, none⟩) (by simp; try omega)).trans (by simp [go_sem]); have c0 := cell_of_row _ _ 0 _ _ _ hacc.row; have c1 := cell_of_row _ _ 1 _ _ _ hacc.row; have c2 := cell_of_row _ _ 2 _ _ _ hacc.row
        go_wp2
        obtain ⟨hrd, hcp⟩ := hacc.rd
        have hl : (l.map (fun v => v)).take k = l.map (fun v => v) := List.take_of_length_le (by rw [List.length_map, HN.out.1]; exact Nat.le_refl _)
        rw [hl] at hrd
        refine bodyPost_ret (v := .tuple #[AV R C (.slice G k cp), .bool true]) (by simp [results, Tryz.results34, go_sem, q0, q1, q2]) rfl ⟨G, k, cp, rfl, ⟨?_, by rw [List.length_map, HN.out.1], hcp, by omega, ?_⟩, ?_⟩
        · exact Rd.mono (((hrd.set_far _ (by first | (simp; done) | (simp; omega) | omega)).set_far _ (by first | (simp; done) | (simp; omega) | omega)).set_far _ (by first | (simp; done) | (simp; omega) | omega)) (by omega)
        · intro y hy
          obtain ⟨v, hv, rfl⟩ := List.mem_map.1 hy
          exact Val.right.ok ((fun _ h => h) v (HRR.out v hv))
        · exact Ext.set (Ext.set (Ext.set (Ext.trans (by with_reducible repeat (first | exact Ext.refl _ | exact ext_app _ _ _ _ _ | apply Ext.drew | apply Ext.alloc | apply Ext.more_)) hacc.ext) _ (by first | (simp; done) | (simp; omega) | omega)) _ (by first | (simp; done) | (simp; omega) | omega)) _ (by first | (simp; done) | (simp; omega) | omega)
set_option maxHeartbeats 1000000 in
theorem runary_minus (r c : Int) (A : Option Addr) (n cap : Nat) (l : List Val) (w : World) (h : ArrIn w A n cap l) (x : NA) (hx : eachRes (negV) r c l = x) :
    Calls Tryz.prog 34 #[.string ⟨#[45]⟩, AV r c (.slice A n cap)] w fun e w' => ∃ D m cc, e = .returned (.tuple #[AV x.R x.C (.slice D m cc), .bool true]) ∧ ArrN w.heap.size w' D m cc x.l ∧ Ext w w' := by
  cases hr : rightA r c l with
  | false =>
    have hrr : refRightA r c l = false := by rw [← rightA_eq _ _ l h.ok]; exact hr
    rw [each_wrong hr] at hx
    subst hx
    go_enter Tryz.func34, Tryz.ntmps34
    go_wp2_with fail
    refine (refRightA_any _ _ _ _ _ _ _ (h.ext (by with_reducible repeat (first | exact Ext.refl _ | exact ext_app _ _ _ _ _ | apply Ext.drew | apply Ext.alloc | apply Ext.more_)))).mono ?_; rintro e w' ⟨rfl, hb⟩; obtain ⟨os1, d1, rfl⟩ := hb.more; clear hb
    go_wp2_with fail
    refine (refBad_any 9 _).mono ?_
    rintro e w' ⟨⟨D, cc, rfl, hs, hcc⟩, hb⟩
    obtain ⟨os2, d2, rfl⟩ := hb.more
    clear hb
    go_wp2_with fail
    exact bodyPost_ret (v := .tuple #[AV 1 1 (.slice D 1 cc), .bool true]) (by simp [results, Tryz.results34, go_sem]) rfl ⟨D, 1, cc, rfl, ⟨(by (try simp only [more_more] at hs); (try simp only [drew_more] at hs); (try simp only [more_drew] at hs); (try simp only [Array.append_assoc] at hs); exact Rd.swap hs (by first | (simp; done) | (simp; omega) | omega) (by first | (simp; done) | (simp; omega) | omega) (by first | (simp; done) | (simp; omega) | omega)), rfl, hcc, by omega, by simpa using bad9_ok⟩, by with_reducible repeat (first | exact Ext.refl _ | exact ext_app _ _ _ _ _ | apply Ext.drew | apply Ext.alloc | apply Ext.more_)⟩
  | true =>
    obtain ⟨i0, hi0, hz0, hz1, hz2⟩ := info_parts info_val
    have hrr : refRightA r c l = true := by rw [← rightA_eq _ _ l h.ok]; exact hr
    obtain ⟨R, C, rfl, rfl, _⟩ := right_parts hr
    rw [each_right hr (neg_right)] at hx
    subst hx
    obtain ⟨r1, r2, r3, r4, r5, r6⟩ := right_bd hr
    have HRR := Lib.hid (rightA_nat.1 hr).2.2.2.2
    have hln := h.len
    have hN : n ≤ 4096 := by omega
    have HN := Lib.hid (And.intro hln (show n = R * C by omega))
    clear r3 r4 hln
    go_enter Tryz.func34, Tryz.ntmps34
    go_wp2_with fail
    refine (refRightA_any _ _ _ _ _ _ _ (h.ext (by with_reducible repeat (first | exact Ext.refl _ | exact ext_app _ _ _ _ _ | apply Ext.drew | apply Ext.alloc | apply Ext.more_)))).mono ?_; rintro e w' ⟨rfl, hb⟩; obtain ⟨os1, d1, rfl⟩ := hb.more; clear hb
    go_wp2_with fail
    have hacc0 := Acc.start (more ((w.alloc (.cells #[.int .i64 R, .int .i64 C, .slice A n cap] 34)).alloc (.cells #[.int .i64 0, .int .i64 0, .slice none 0 0] 34)) os1 d1) R C
    go_loopw [7] (fun i wr => ∃ (k cp : Nat) (G : Option Addr), k ≤ n ∧ i = .int .i64 k ∧ Acc (more ((w.alloc (.cells #[.int .i64 R, .int .i64 C, .slice A n cap] 34)).alloc (.cells #[.int .i64 0, .int .i64 0, .slice none 0 0] 34)) os1 d1) (w.heap.size + 1 + 1 + os1.size) R C G cp k ((l.map (negV)).take k) wr) (fun i _ => n - (intOf i).toNat)
    case atStart => exact ⟨0, 0, none, Nat.zero_le _, rfl, by simpa using hacc0⟩
    case round =>
      clear hacc0
      obtain ⟨k, cp, G, hk, rfl, hacc⟩ := hrel
      have hlt0 := hacc.lt
      have p2 : wr.cell? ⟨w.heap.size, 2, none⟩ = some (.slice A n cap) := hacc.ext.cell_some (by simp [go_sem])
      by_cases hlt : k < n
      · obtain ⟨b, off, rfl, hv, hxo⟩ := h.get hlt
        have hxr : (getV l k).right := HRR.out _ (getV_mem (by rw [HN.out.1]; exact hlt))
        have hmt := map_take (t := negV) (l := l) (k := k) (by rw [HN.out.1]; exact hlt)
        obtain ⟨v0, v1, v2, v3, v4, v5⟩ := hv
        have hbl := lt_of_cell v0
        generalize hz : (negV) (getV l k) = z
        have HZ := Lib.hid hmt
        clear hmt
        go_wp2
        clear p2
        refine wp_plan (S := AccS _ _ _ _ _ _ _) [(0, 0), (1, 0), (2, 0), (3, 0), (4, 0), (5, 0), (6, 0), (7, 0), (8, 1), (9, 1), (10, 1), (11, 0), (12, 2)] [12] (by kernel_rfl) (by kernel_rfl) (by kernel_rfl) (fun _ _ d _ _ h => by cases d <;> exact h) ⟨(hacc.of_ext (by repeat (first | exact Ext.refl _ | (with_reducible (first | exact ext_d _ _ _ _ | exact ext_app _ _ _ _ _ | apply Ext.drew | apply Ext.alloc | apply Ext.more_)) | apply Ext.drew | apply Ext.alloc | apply Ext.more_))).ext, (hacc.of_ext (by repeat (first | exact Ext.refl _ | (with_reducible (first | exact ext_d _ _ _ _ | exact ext_app _ _ _ _ _ | apply Ext.drew | apply Ext.alloc | apply Ext.more_)) | apply Ext.drew | apply Ext.alloc | apply Ext.more_))).row⟩ ?_
        iterate 8 ((refine wpPl_read (v := ?_) rfl ?_ (fun w1 h1 => ?_) ?_; rotate_left 1; rfl; (obtain ⟨h1e, h1r⟩ := h1; have c2 := cell_of_row _ _ 2 _ _ _ h1r; clear h1r; obtain ⟨os1, d1, rfl⟩ := h1e.more; (try simp only [more_more, Array.append_assoc] at c2); go_simp; first | done | rfl)); try simp only [Act.put, zqA, zqB, zqC])
        (refine wpPl_eff rfl ?_ (fun K hK => ?_); rfl; go_simp; refine (of1_minus (getV l k) _ hxr z hz).mono ?_; rintro e w' ⟨rfl, hb⟩; obtain ⟨os, d, rfl⟩ := hb.more; clear hb; refine hK _ _ ⟨(hacc.of_ext (by repeat (first | exact Ext.refl _ | (with_reducible (first | exact ext_d _ _ _ _ | exact ext_app _ _ _ _ _ | apply Ext.drew | apply Ext.alloc | apply Ext.more_)) | apply Ext.drew | apply Ext.alloc | apply Ext.more_))).ext, (hacc.of_ext (by repeat (first | exact Ext.refl _ | (with_reducible (first | exact ext_d _ _ _ _ | exact ext_app _ _ _ _ _ | apply Ext.drew | apply Ext.alloc | apply Ext.more_)) | apply Ext.drew | apply Ext.alloc | apply Ext.more_))).row⟩ ?_)
        try simp only [Act.put, zqA, zqB, zqC]
        (refine wpPl_eff rfl ?_ (fun K hK => ?_); rfl; go_simp; refine hK _ _ ⟨(hacc.of_ext (by repeat (first | exact Ext.refl _ | (with_reducible (first | exact ext_d _ _ _ _ | exact ext_app _ _ _ _ _ | apply Ext.drew | apply Ext.alloc | apply Ext.more_)) | apply Ext.drew | apply Ext.alloc | apply Ext.more_))).ext, (hacc.of_ext (by repeat (first | exact Ext.refl _ | (with_reducible (first | exact ext_d _ _ _ _ | exact ext_app _ _ _ _ _ | apply Ext.drew | apply Ext.alloc | apply Ext.more_)) | apply Ext.drew | apply Ext.alloc | apply Ext.more_))).row⟩ ?_)
        try simp only [Act.put, zqA, zqB, zqC]
        (refine wpPl_eff rfl ?_ (fun K hK => ?_); rfl)
        refine wp_append_own _ _ _ _ rfl _ 26 i0 (VV 0 0 0 ⟨#[]⟩ false 0) 6 56 Tryz.underlying22 hi0 hz0 hz1 hz2 rfl (by decide) _ _ _ rfl (own_ext hacc.own (by repeat (first | exact Ext.refl _ | (with_reducible (first | exact ext_d _ _ _ _ | exact ext_app _ _ _ _ _ | apply Ext.drew | apply Ext.alloc | apply Ext.more_)) | apply Ext.drew | apply Ext.alloc | apply Ext.more_))) _ 1 1 (Val.cells z) rfl rfl (new_cells_at _ _ _ (by simp) rfl _) (cells_one _) (by simp only [maxLen]; omega) (by omega) (by have := hacc.lt; simp; omega) ?_
        intro v3 w3 ho3 hg3
        obtain ⟨A2, cap2, rfl, hrow3, hex3, hacc2⟩ := hacc.step (by repeat (first | exact Ext.refl _ | (with_reducible (first | exact ext_d _ _ _ _ | exact ext_app _ _ _ _ _ | apply Ext.drew | apply Ext.alloc | apply Ext.more_)) | apply Ext.drew | apply Ext.alloc | apply Ext.more_)) hg3 ho3
        refine hK _ _ ⟨hex3, hrow3⟩ ?_
        try simp only [Act.put, zqA, zqB, zqC]
        (refine wpPl_read (v := ?_) rfl ?_ (fun w1 h1 => ?_) ?_; rotate_left 1; rfl; (obtain ⟨h1e, h1r⟩ := h1; have c2 := cell_of_row _ _ 2 _ _ _ h1r; clear h1r; obtain ⟨os1, d1, rfl⟩ := h1e.more; (try simp only [more_more, Array.append_assoc] at c2); go_simp; first | done | rfl))
        try simp only [Act.put, zqA, zqB, zqC]
        have c2 := cell_of_row _ _ 2 _ _ _ hrow3
        have f2 := frozen_of_row _ _ 2 _ _ hrow3
        clear hrow3 hex3 hg3 ho3
        (refine wpPl_tail rfl ?_ (fun K hK => ?_); rfl; go_simp; refine hK _ _ ?_)
        clear c2 f2
        try simp only [Act.put]
        refine wpPl_nil ?_
        go_wp2
        refine ⟨⟨k + 1, cap2, A2, by omega, by go_num, ?_⟩, by simp [intOf]; omega⟩
        rw [HZ.out, hz]
        exact hacc2
      · obtain rfl : k = n := by omega
        have q0 : wr.cell? ⟨w.heap.size + 1, 0, none⟩ = some (.int .i64 0) := hacc.ext.cell_some (by simp [go_sem]); have q1 : wr.cell? ⟨w.heap.size + 1, 1, none⟩ = some (.int .i64 0) := hacc.ext.cell_some (by simp [go_sem]); have q2 : wr.cell? ⟨w.heap.size + 1, 2, none⟩ = some (.slice none 0 0) := hacc.ext.cell_some (by simp [go_sem]); have q3 : wr.frozen? ⟨w.heap.size + 1, 0, none⟩ = false := (hacc.ext.frozen (p := ⟨w.heap.size + 1, 0, none⟩) (by simp; try omega)).trans (by simp [go_sem]); have q4 : wr.frozen? ⟨w.heap.size + 1, 1, none⟩ = false := (hacc.ext.frozen (p := ⟨w.heap.size + 1, 1, none⟩) (by simp; try omega)).trans (by simp [go_sem]); have q5 : wr.frozen? ⟨w.heap.size + 1, 2, none⟩ = false := (hacc.ext.frozen (p := ⟨w.heap.size + 1, 2, none⟩) (by simp; try omega)).trans (by simp [go_sem]); have c0 := cell_of_row _ _ 0 _ _ _ hacc.row; have c1 := cell_of_row _ _ 1 _ _ _ hacc.row; have c2 := cell_of_row _ _ 2 _ _ _ hacc.row
        go_wp2
        obtain ⟨hrd, hcp⟩ := hacc.rd
        have hl : (l.map (negV)).take k = l.map (negV) := List.take_of_length_le (by rw [List.length_map, HN.out.1]; exact Nat.le_refl _)
        rw [hl] at hrd
        refine bodyPost_ret (v := .tuple #[AV R C (.slice G k cp), .bool true]) (by simp [results, Tryz.results34, go_sem, q0, q1, q2]) rfl ⟨G, k, cp, rfl, ⟨?_, by rw [List.length_map, HN.out.1], hcp, by omega, ?_⟩, ?_⟩
        · exact Rd.mono (((hrd.set_far _ (by first | (simp; done) | (simp; omega) | omega)).set_far _ (by first | (simp; done) | (simp; omega) | omega)).set_far _ (by first | (simp; done) | (simp; omega) | omega)) (by omega)
        · intro y hy
          obtain ⟨v, hv, rfl⟩ := List.mem_map.1 hy
          exact Val.right.ok ((neg_right) v (HRR.out v hv))
        · exact Ext.set (Ext.set (Ext.set (Ext.trans (by with_reducible repeat (first | exact Ext.refl _ | exact ext_app _ _ _ _ _ | apply Ext.drew | apply Ext.alloc | apply Ext.more_)) hacc.ext) _ (by first | (simp; done) | (simp; omega) | omega)) _ (by first | (simp; done) | (simp; omega) | omega)) _ (by first | (simp; done) | (simp; omega) | omega)
set_option maxHeartbeats 1000000 in
theorem runary_cent (r c : Int) (A : Option Addr) (n cap : Nat) (l : List Val) (w : World) (h : ArrIn w A n cap l) (x : NA) (hx : eachRes (centV) r c l = x) :
    Calls Tryz.prog 34 #[.string ⟨#[37]⟩, AV r c (.slice A n cap)] w fun e w' => ∃ D m cc, e = .returned (.tuple #[AV x.R x.C (.slice D m cc), .bool true]) ∧ ArrN w.heap.size w' D m cc x.l ∧ Ext w w' := by
  cases hr : rightA r c l with
  | false =>
    have hrr : refRightA r c l = false := by rw [← rightA_eq _ _ l h.ok]; exact hr
    rw [each_wrong hr] at hx
    subst hx
    go_enter Tryz.func34, Tryz.ntmps34
    go_wp2_with fail
    refine (refRightA_any _ _ _ _ _ _ _ (h.ext (by with_reducible repeat (first | exact Ext.refl _ | exact ext_app _ _ _ _ _ | apply Ext.drew | apply Ext.alloc | apply Ext.more_)))).mono ?_; rintro e w' ⟨rfl, hb⟩; obtain ⟨os1, d1, rfl⟩ := hb.more; clear hb
    go_wp2_with fail
    refine (refBad_any 9 _).mono ?_
    rintro e w' ⟨⟨D, cc, rfl, hs, hcc⟩, hb⟩
    obtain ⟨os2, d2, rfl⟩ := hb.more
    clear hb
    go_wp2_with fail
    exact bodyPost_ret (v := .tuple #[AV 1 1 (.slice D 1 cc), .bool true]) (by simp [results, Tryz.results34, go_sem]) rfl ⟨D, 1, cc, rfl, ⟨(by (try simp only [more_more] at hs); (try simp only [drew_more] at hs); (try simp only [more_drew] at hs); (try simp only [Array.append_assoc] at hs); exact Rd.swap hs (by first | (simp; done) | (simp; omega) | omega) (by first | (simp; done) | (simp; omega) | omega) (by first | (simp; done) | (simp; omega) | omega)), rfl, hcc, by omega, by simpa using bad9_ok⟩, by with_reducible repeat (first | exact Ext.refl _ | exact ext_app _ _ _ _ _ | apply Ext.drew | apply Ext.alloc | apply Ext.more_)⟩
  | true =>
    obtain ⟨i0, hi0, hz0, hz1, hz2⟩ := info_parts info_val
    have hrr : refRightA r c l = true := by rw [← rightA_eq _ _ l h.ok]; exact hr
    obtain ⟨R, C, rfl, rfl, _⟩ := right_parts hr
    rw [each_right hr (cent_right)] at hx
    subst hx
    obtain ⟨r1, r2, r3, r4, r5, r6⟩ := right_bd hr
    have HRR := Lib.hid (rightA_nat.1 hr).2.2.2.2
    have hln := h.len
    have hN : n ≤ 4096 := by omega
    have HN := Lib.hid (And.intro hln (show n = R * C by omega))
    clear r3 r4 hln
    go_enter Tryz.func34, Tryz.ntmps34
    go_wp2_with fail
    refine (refRightA_any _ _ _ _ _ _ _ (h.ext (by with_reducible repeat (first | exact Ext.refl _ | exact ext_app _ _ _ _ _ | apply Ext.drew | apply Ext.alloc | apply Ext.more_)))).mono ?_; rintro e w' ⟨rfl, hb⟩; obtain ⟨os1, d1, rfl⟩ := hb.more; clear hb
    go_wp2_with fail
    have hacc0 := Acc.start (more ((w.alloc (.cells #[.int .i64 R, .int .i64 C, .slice A n cap] 34)).alloc (.cells #[.int .i64 0, .int .i64 0, .slice none 0 0] 34)) os1 d1) R C
    go_loopw [7] (fun i wr => ∃ (k cp : Nat) (G : Option Addr), k ≤ n ∧ i = .int .i64 k ∧ Acc (more ((w.alloc (.cells #[.int .i64 R, .int .i64 C, .slice A n cap] 34)).alloc (.cells #[.int .i64 0, .int .i64 0, .slice none 0 0] 34)) os1 d1) (w.heap.size + 1 + 1 + os1.size) R C G cp k ((l.map (centV)).take k) wr) (fun i _ => n - (intOf i).toNat)
    case atStart => exact ⟨0, 0, none, Nat.zero_le _, rfl, by simpa using hacc0⟩
    case round =>
      clear hacc0
      obtain ⟨k, cp, G, hk, rfl, hacc⟩ := hrel
      have hlt0 := hacc.lt
      have p2 : wr.cell? ⟨w.heap.size, 2, none⟩ = some (.slice A n cap) := hacc.ext.cell_some (by simp [go_sem])
      by_cases hlt : k < n
      · obtain ⟨b, off, rfl, hv, hxo⟩ := h.get hlt
        have hxr : (getV l k).right := HRR.out _ (getV_mem (by rw [HN.out.1]; exact hlt))
        have hmt := map_take (t := centV) (l := l) (k := k) (by rw [HN.out.1]; exact hlt)
        obtain ⟨v0, v1, v2, v3, v4, v5⟩ := hv
        have hbl := lt_of_cell v0
        generalize hz : (centV) (getV l k) = z
        have HZ := Lib.hid hmt
        clear hmt
        go_wp2
        clear p2
        refine wp_plan (S := AccS _ _ _ _ _ _ _) [(0, 0), (1, 0), (2, 0), (3, 0), (4, 0), (5, 0), (6, 0), (7, 0), (8, 1), (9, 1), (10, 1), (11, 0), (12, 2)] [12] (by kernel_rfl) (by kernel_rfl) (by kernel_rfl) (fun _ _ d _ _ h => by cases d <;> exact h) ⟨(hacc.of_ext (by repeat (first | exact Ext.refl _ | (with_reducible (first | exact ext_d _ _ _ _ | exact ext_app _ _ _ _ _ | apply Ext.drew | apply Ext.alloc | apply Ext.more_)) | apply Ext.drew | apply Ext.alloc | apply Ext.more_))).ext, (hacc.of_ext (by repeat (first | exact Ext.refl _ | (with_reducible (first | exact ext_d _ _ _ _ | exact ext_app _ _ _ _ _ | apply Ext.drew | apply Ext.alloc | apply Ext.more_)) | apply Ext.drew | apply Ext.alloc | apply Ext.more_))).row⟩ ?_
        iterate 8 ((refine wpPl_read (v := ?_) rfl ?_ (fun w1 h1 => ?_) ?_; rotate_left 1; rfl; (obtain ⟨h1e, h1r⟩ := h1; have c2 := cell_of_row _ _ 2 _ _ _ h1r; clear h1r; obtain ⟨os1, d1, rfl⟩ := h1e.more; (try simp only [more_more, Array.append_assoc] at c2); go_simp; first | done | rfl)); try simp only [Act.put, zqA, zqB, zqC])
        (refine wpPl_eff rfl ?_ (fun K hK => ?_); rfl; go_simp; refine (of1_cent (getV l k) _ hxr z hz).mono ?_; rintro e w' ⟨rfl, hb⟩; obtain ⟨os, d, rfl⟩ := hb.more; clear hb; refine hK _ _ ⟨(hacc.of_ext (by repeat (first | exact Ext.refl _ | (with_reducible (first | exact ext_d _ _ _ _ | exact ext_app _ _ _ _ _ | apply Ext.drew | apply Ext.alloc | apply Ext.more_)) | apply Ext.drew | apply Ext.alloc | apply Ext.more_))).ext, (hacc.of_ext (by repeat (first | exact Ext.refl _ | (with_reducible (first | exact ext_d _ _ _ _ | exact ext_app _ _ _ _ _ | apply Ext.drew | apply Ext.alloc | apply Ext.more_)) | apply Ext.drew | apply Ext.alloc | apply Ext.more_))).row⟩ ?_)
        try simp only [Act.put, zqA, zqB, zqC]
        (refine wpPl_eff rfl ?_ (fun K hK => ?_); rfl; go_simp; refine hK _ _ ⟨(hacc.of_ext (by repeat (first | exact Ext.refl _ | (with_reducible (first | exact ext_d _ _ _ _ | exact ext_app _ _ _ _ _ | apply Ext.drew | apply Ext.alloc | apply Ext.more_)) | apply Ext.drew | apply Ext.alloc | apply Ext.more_))).ext, (hacc.of_ext (by repeat (first | exact Ext.refl _ | (with_reducible (first | exact ext_d _ _ _ _ | exact ext_app _ _ _ _ _ | apply Ext.drew | apply Ext.alloc | apply Ext.more_)) | apply Ext.drew | apply Ext.alloc | apply Ext.more_))).row⟩ ?_)
        try simp only [Act.put, zqA, zqB, zqC]
        (refine wpPl_eff rfl ?_ (fun K hK => ?_); rfl)
        refine wp_append_own _ _ _ _ rfl _ 26 i0 (VV 0 0 0 ⟨#[]⟩ false 0) 6 56 Tryz.underlying22 hi0 hz0 hz1 hz2 rfl (by decide) _ _ _ rfl (own_ext hacc.own (by repeat (first | exact Ext.refl _ | (with_reducible (first | exact ext_d _ _ _ _ | exact ext_app _ _ _ _ _ | apply Ext.drew | apply Ext.alloc | apply Ext.more_)) | apply Ext.drew | apply Ext.alloc | apply Ext.more_))) _ 1 1 (Val.cells z) rfl rfl (new_cells_at _ _ _ (by simp) rfl _) (cells_one _) (by simp only [maxLen]; omega) (by omega) (by have := hacc.lt; simp; omega) ?_
        intro v3 w3 ho3 hg3
        obtain ⟨A2, cap2, rfl, hrow3, hex3, hacc2⟩ := hacc.step (by repeat (first | exact Ext.refl _ | (with_reducible (first | exact ext_d _ _ _ _ | exact ext_app _ _ _ _ _ | apply Ext.drew | apply Ext.alloc | apply Ext.more_)) | apply Ext.drew | apply Ext.alloc | apply Ext.more_)) hg3 ho3
        refine hK _ _ ⟨hex3, hrow3⟩ ?_
        try simp only [Act.put, zqA, zqB, zqC]
        (refine wpPl_read (v := ?_) rfl ?_ (fun w1 h1 => ?_) ?_; rotate_left 1; rfl; (obtain ⟨h1e, h1r⟩ := h1; have c2 := cell_of_row _ _ 2 _ _ _ h1r; clear h1r; obtain ⟨os1, d1, rfl⟩ := h1e.more; (try simp only [more_more, Array.append_assoc] at c2); go_simp; first | done | rfl))
        try simp only [Act.put, zqA, zqB, zqC]
        have c2 := cell_of_row _ _ 2 _ _ _ hrow3
        have f2 := frozen_of_row _ _ 2 _ _ hrow3
        clear hrow3 hex3 hg3 ho3
        (refine wpPl_tail rfl ?_ (fun K hK => ?_); rfl; go_simp; refine hK _ _ ?_)
        clear c2 f2
        try simp only [Act.put]
        refine wpPl_nil ?_
        go_wp2
        refine ⟨⟨k + 1, cap2, A2, by omega, by go_num, ?_⟩, by simp [intOf]; omega⟩
        rw [HZ.out, hz]
        exact hacc2
      · obtain rfl : k = n := by omega
        have q0 : wr.cell? ⟨w.heap.size + 1, 0, none⟩ = some (.int .i64 0) := hacc.ext.cell_some (by simp [go_sem]); have q1 : wr.cell? ⟨w.heap.size + 1, 1, none⟩ = some (.int .i64 0) := hacc.ext.cell_some (by simp [go_sem]); have q2 : wr.cell? ⟨w.heap.size + 1, 2, none⟩ = some (.slice none 0 0) := hacc.ext.cell_some (by simp [go_sem]); have q3 : wr.frozen? ⟨w.heap.size + 1, 0, none⟩ = false := (hacc.ext.frozen (p := ⟨w.heap.size + 1, 0, none⟩) (by simp; try omega)).trans (by simp [go_sem]); have q4 : wr.frozen? ⟨w.heap.size + 1, 1, none⟩ = false := (hacc.ext.frozen (p := ⟨w.heap.size + 1, 1, none⟩) (by simp; try omega)).trans (by simp [go_sem]); have q5 : wr.frozen? ⟨w.heap.size + 1, 2, none⟩ = false := (hacc.ext.frozen (p := ⟨w.heap.size + 1, 2, none⟩) (by simp; try omega)).trans (by simp [go_sem]); have c0 := cell_of_row _ _ 0 _ _ _ hacc.row; have c1 := cell_of_row _ _ 1 _ _ _ hacc.row; have c2 := cell_of_row _ _ 2 _ _ _ hacc.row
        go_wp2
        obtain ⟨hrd, hcp⟩ := hacc.rd
        have hl : (l.map (centV)).take k = l.map (centV) := List.take_of_length_le (by rw [List.length_map, HN.out.1]; exact Nat.le_refl _)
        rw [hl] at hrd
        refine bodyPost_ret (v := .tuple #[AV R C (.slice G k cp), .bool true]) (by simp [results, Tryz.results34, go_sem, q0, q1, q2]) rfl ⟨G, k, cp, rfl, ⟨?_, by rw [List.length_map, HN.out.1], hcp, by omega, ?_⟩, ?_⟩
        · exact Rd.mono (((hrd.set_far _ (by first | (simp; done) | (simp; omega) | omega)).set_far _ (by first | (simp; done) | (simp; omega) | omega)).set_far _ (by first | (simp; done) | (simp; omega) | omega)) (by omega)
        · intro y hy
          obtain ⟨v, hv, rfl⟩ := List.mem_map.1 hy
          exact Val.right.ok ((cent_right) v (HRR.out v hv))
        · exact Ext.set (Ext.set (Ext.set (Ext.trans (by with_reducible repeat (first | exact Ext.refl _ | exact ext_app _ _ _ _ _ | apply Ext.drew | apply Ext.alloc | apply Ext.more_)) hacc.ext) _ (by first | (simp; done) | (simp; omega) | omega)) _ (by first | (simp; done) | (simp; omega) | omega)) _ (by first | (simp; done) | (simp; omega) | omega)
end Go.Proofs.YteigcfflljoioaaGreatDoor
namespace Go.Proofs.YteigcfflljoioaaGreatDoor
open Go.RowKit
theorem row_ext {W W' : World} {p : Nat} {o : Obj} (h : W.heap[p]? = some o) (hx : Ext W W') : W'.heap[p]? = some o := (hx.block (lt_of_block h)).trans h
theorem Acc.row_kept {w0 : World} {s0 : Nat} {r c : Int} {A : Option Addr} {cap k : Nat} {l : List Val} {wr w1 w3 : World} (_h : Acc w0 s0 r c A cap k l wr) {p : Nat} {o : Obj} (hp : (Value.slice A k cap).ownBlock ≠ some p) (hg : w1.grownBy w3 (Value.slice A k cap).ownBlock) (hr : w1.heap[p]? = some o) : w3.heap[p]? = some o := by
  rw [hg.block p (lt_of_block hr) (fun e => hp e.symm)]; exact hr
theorem Acc.own_ne {w0 : World} {s0 : Nat} {r c : Int} {A : Option Addr} {cap k : Nat} {l : List Val} {wr : World} (h : Acc w0 s0 r c A cap k l wr) {p : Nat} (hp : wr.heap.size ≤ p) : (Value.slice A k cap).ownBlock ≠ some p := fun e => by have := own_lt h.own _ e; omega
end Go.Proofs.YteigcfflljoioaaGreatDoor
namespace Go.Proofs.YteigcfflljoioaaGreatDoor
open Go.RowKit NM
theorem of2_any (g : Sg) (x y : Val) (w : World) (hx : x.right) (hy : y.right) :
    Calls Tryz.prog 52 #[.string ⟨g.key.toArray⟩, VV x.kind x.mant x.exp x.text x.truth x.fault, VV y.kind y.mant y.exp y.text y.truth y.fault] w fun e w' => e = .returned (VV (opV g x y).kind (opV g x y).mant (opV g x y).exp (opV g x y).text (opV g x y).truth (opV g x y).fault) ∧ Ext w w' := by
  cases g
  · exact of2_add x y w hx hy _ rfl
  · exact of2_sub x y w hx hy _ rfl
  · exact of2_mul x y w hx hy _ rfl
  · exact of2_div x y w hx hy _ rfl
  · exact of2_pow x y w hx hy _ rfl
  · exact of2_join x y w hx hy _ rfl
  · exact of2_eq x y w hx hy _ rfl
  · exact of2_ne x y w hx hy _ rfl
  · exact of2_lt x y w hx hy _ rfl
  · exact of2_le x y w hx hy _ rfl
  · exact of2_gt x y w hx hy _ rfl
  · exact of2_ge x y w hx hy _ rfl
theorem level_ne (g : Sg) : (g.level == 0) = false := by cases g <;> rfl
theorem rbinary_no (s : ByteArray) (r c r' c' : Int) (A B : Option Addr) (n cap n' cap' : Nat) (w : World) (hg : sgOf s.data.toList = none) :
    Calls Tryz.prog 31 #[.string s, AV r c (.slice A n cap), AV r' c' (.slice B n' cap')] w fun e w' => e = .returned (.tuple #[AV 0 0 (.slice none 0 0), .bool false]) ∧ Ext w w' := by
  have hlv := fun W => rlevel_no s hg W
  clear hg
  go_enter Tryz.func31, Tryz.ntmps31
  go_wp2_with (go_at_call 25; (with_reducible refine (hlv _).mono ?_); rintro e w' ⟨rfl, hb⟩; obtain ⟨os, d, rfl⟩ := hb.more; clear hb)
  exact bodyPost_ret (v := .tuple #[AV 0 0 (.slice none 0 0), .bool false]) (by simp [results, Tryz.results31, go_sem]) rfl ⟨rfl, by with_reducible repeat (first | exact Ext.refl _ | exact ext_app _ _ _ _ _ | exact ext_app2 _ _ _ _ _ _ | apply Ext.drew | apply Ext.alloc | apply Ext.more_)⟩
set_option maxHeartbeats 1000000 in
theorem rbinary_wrong (g : Sg) (r c r' c' : Int) (A B : Option Addr) (n cap n' cap' : Nat) (l l' : List Val) (w : World) (h : ArrIn w A n cap l) (h' : ArrIn w B n' cap' l') (hr : (rightA r c l && rightA r' c' l') = false) :
    Calls Tryz.prog 31 #[.string ⟨g.key.toArray⟩, AV r c (.slice A n cap), AV r' c' (.slice B n' cap')] w fun e w' => ∃ D m cc, e = .returned (.tuple #[AV 1 1 (.slice D m cc), .bool true]) ∧ ArrN w.heap.size w' D m cc [bad9] ∧ Ext w w' := by
  have hlv := fun W => rlevel_yes g W
  have q := level_ne g
  generalize g.level = lv at *
  generalize (⟨g.key.toArray⟩ : ByteArray) = sb at *
  by_cases hq1 : rightA r c l = true
  · have hf1 : refRightA r c l = true := by rw [← rightA_eq _ _ l h.ok]; exact hq1
    have hf2 : refRightA r' c' l' = false := by rw [← rightA_eq _ _ l' h'.ok]; simpa [hq1] using hr
    clear hr hq1
    go_enter Tryz.func31, Tryz.ntmps31
    go_wp2_with (go_at_call 25; (with_reducible refine (hlv _).mono ?_); rintro e w' ⟨rfl, hb⟩; obtain ⟨os, d, rfl⟩ := hb.more; clear hb)
    refine (refRightA_any _ _ _ _ _ _ _ (h.ext (by with_reducible repeat (first | exact Ext.refl _ | exact ext_app _ _ _ _ _ | exact ext_app2 _ _ _ _ _ _ | apply Ext.drew | apply Ext.alloc | apply Ext.more_)))).mono ?_; rintro e w' ⟨rfl, hb⟩; obtain ⟨os1, d1, rfl⟩ := hb.more; clear hb
    go_wp2_with fail
    refine (refRightA_any _ _ _ _ _ _ _ (h'.ext (by with_reducible repeat (first | exact Ext.refl _ | exact ext_app _ _ _ _ _ | exact ext_app2 _ _ _ _ _ _ | apply Ext.drew | apply Ext.alloc | apply Ext.more_)))).mono ?_; rintro e w' ⟨rfl, hb⟩; obtain ⟨os2, d2, rfl⟩ := hb.more; clear hb
    go_wp2_with fail
    refine (refBad_any 9 _).mono ?_
    rintro e w' ⟨⟨D, cc, rfl, hs, hcc⟩, hb⟩
    obtain ⟨os2, d2, rfl⟩ := hb.more
    clear hb
    go_wp2_with fail
    exact bodyPost_ret (v := .tuple #[AV 1 1 (.slice D 1 cc), .bool true]) (by simp [results, Tryz.results31, go_sem]) rfl ⟨D, 1, cc, rfl, ⟨(by (try simp only [more_more] at hs); (try simp only [drew_more] at hs); (try simp only [more_drew] at hs); (try simp only [Array.append_assoc] at hs); exact Rd.swap hs (by first | (simp; done) | (simp; omega) | omega) (by first | (simp; done) | (simp; omega) | omega) (by first | (simp; done) | (simp; omega) | omega)), rfl, hcc, by omega, by simpa using bad9_ok⟩, by with_reducible repeat (first | exact Ext.refl _ | exact ext_app _ _ _ _ _ | exact ext_app2 _ _ _ _ _ _ | apply Ext.drew | apply Ext.alloc | apply Ext.more_)⟩
  · have hf1 : refRightA r c l = false := by rw [← rightA_eq _ _ l h.ok]; simpa using hq1
    clear hr hq1
    go_enter Tryz.func31, Tryz.ntmps31
    go_wp2_with (go_at_call 25; (with_reducible refine (hlv _).mono ?_); rintro e w' ⟨rfl, hb⟩; obtain ⟨os, d, rfl⟩ := hb.more; clear hb)
    refine (refRightA_any _ _ _ _ _ _ _ (h.ext (by with_reducible repeat (first | exact Ext.refl _ | exact ext_app _ _ _ _ _ | exact ext_app2 _ _ _ _ _ _ | apply Ext.drew | apply Ext.alloc | apply Ext.more_)))).mono ?_; rintro e w' ⟨rfl, hb⟩; obtain ⟨os1, d1, rfl⟩ := hb.more; clear hb
    go_wp2_with fail
    refine (refBad_any 9 _).mono ?_
    rintro e w' ⟨⟨D, cc, rfl, hs, hcc⟩, hb⟩
    obtain ⟨os2, d2, rfl⟩ := hb.more
    clear hb
    go_wp2_with fail
    exact bodyPost_ret (v := .tuple #[AV 1 1 (.slice D 1 cc), .bool true]) (by simp [results, Tryz.results31, go_sem]) rfl ⟨D, 1, cc, rfl, ⟨(by (try simp only [more_more] at hs); (try simp only [drew_more] at hs); (try simp only [more_drew] at hs); (try simp only [Array.append_assoc] at hs); exact Rd.swap hs (by first | (simp; done) | (simp; omega) | omega) (by first | (simp; done) | (simp; omega) | omega) (by first | (simp; done) | (simp; omega) | omega)), rfl, hcc, by omega, by simpa using bad9_ok⟩, by with_reducible repeat (first | exact Ext.refl _ | exact ext_app _ _ _ _ _ | exact ext_app2 _ _ _ _ _ _ | apply Ext.drew | apply Ext.alloc | apply Ext.more_)⟩
set_option maxHeartbeats 1000000 in
theorem rbinary_great (g : Sg) (R1 C1 R2 C2 : Nat) (A B : Option Addr) (n cap n' cap' : Nat) (l l' : List Val) (w : World) (h : ArrIn w A n cap l) (h' : ArrIn w B n' cap' l') (hr1 : rightA R1 C1 l = true) (hr2 : rightA R2 C2 l' = true) (hf : ¬ max R1 R2 * max C1 C2 ≤ 4096) :
    Calls Tryz.prog 31 #[.string ⟨g.key.toArray⟩, AV R1 C1 (.slice A n cap), AV R2 C2 (.slice B n' cap')] w fun e w' => ∃ D m cc, e = .returned (.tuple #[AV 1 1 (.slice D m cc), .bool true]) ∧ ArrN w.heap.size w' D m cc [badV 5] ∧ Ext w w' := by
  have hlv := fun W => rlevel_yes g W
  have q := level_ne g
  generalize g.level = lv at *
  generalize (⟨g.key.toArray⟩ : ByteArray) = sb at *
  have hf1 : refRightA R1 C1 l = true := by rw [← rightA_eq _ _ l h.ok]; exact hr1
  have hf2 : refRightA R2 C2 l' = true := by rw [← rightA_eq _ _ l' h'.ok]; exact hr2
  obtain ⟨a1, a2, a3, a4, a5, a6⟩ := right_bd hr1
  obtain ⟨b1, b2, b3, b4, b5, b6⟩ := right_bd hr2
  have HCM : Hid ((commonO R1 C1 R2 C2).getD (0, 0) = (0, 0) ∧ (commonO R1 C1 R2 C2).isSome = false) := by show _ ∧ _; simp [commonO, hf]
  clear hf a3 a4 b3 b4
  go_enter Tryz.func31, Tryz.ntmps31
  go_wp2_with (go_at_call 25; (with_reducible refine (hlv _).mono ?_); rintro e w' ⟨rfl, hb⟩; obtain ⟨os, d, rfl⟩ := hb.more; clear hb)
  refine (refRightA_any _ _ _ _ _ _ _ (h.ext (by with_reducible repeat (first | exact Ext.refl _ | exact ext_app _ _ _ _ _ | exact ext_app2 _ _ _ _ _ _ | apply Ext.drew | apply Ext.alloc | apply Ext.more_)))).mono ?_; rintro e w' ⟨rfl, hb⟩; obtain ⟨os1, d1, rfl⟩ := hb.more; clear hb
  go_wp2_with fail
  refine (refRightA_any _ _ _ _ _ _ _ (h'.ext (by with_reducible repeat (first | exact Ext.refl _ | exact ext_app _ _ _ _ _ | exact ext_app2 _ _ _ _ _ _ | apply Ext.drew | apply Ext.alloc | apply Ext.more_)))).mono ?_; rintro e w' ⟨rfl, hb⟩; obtain ⟨os2, d2, rfl⟩ := hb.more; clear hb
  go_wp2_with fail
  refine (refCommon_c R1 C1 R2 C2 _ _ _ _ _ _ _ ⟨a1, a5⟩ ⟨a2, a6⟩ ⟨b1, b5⟩ ⟨b2, b6⟩ 0 0 false HCM.out.1 HCM.out.2).mono ?_; rintro e w' ⟨rfl, hb⟩; obtain ⟨os3, d3, rfl⟩ := hb.more; clear hb
  go_wp2_with fail
  refine (refBad_any 5 _).mono ?_
  rintro e w' ⟨⟨D, cc, rfl, hs, hcc⟩, hb⟩
  obtain ⟨os2, d2, rfl⟩ := hb.more
  clear hb
  go_wp2_with fail
  exact bodyPost_ret (v := .tuple #[AV 1 1 (.slice D 1 cc), .bool true]) (by simp [results, Tryz.results31, go_sem]) rfl ⟨D, 1, cc, rfl, ⟨(by (try simp only [more_more] at hs); (try simp only [drew_more] at hs); (try simp only [more_drew] at hs); (try simp only [Array.append_assoc] at hs); exact Rd.swap hs (by first | (simp; done) | (simp; omega) | omega) (by first | (simp; done) | (simp; omega) | omega) (by first | (simp; done) | (simp; omega) | omega)), rfl, hcc, by omega, by simpa using badV_ok 5 ⟨by omega, by omega⟩⟩, by with_reducible repeat (first | exact Ext.refl _ | exact ext_app _ _ _ _ _ | exact ext_app2 _ _ _ _ _ _ | apply Ext.drew | apply Ext.alloc | apply Ext.more_)⟩
set_option maxHeartbeats 4000000 in
theorem rbinary_right (g : Sg) (R1 C1 R2 C2 : Nat) (A B : Option Addr) (n cap n' cap' : Nat) (l l' : List Val) (w : World) (h : ArrIn w A n cap l) (h' : ArrIn w B n' cap' l') (hr1 : rightA R1 C1 l = true) (hr2 : rightA R2 C2 l' = true) (hf : max R1 R2 * max C1 C2 ≤ 4096) :
    Calls Tryz.prog 31 #[.string ⟨g.key.toArray⟩, AV R1 C1 (.slice A n cap), AV R2 C2 (.slice B n' cap')] w fun e w' => ∃ D m cc, e = .returned (.tuple #[AV (max R1 R2 : Nat) (max C1 C2 : Nat) (.slice D m cc), .bool true]) ∧ ArrN w.heap.size w' D m cc (bothL (opV g) R1 C1 l R2 C2 l') ∧ Ext w w' := by
  obtain ⟨i0, hi0, hz0, hz1, hz2⟩ := info_parts info_val
  have hlv := fun W => rlevel_yes g W
  have q := level_ne g
  have ho2 := fun x y W hx hy => of2_any g x y W hx hy
  generalize g.level = lv at *
  generalize (⟨g.key.toArray⟩ : ByteArray) = sb at *
  have hb6 := fun W => rbad2_any 6 W
  rw [show badF 6 = 6 by decide] at hb6
  have hf1 : refRightA R1 C1 l = true := by rw [← rightA_eq _ _ l h.ok]; exact hr1
  have hf2 : refRightA R2 C2 l' = true := by rw [← rightA_eq _ _ l' h'.ok]; exact hr2
  obtain ⟨a1, a2, a3, a4, a5, a6⟩ := right_bd hr1
  obtain ⟨b1, b2, b3, b4, b5, b6⟩ := right_bd hr2
  have HN := Lib.hid (And.intro (show n = R1 * C1 by have := h.len; omega) (show n' = R2 * C2 by have := h'.len; omega))
  have hN1 : n ≤ 4096 := by have := HN.out; omega
  have hN2 : n' ≤ 4096 := by have := HN.out; omega
  have HL := Lib.hid (And.intro a4 b4)
  have HRR := Lib.hid (And.intro (rightA_nat.1 hr1).2.2.2.2 (rightA_nat.1 hr2).2.2.2.2)
  have HCM : Hid ((commonO R1 C1 R2 C2).getD (0, 0) = (max R1 R2, max C1 C2) ∧ (commonO R1 C1 R2 C2).isSome = true) := by show _ ∧ _; simp [commonO, hf]
  have HOK := Lib.hid (bothL_ok (t := opV g) (fun x y _ _ p q => op_ok g x y p q) HL.out.1 HL.out.2 h.ok h'.ok HRR.out.1 HRR.out.2)
  have HLEN := bothL_length (opV g) R1 C1 l R2 C2 l'
  have HF := Lib.hid hf
  have hm1 : 1 ≤ max R1 R2 := by omega
  have hm2 : 1 ≤ max C1 C2 := by omega
  have hm3 : max R1 R2 ≤ 4096 := by omega
  have hm4 : max C1 C2 ≤ 4096 := by omega
  clear a3 a4 b3 b4 hf
  unfold bothL at HOK HLEN ⊢
  generalize max R1 R2 = M at *
  generalize max C1 C2 = N at *
  have hMN := HF.out
  generalize hGG : (fun i j => bothV (opV g) (spreadO R1 C1 l i j) (spreadO R2 C2 l' i j)) = GG at *
  have HGG := Lib.hid hGG
  clear hGG
  go_enter Tryz.func31, Tryz.ntmps31
  go_wp2_with (go_at_call 25; (with_reducible refine (hlv _).mono ?_); rintro e w' ⟨rfl, hb⟩; obtain ⟨os, d, rfl⟩ := hb.more; clear hb)
  refine (refRightA_any _ _ _ _ _ _ _ (h.ext (by with_reducible repeat (first | exact Ext.refl _ | exact ext_app _ _ _ _ _ | exact ext_app2 _ _ _ _ _ _ | apply Ext.drew | apply Ext.alloc | apply Ext.more_)))).mono ?_; rintro e w' ⟨rfl, hb⟩; obtain ⟨os1, d1, rfl⟩ := hb.more; clear hb
  go_wp2_with fail
  refine (refRightA_any _ _ _ _ _ _ _ (h'.ext (by with_reducible repeat (first | exact Ext.refl _ | exact ext_app _ _ _ _ _ | exact ext_app2 _ _ _ _ _ _ | apply Ext.drew | apply Ext.alloc | apply Ext.more_)))).mono ?_; rintro e w' ⟨rfl, hb⟩; obtain ⟨os2, d2, rfl⟩ := hb.more; clear hb
  go_wp2_with fail
  refine (refCommon_c R1 C1 R2 C2 _ _ _ _ _ _ _ ⟨a1, a5⟩ ⟨a2, a6⟩ ⟨b1, b5⟩ ⟨b2, b6⟩ M N true HCM.out.1 HCM.out.2).mono ?_; rintro e w' ⟨rfl, hb⟩; obtain ⟨os3, d3, rfl⟩ := hb.more; clear hb
  go_wp2_with fail
  have hst := Acc.start (more (((w.alloc (.cells #[.int .i64 R1, .int .i64 C1, .slice A n cap] 34)).alloc (.cells #[.int .i64 R2, .int .i64 C2, .slice B n' cap'] 34)).alloc (.cells #[.int .i64 0, .int .i64 0, .slice none 0 0] 34)) (os ++ (os1 ++ (os2 ++ os3))) d3) M N
  have hsz0 : (more (((w.alloc (.cells #[.int .i64 R1, .int .i64 C1, .slice A n cap] 34)).alloc (.cells #[.int .i64 R2, .int .i64 C2, .slice B n' cap'] 34)).alloc (.cells #[.int .i64 0, .int .i64 0, .slice none 0 0] 34)) (os ++ (os1 ++ (os2 ++ os3))) d3).heap.size = (w.heap.size + 1 + 1 + 1 + (os.size + (os1.size + (os2.size + os3.size)))) := by simp
  rw [hsz0] at hst
  generalize hps : (w.heap.size + 1 + 1 + 1 + (os.size + (os1.size + (os2.size + os3.size)))) = ps at *
  have hpsV : w.heap.size + 1 + 1 < ps := by omega
  clear hps hsz0
  go_loopw [12] (fun i wr => ∃ (r cp : Nat) (G : Option Addr), r ≤ M ∧ i = .int .i64 r ∧ Acc (more (((w.alloc (.cells #[.int .i64 R1, .int .i64 C1, .slice A n cap] 34)).alloc (.cells #[.int .i64 R2, .int .i64 C2, .slice B n' cap'] 34)).alloc (.cells #[.int .i64 0, .int .i64 0, .slice none 0 0] 34)) (os ++ (os1 ++ (os2 ++ os3))) d3) ps M N G cp (r * N) (vals GG N (r * N)) wr) (fun i _ => M - (intOf i).toNat)
  case atStart => exact ⟨0, 0, none, Nat.zero_le _, rfl, by simpa [vals] using hst⟩
  case round =>
    clear hst
    obtain ⟨r, cp, G, hr, rfl, hacc⟩ := hrel
    by_cases hlt : r < M
    · go_wp2
      obtain ⟨wo, rfl⟩ : ∃ wo : World, wo = wr := ⟨_, rfl⟩
      go_loopw [13] (fun i wr => ∃ (j cp : Nat) (G : Option Addr), j ≤ N ∧ i = .int .i64 j ∧ Acc (more (((w.alloc (.cells #[.int .i64 R1, .int .i64 C1, .slice A n cap] 34)).alloc (.cells #[.int .i64 R2, .int .i64 C2, .slice B n' cap'] 34)).alloc (.cells #[.int .i64 0, .int .i64 0, .slice none 0 0] 34)) (os ++ (os1 ++ (os2 ++ os3))) d3) ps M N G cp (r * N + j) (vals GG N (r * N + j)) wr) (fun i _ => N - (intOf i).toNat)
      case atStart => exact ⟨0, cp, G, Nat.zero_le _, rfl, by simpa using hacc⟩
      case round =>
        clear hacc
        obtain ⟨j, cp, G, hj, rfl, hacc⟩ := hrel
        have hlt0 := hacc.lt
        by_cases hjt : j < N
        · have hk := (cell_prod M hlt hjt hMN).1
          have g0 : wr.cell? ⟨w.heap.size, 0, none⟩ = some (.int .i64 R1) := hacc.ext.cell_some (by simp [go_sem])
          have g1 : wr.cell? ⟨w.heap.size, 1, none⟩ = some (.int .i64 C1) := hacc.ext.cell_some (by simp [go_sem])
          have g2 : wr.cell? ⟨w.heap.size, 2, none⟩ = some (.slice A n cap) := hacc.ext.cell_some (by simp [go_sem])
          have g3 : wr.cell? ⟨w.heap.size + 1, 0, none⟩ = some (.int .i64 R2) := hacc.ext.cell_some (by simp [go_sem])
          have g4 : wr.cell? ⟨w.heap.size + 1, 1, none⟩ = some (.int .i64 C2) := hacc.ext.cell_some (by simp [go_sem])
          have g5 : wr.cell? ⟨w.heap.size + 1, 2, none⟩ = some (.slice B n' cap') := hacc.ext.cell_some (by simp [go_sem])
          have y0 : w.heap.size < wr.heap.size := by omega
          have y1 : w.heap.size + 1 < wr.heap.size := by omega
          have hwW : Ext w wr := Ext.trans (show Ext w (more (((w.alloc (.cells #[.int .i64 R1, .int .i64 C1, .slice A n cap] 34)).alloc (.cells #[.int .i64 R2, .int .i64 C2, .slice B n' cap'] 34)).alloc (.cells #[.int .i64 0, .int .i64 0, .slice none 0 0] 34)) (os ++ (os1 ++ (os2 ++ os3))) d3) from by with_reducible repeat (first | exact Ext.refl _ | exact ext_app _ _ _ _ _ | exact ext_app2 _ _ _ _ _ _ | apply Ext.drew | apply Ext.alloc | apply Ext.more_)) hacc.ext
          have hA' := h.ext hwW
          have hB' := h'.ext hwW
          have hGv : GG r j = bothV (opV g) (spreadO R1 C1 l r j) (spreadO R2 C2 l' r j) := by rw [← HGG.out]
          have hvs := vals_succ GG N r j hjt
          generalize hx : orZero (spreadO R1 C1 l r j) = x
          generalize hkx : (spreadO R1 C1 l r j).isSome = kx
          generalize hy : orZero (spreadO R2 C2 l' r j) = y
          generalize hky : (spreadO R2 C2 l' r j).isSome = ky
          have HA := Lib.hid (And.intro hx hkx)
          have HB := Lib.hid (And.intro hy hky)
          cases hboth : (kx && ky) with
          | false =>
            have hz : GG r j = badV 6 := by
              rw [hGv]
              cases e1 : spreadO R1 C1 l r j with
              | none => rfl
              | some x0 =>
                cases e2 : spreadO R2 C2 l' r j with
                | none => rfl
                | some y0 => rw [← hkx, ← hky, e1, e2] at hboth; cases hboth
            have HV := Lib.hid (And.intro hz hvs)
            clear hz hvs hGv hx hkx hy hky
            have hb2 : kx = false ∨ kx = true ∧ ky = false := by cases kx <;> simp_all
            clear hboth
            rcases hb2 with rfl | ⟨rfl, rfl⟩
            all_goals
              go_wp2_with fail
              refine (refAt_c R1 C1 r j A n cap l _ (hA'.ext (by with_reducible repeat (first | exact Ext.refl _ | exact ext_app _ _ _ _ _ | exact ext_app2 _ _ _ _ _ _ | apply Ext.drew | apply Ext.alloc | apply Ext.more_))) HN.out.1 hN1 x _ HA.out.1 HA.out.2).mono ?_; rintro e w' ⟨rfl, hb⟩; obtain ⟨os11, d11, rfl⟩ := hb.more; clear hb
              go_wp2_with fail
              refine (refAt_c R2 C2 r j B n' cap' l' _ (hB'.ext (by with_reducible repeat (first | exact Ext.refl _ | exact ext_app _ _ _ _ _ | exact ext_app2 _ _ _ _ _ _ | apply Ext.drew | apply Ext.alloc | apply Ext.more_))) HN.out.2 hN2 y _ HB.out.1 HB.out.2).mono ?_; rintro e w' ⟨rfl, hb⟩; obtain ⟨os12, d12, rfl⟩ := hb.more; clear hb
              go_upto_region 19 with fail
              refine wp_world fun W5 hW5 => ?_
              have hx5 : Ext wr W5 := by rw [hW5]; exact by with_reducible repeat (first | exact Ext.refl _ | exact ext_app _ _ _ _ _ | exact ext_app2 _ _ _ _ _ _ | apply Ext.drew | apply Ext.alloc | apply Ext.more_)
              clear hW5 g0 g1 g2 g3 g4 g5
              have hacc := hacc.of_ext hx5
              refine wp_plan (S := AccS _ _ _ _ _ _ _) [(0, 0), (1, 0), (2, 1), (3, 1), (4, 1), (5, 0), (6, 2)] [6] (by kernel_rfl) (by kernel_rfl) (by kernel_rfl) (fun _ _ d _ _ h => by cases d <;> exact h) ⟨(hacc.of_ext (by repeat (first | exact Ext.refl _ | (with_reducible (first | exact ext_d _ _ _ _ | exact ext_app _ _ _ _ _ | apply Ext.drew | apply Ext.alloc | apply Ext.more_)) | apply Ext.drew | apply Ext.alloc | apply Ext.more_))).ext, (hacc.of_ext (by repeat (first | exact Ext.refl _ | (with_reducible (first | exact ext_d _ _ _ _ | exact ext_app _ _ _ _ _ | apply Ext.drew | apply Ext.alloc | apply Ext.more_)) | apply Ext.drew | apply Ext.alloc | apply Ext.more_))).row⟩ ?_
              iterate 2 ((refine wpPl_read (v := ?_) rfl ?_ (fun w1 h1 => ?_) ?_; rotate_left 1; rfl; (obtain ⟨h1e, h1r⟩ := h1; have c2 := cell_of_row _ _ 2 _ _ _ h1r; clear h1r; obtain ⟨os1, d1, rfl⟩ := h1e.more; (try simp only [more_more, Array.append_assoc] at c2); go_simp; first | done | rfl)); try simp only [Act.put, zqA, zqB, zqC])
              (refine wpPl_eff rfl ?_ (fun K hK => ?_); rfl; go_simp; refine (hb6 _).mono ?_; rintro e w' ⟨rfl, hb⟩; obtain ⟨os, d, rfl⟩ := hb.more; clear hb; refine hK _ _ ⟨(hacc.of_ext (by repeat (first | exact Ext.refl _ | (with_reducible (first | exact ext_d _ _ _ _ | exact ext_app _ _ _ _ _ | apply Ext.drew | apply Ext.alloc | apply Ext.more_)) | apply Ext.drew | apply Ext.alloc | apply Ext.more_))).ext, (hacc.of_ext (by repeat (first | exact Ext.refl _ | (with_reducible (first | exact ext_d _ _ _ _ | exact ext_app _ _ _ _ _ | apply Ext.drew | apply Ext.alloc | apply Ext.more_)) | apply Ext.drew | apply Ext.alloc | apply Ext.more_))).row⟩ ?_)
              try simp only [Act.put, zqA, zqB, zqC]
              (refine wpPl_eff rfl ?_ (fun K hK => ?_); rfl; go_simp; refine hK _ _ ⟨(hacc.of_ext (by repeat (first | exact Ext.refl _ | (with_reducible (first | exact ext_d _ _ _ _ | exact ext_app _ _ _ _ _ | apply Ext.drew | apply Ext.alloc | apply Ext.more_)) | apply Ext.drew | apply Ext.alloc | apply Ext.more_))).ext, (hacc.of_ext (by repeat (first | exact Ext.refl _ | (with_reducible (first | exact ext_d _ _ _ _ | exact ext_app _ _ _ _ _ | apply Ext.drew | apply Ext.alloc | apply Ext.more_)) | apply Ext.drew | apply Ext.alloc | apply Ext.more_))).row⟩ ?_)
              try simp only [Act.put, zqA, zqB, zqC]
              (refine wpPl_eff rfl ?_ (fun K hK => ?_); rfl)
              refine wp_append_own _ _ _ _ rfl _ 26 i0 (VV 0 0 0 ⟨#[]⟩ false 0) 6 56 Tryz.underlying22 hi0 hz0 hz1 hz2 rfl (by decide) _ _ _ rfl (own_ext hacc.own (by repeat (first | exact Ext.refl _ | (with_reducible (first | exact ext_d _ _ _ _ | exact ext_app _ _ _ _ _ | apply Ext.drew | apply Ext.alloc | apply Ext.more_)) | apply Ext.drew | apply Ext.alloc | apply Ext.more_))) _ 1 1 (Val.cells (badV 6)) rfl rfl (new_cells_at _ _ _ (by simp) rfl _) (cells_one _) (by simp only [maxLen]; omega) (by omega) (by have := hacc.lt; simp; omega) ?_
              intro v3 w3 ho3 hg3
              obtain ⟨A2, cap2, rfl, hrow3, hex3, hacc2⟩ := hacc.step (by repeat (first | exact Ext.refl _ | (with_reducible (first | exact ext_d _ _ _ _ | exact ext_app _ _ _ _ _ | apply Ext.drew | apply Ext.alloc | apply Ext.more_)) | apply Ext.drew | apply Ext.alloc | apply Ext.more_)) hg3 ho3
              refine hK _ _ ⟨hex3, hrow3⟩ ?_
              try simp only [Act.put, zqA, zqB, zqC]
              (refine wpPl_read (v := ?_) rfl ?_ (fun w1 h1 => ?_) ?_; rotate_left 1; rfl; (obtain ⟨h1e, h1r⟩ := h1; have c2 := cell_of_row _ _ 2 _ _ _ h1r; clear h1r; obtain ⟨os1, d1, rfl⟩ := h1e.more; (try simp only [more_more, Array.append_assoc] at c2); go_simp; first | done | rfl))
              try simp only [Act.put, zqA, zqB, zqC]
              have c2 := cell_of_row _ _ 2 _ _ _ hrow3
              have f2 := frozen_of_row _ _ 2 _ _ hrow3
              clear hrow3 hex3 hg3 ho3
              (refine wpPl_tail rfl ?_ (fun K hK => ?_); rfl; go_simp; refine hK _ _ ?_)
              clear c2 f2
              try simp only [Act.put]
              refine wpPl_nil ?_
              go_wp2
              refine ⟨⟨j + 1, cap2, A2, by omega, by go_num, ?_⟩, by simp [intOf]; omega⟩
              rw [show r * N + (j + 1) = r * N + j + 1 by omega, HV.out.2, HV.out.1]
              exact hacc2
          | true =>
            simp only [Bool.and_eq_true] at hboth
            obtain ⟨rfl, rfl⟩ := hboth
            obtain ⟨x0, e1⟩ := Option.isSome_iff_exists.1 hkx
            obtain ⟨y0', e2⟩ := Option.isSome_iff_exists.1 hky
            have e3 : x0 = x := by rw [← hx, e1]; rfl
            have e4 : y0' = y := by rw [← hy, e2]; rfl
            subst e3 e4
            have rx : x0.right := spread_all HL.out.1 HRR.out.1 e1
            have ry : y0'.right := spread_all HL.out.2 HRR.out.2 e2
            generalize hzz : opV g x0 y0' = z
            have hz : GG r j = z := by
              rw [hGv, e1, e2, ← hzz]
              exact oneV_right (right_op g rx ry)
            have hof := fun W => ho2 x0 y0' W rx ry
            rw [hzz] at hof
            have HV := Lib.hid (And.intro hz hvs)
            clear hz hvs hGv hx hkx hy hky e1 e2 hzz rx ry
            go_wp2_with fail
            refine (refAt_c R1 C1 r j A n cap l _ (hA'.ext (by with_reducible repeat (first | exact Ext.refl _ | exact ext_app _ _ _ _ _ | exact ext_app2 _ _ _ _ _ _ | apply Ext.drew | apply Ext.alloc | apply Ext.more_))) HN.out.1 hN1 x0 true HA.out.1 HA.out.2).mono ?_; rintro e w' ⟨rfl, hb⟩; obtain ⟨os11, d11, rfl⟩ := hb.more; clear hb
            go_wp2_with fail
            refine (refAt_c R2 C2 r j B n' cap' l' _ (hB'.ext (by with_reducible repeat (first | exact Ext.refl _ | exact ext_app _ _ _ _ _ | exact ext_app2 _ _ _ _ _ _ | apply Ext.drew | apply Ext.alloc | apply Ext.more_))) HN.out.2 hN2 y0' true HB.out.1 HB.out.2).mono ?_; rintro e w' ⟨rfl, hb⟩; obtain ⟨os12, d12, rfl⟩ := hb.more; clear hb
            go_upto_region 18 with fail
            refine wp_world fun W5 hW5 => ?_
            have hx5 : Ext wr W5 := by rw [hW5]; exact by with_reducible repeat (first | exact Ext.refl _ | exact ext_app _ _ _ _ _ | exact ext_app2 _ _ _ _ _ _ | apply Ext.drew | apply Ext.alloc | apply Ext.more_)
            have hv1 : W5.heap[wr.heap.size + os11.size]? = some (.cells #[.int .i64 x0.kind, .int .i64 x0.mant, .int .i64 x0.exp, .string x0.text, .bool x0.truth, .int .i64 x0.fault] 26) := by
              rw [hW5, Below.heap_alloc _ _ _ (by first | (simp; done) | (simp; omega) | omega), (ext_more _ _ _).block (by first | (simp; done) | (simp; omega) | omega)]
              have := heap_alloc_new (more wr os11 d11) (.cells #[.int .i64 x0.kind, .int .i64 x0.mant, .int .i64 x0.exp, .string x0.text, .bool x0.truth, .int .i64 x0.fault] 26)
              simpa using this
            have hv2 : W5.heap[wr.heap.size + os11.size + 1 + os12.size]? = some (.cells #[.int .i64 y0'.kind, .int .i64 y0'.mant, .int .i64 y0'.exp, .string y0'.text, .bool y0'.truth, .int .i64 y0'.fault] 26) := by
              rw [hW5]
              have := heap_alloc_new (more ((more wr os11 d11).alloc (.cells #[.int .i64 x0.kind, .int .i64 x0.mant, .int .i64 x0.exp, .string x0.text, .bool x0.truth, .int .i64 x0.fault] 26)) os12 d12) (.cells #[.int .i64 y0'.kind, .int .i64 y0'.mant, .int .i64 y0'.exp, .string y0'.text, .bool y0'.truth, .int .i64 y0'.fault] 26)
              simpa using this
            have hv1_ne := hacc.own_ne (p := wr.heap.size + os11.size) (by omega)
            have hv2_ne := hacc.own_ne (p := wr.heap.size + os11.size + 1 + os12.size) (by omega)
            clear hW5 g0 g1 g2 g3 g4 g5
            have hacc := hacc.of_ext hx5
            refine wp_plan (S := fun Wq => AccS _ _ _ _ _ _ _ Wq ∧ Wq.heap[_]? = some _ ∧ Wq.heap[_]? = some _) [(0, 0), (1, 0), (2, 0), (3, 0), (4, 0), (5, 1), (6, 1), (7, 1), (8, 0), (9, 2)] [9] (by kernel_rfl) (by kernel_rfl) (by kernel_rfl) (fun _ _ d _ _ h => by cases d <;> exact h) ⟨⟨(hacc.of_ext (by repeat (first | exact Ext.refl _ | (with_reducible (first | exact ext_d _ _ _ _ | exact ext_app _ _ _ _ _ | apply Ext.drew | apply Ext.alloc | apply Ext.more_)) | apply Ext.drew | apply Ext.alloc | apply Ext.more_))).ext, (hacc.of_ext (by repeat (first | exact Ext.refl _ | (with_reducible (first | exact ext_d _ _ _ _ | exact ext_app _ _ _ _ _ | apply Ext.drew | apply Ext.alloc | apply Ext.more_)) | apply Ext.drew | apply Ext.alloc | apply Ext.more_))).row⟩, row_ext hv1 (by repeat (first | exact Ext.refl _ | (with_reducible (first | exact ext_d _ _ _ _ | exact ext_app _ _ _ _ _ | apply Ext.drew | apply Ext.alloc | apply Ext.more_)) | apply Ext.drew | apply Ext.alloc | apply Ext.more_)), row_ext hv2 (by repeat (first | exact Ext.refl _ | (with_reducible (first | exact ext_d _ _ _ _ | exact ext_app _ _ _ _ _ | apply Ext.drew | apply Ext.alloc | apply Ext.more_)) | apply Ext.drew | apply Ext.alloc | apply Ext.more_))⟩ ?_
            iterate 5 ((refine wpPl_read (v := ?_) rfl ?_ (fun w1 h1 => ?_) ?_; rotate_left 1; rfl; (obtain ⟨⟨h1e, h1r⟩, g0, g1⟩ := h1; have c2 := cell_of_row _ _ 2 _ _ _ h1r; have a00 := cell_of_row _ _ 0 _ _ _ g0; have a01 := cell_of_row _ _ 1 _ _ _ g0; have a02 := cell_of_row _ _ 2 _ _ _ g0; have a03 := cell_of_row _ _ 3 _ _ _ g0; have a04 := cell_of_row _ _ 4 _ _ _ g0; have a05 := cell_of_row _ _ 5 _ _ _ g0; have a10 := cell_of_row _ _ 0 _ _ _ g1; have a11 := cell_of_row _ _ 1 _ _ _ g1; have a12 := cell_of_row _ _ 2 _ _ _ g1; have a13 := cell_of_row _ _ 3 _ _ _ g1; have a14 := cell_of_row _ _ 4 _ _ _ g1; have a15 := cell_of_row _ _ 5 _ _ _ g1; clear h1r h1e g0 g1; go_simp; first | done | rfl)); try simp only [Act.put, zqA, zqB, zqC])
            (refine wpPl_eff rfl ?_ (fun K hK => ?_); rfl; go_simp; refine (hof _).mono ?_; rintro e w' ⟨rfl, hb⟩; obtain ⟨os, d, rfl⟩ := hb.more; clear hb; refine hK _ _ ⟨⟨(hacc.of_ext (by repeat (first | exact Ext.refl _ | (with_reducible (first | exact ext_d _ _ _ _ | exact ext_app _ _ _ _ _ | apply Ext.drew | apply Ext.alloc | apply Ext.more_)) | apply Ext.drew | apply Ext.alloc | apply Ext.more_))).ext, (hacc.of_ext (by repeat (first | exact Ext.refl _ | (with_reducible (first | exact ext_d _ _ _ _ | exact ext_app _ _ _ _ _ | apply Ext.drew | apply Ext.alloc | apply Ext.more_)) | apply Ext.drew | apply Ext.alloc | apply Ext.more_))).row⟩, row_ext hv1 (by repeat (first | exact Ext.refl _ | (with_reducible (first | exact ext_d _ _ _ _ | exact ext_app _ _ _ _ _ | apply Ext.drew | apply Ext.alloc | apply Ext.more_)) | apply Ext.drew | apply Ext.alloc | apply Ext.more_)), row_ext hv2 (by repeat (first | exact Ext.refl _ | (with_reducible (first | exact ext_d _ _ _ _ | exact ext_app _ _ _ _ _ | apply Ext.drew | apply Ext.alloc | apply Ext.more_)) | apply Ext.drew | apply Ext.alloc | apply Ext.more_))⟩ ?_)
            try simp only [Act.put, zqA, zqB, zqC]
            (refine wpPl_eff rfl ?_ (fun K hK => ?_); rfl; go_simp; refine hK _ _ ⟨⟨(hacc.of_ext (by repeat (first | exact Ext.refl _ | (with_reducible (first | exact ext_d _ _ _ _ | exact ext_app _ _ _ _ _ | apply Ext.drew | apply Ext.alloc | apply Ext.more_)) | apply Ext.drew | apply Ext.alloc | apply Ext.more_))).ext, (hacc.of_ext (by repeat (first | exact Ext.refl _ | (with_reducible (first | exact ext_d _ _ _ _ | exact ext_app _ _ _ _ _ | apply Ext.drew | apply Ext.alloc | apply Ext.more_)) | apply Ext.drew | apply Ext.alloc | apply Ext.more_))).row⟩, row_ext hv1 (by repeat (first | exact Ext.refl _ | (with_reducible (first | exact ext_d _ _ _ _ | exact ext_app _ _ _ _ _ | apply Ext.drew | apply Ext.alloc | apply Ext.more_)) | apply Ext.drew | apply Ext.alloc | apply Ext.more_)), row_ext hv2 (by repeat (first | exact Ext.refl _ | (with_reducible (first | exact ext_d _ _ _ _ | exact ext_app _ _ _ _ _ | apply Ext.drew | apply Ext.alloc | apply Ext.more_)) | apply Ext.drew | apply Ext.alloc | apply Ext.more_))⟩ ?_)
            try simp only [Act.put, zqA, zqB, zqC]
            (refine wpPl_eff rfl ?_ (fun K hK => ?_); rfl)
            refine wp_append_own _ _ _ _ rfl _ 26 i0 (VV 0 0 0 ⟨#[]⟩ false 0) 6 56 Tryz.underlying22 hi0 hz0 hz1 hz2 rfl (by decide) _ _ _ rfl (own_ext hacc.own (by repeat (first | exact Ext.refl _ | (with_reducible (first | exact ext_d _ _ _ _ | exact ext_app _ _ _ _ _ | apply Ext.drew | apply Ext.alloc | apply Ext.more_)) | apply Ext.drew | apply Ext.alloc | apply Ext.more_))) _ 1 1 (Val.cells z) rfl rfl (new_cells_at _ _ _ (by simp) rfl _) (cells_one _) (by simp only [maxLen]; omega) (by omega) (by have := hacc.lt; simp; omega) ?_
            intro v3 w3 ho3 hg3
            have hv1_3 := hacc.row_kept hv1_ne hg3 (row_ext hv1 (by repeat (first | exact Ext.refl _ | (with_reducible (first | exact ext_d _ _ _ _ | exact ext_app _ _ _ _ _ | apply Ext.drew | apply Ext.alloc | apply Ext.more_)) | apply Ext.drew | apply Ext.alloc | apply Ext.more_)))
            have hv2_3 := hacc.row_kept hv2_ne hg3 (row_ext hv2 (by repeat (first | exact Ext.refl _ | (with_reducible (first | exact ext_d _ _ _ _ | exact ext_app _ _ _ _ _ | apply Ext.drew | apply Ext.alloc | apply Ext.more_)) | apply Ext.drew | apply Ext.alloc | apply Ext.more_)))
            obtain ⟨A2, cap2, rfl, hrow3, hex3, hacc2⟩ := hacc.step (by repeat (first | exact Ext.refl _ | (with_reducible (first | exact ext_d _ _ _ _ | exact ext_app _ _ _ _ _ | apply Ext.drew | apply Ext.alloc | apply Ext.more_)) | apply Ext.drew | apply Ext.alloc | apply Ext.more_)) hg3 ho3
            refine hK _ _ ⟨⟨hex3, hrow3⟩, hv1_3, hv2_3⟩ ?_
            try simp only [Act.put, zqA, zqB, zqC]
            (refine wpPl_read (v := ?_) rfl ?_ (fun w1 h1 => ?_) ?_; rotate_left 1; rfl; (obtain ⟨⟨h1e, h1r⟩, g0, g1⟩ := h1; have c2 := cell_of_row _ _ 2 _ _ _ h1r; have a00 := cell_of_row _ _ 0 _ _ _ g0; have a01 := cell_of_row _ _ 1 _ _ _ g0; have a02 := cell_of_row _ _ 2 _ _ _ g0; have a03 := cell_of_row _ _ 3 _ _ _ g0; have a04 := cell_of_row _ _ 4 _ _ _ g0; have a05 := cell_of_row _ _ 5 _ _ _ g0; have a10 := cell_of_row _ _ 0 _ _ _ g1; have a11 := cell_of_row _ _ 1 _ _ _ g1; have a12 := cell_of_row _ _ 2 _ _ _ g1; have a13 := cell_of_row _ _ 3 _ _ _ g1; have a14 := cell_of_row _ _ 4 _ _ _ g1; have a15 := cell_of_row _ _ 5 _ _ _ g1; clear h1r h1e g0 g1; go_simp; first | done | rfl))
            try simp only [Act.put, zqA, zqB, zqC]
            have c2 := cell_of_row _ _ 2 _ _ _ hrow3
            have f2 := frozen_of_row _ _ 2 _ _ hrow3
            clear hrow3 hex3 hg3 ho3 hv1_3 hv2_3
            (refine wpPl_tail rfl ?_ (fun K hK => ?_); rfl; go_simp; refine hK _ _ ?_)
            clear c2 f2
            try simp only [Act.put]
            refine wpPl_nil ?_
            go_wp2
            refine ⟨⟨j + 1, cap2, A2, by omega, by go_num, ?_⟩, by simp [intOf]; omega⟩
            rw [show r * N + (j + 1) = r * N + j + 1 by omega, HV.out.2, HV.out.1]
            exact hacc2
        · obtain rfl : j = N := by omega
          go_wp2
          refine ⟨⟨r + 1, cp, G, by omega, by go_num, by rw [Nat.succ_mul]; exact hacc⟩, by simp [intOf]; omega⟩
    · obtain rfl : r = M := by omega
      have q0 : wr.cell? ⟨w.heap.size + 1 + 1, 0, none⟩ = some (.int .i64 0) := hacc.ext.cell_some (by simp [go_sem]); have q1 : wr.cell? ⟨w.heap.size + 1 + 1, 1, none⟩ = some (.int .i64 0) := hacc.ext.cell_some (by simp [go_sem]); have q2 : wr.cell? ⟨w.heap.size + 1 + 1, 2, none⟩ = some (.slice none 0 0) := hacc.ext.cell_some (by simp [go_sem]); have q3 : wr.frozen? ⟨w.heap.size + 1 + 1, 0, none⟩ = false := (hacc.ext.frozen (p := ⟨w.heap.size + 1 + 1, 0, none⟩) (by simp; try omega)).trans (by simp [go_sem]); have q4 : wr.frozen? ⟨w.heap.size + 1 + 1, 1, none⟩ = false := (hacc.ext.frozen (p := ⟨w.heap.size + 1 + 1, 1, none⟩) (by simp; try omega)).trans (by simp [go_sem]); have q5 : wr.frozen? ⟨w.heap.size + 1 + 1, 2, none⟩ = false := (hacc.ext.frozen (p := ⟨w.heap.size + 1 + 1, 2, none⟩) (by simp; try omega)).trans (by simp [go_sem]); have c0 := cell_of_row _ _ 0 _ _ _ hacc.row; have c1 := cell_of_row _ _ 1 _ _ _ hacc.row; have c2 := cell_of_row _ _ 2 _ _ _ hacc.row
      go_wp2
      obtain ⟨hrd, hcp⟩ := hacc.rd
      refine bodyPost_ret (v := .tuple #[AV r N (.slice G (r * N) cp), .bool true]) (by simp [results, Tryz.results31, go_sem, q0, q1, q2]) rfl ⟨G, r * N, cp, rfl, ⟨?_, HLEN, hcp, by omega, HOK.out⟩, ?_⟩
      · exact Rd.mono (((hrd.set_far _ (by first | (simp; done) | (simp; omega) | omega)).set_far _ (by first | (simp; done) | (simp; omega) | omega)).set_far _ (by first | (simp; done) | (simp; omega) | omega)) (by omega)
      · exact Ext.set (Ext.set (Ext.set (Ext.trans (by with_reducible repeat (first | exact Ext.refl _ | exact ext_app _ _ _ _ _ | exact ext_app2 _ _ _ _ _ _ | apply Ext.drew | apply Ext.alloc | apply Ext.more_)) hacc.ext) _ (by first | (simp; done) | (simp; omega) | omega)) _ (by first | (simp; done) | (simp; omega) | omega)) _ (by first | (simp; done) | (simp; omega) | omega)
theorem rbinary_yes (g : Sg) (r c r' c' : Int) (A B : Option Addr) (n cap n' cap' : Nat) (l l' : List Val) (w : World) (h : ArrIn w A n cap l) (h' : ArrIn w B n' cap' l') (x : NA) (hx : bothRes (opV g) r c l r' c' l' = x) :
    Calls Tryz.prog 31 #[.string ⟨g.key.toArray⟩, AV r c (.slice A n cap), AV r' c' (.slice B n' cap')] w fun e w' => ∃ D m cc, e = .returned (.tuple #[AV x.R x.C (.slice D m cc), .bool true]) ∧ ArrN w.heap.size w' D m cc x.l ∧ Ext w w' := by
  cases hr : (rightA r c l && rightA r' c' l') with
  | false =>
    obtain rfl : x = ⟨1, 1, [bad9]⟩ := by rw [← hx]; simp [bothRes, hr]
    exact rbinary_wrong g r c r' c' A B n cap n' cap' l l' w h h' hr
  | true =>
    have hr2 := hr
    simp only [Bool.and_eq_true] at hr2
    obtain ⟨h1, h2⟩ := hr2
    obtain ⟨R, C, rfl, rfl, _⟩ := right_parts h1
    obtain ⟨R', C', rfl, rfl, _⟩ := right_parts h2
    by_cases hf : max R R' * max C C' ≤ 4096
    · obtain rfl : x = ⟨max R R', max C C', bothL (opV g) R C l R' C' l'⟩ := by rw [← hx]; simp [bothRes, h1, h2, hf]
      exact rbinary_right g R C R' C' A B n cap n' cap' l l' w h h' h1 h2 hf
    · obtain rfl : x = ⟨1, 1, [badV 5]⟩ := by rw [← hx]; simp [bothRes, h1, h2, hf]
      exact rbinary_great g R C R' C' A B n cap n' cap' l l' w h h' h1 h2 hf
end Go.Proofs.YteigcfflljoioaaGreatDoor
namespace Go.Proofs.YteigcfflljoioaaGreatDoor
open Go.RowKit NM
theorem rndx_right {m e : Int} (h : Rt m e) : rndI m e = some (m, e) := rnd_of_right false h
theorem rt_lit {m e : Int} (h0 : m ≠ 0) (h1 : m.natAbs < 1000000000000000) (h2 : m.natAbs % 10 ≠ 0) (h3 : -40 ≤ e) (h4 : e ≤ 25) : Rt m e := by
  have hn : nd m.natAbs ≤ 15 := (nd_le_iff _ _).2 (Nat.lt_of_lt_of_le h1 (by decide))
  exact Or.inr ⟨h0, Nat.lt_of_lt_of_le h1 (by decide), h2, h3, by omega⟩
end Go.Proofs.YteigcfflljoioaaGreatDoor
namespace Go.Proofs.YteigcfflljoioaaGreatDoor
open Go.RowKit NM
set_option maxHeartbeats 400000 in
theorem one10_any (x : Val) (w : World) (hx : x.ok) :
    Calls Tryz.prog 24 #[VV x.kind x.mant x.exp x.text x.truth x.fault] w fun e w' => ∃ D cc, e = .returned (AV 1 1 (.slice D 1 cc)) ∧ ArrN w.heap.size w' D 1 cc [x] ∧ Ext w w' := by
  obtain ⟨xk, xm, xe, xt, xb, xf⟩ := x
  go_enter Tryz.func24, Tryz.ntmps24
  go_wp2
  refine bodyPost_ret (v := AV 1 1 (.slice (some ⟨w.heap.size + 1 + 1, 0, none⟩) 1 1)) (by simp [results, Tryz.results24, go_sem]) rfl ⟨_, 1, rfl, ⟨?_, rfl, Nat.le_refl _, by omega, by simpa using hx⟩, by repeat (first | (with_reducible (first | exact Ext.refl _ | exact ext_d _ _ _ _ | exact ext_app _ _ _ _ _ | exact ext_app2 _ _ _ _ _ _ | exact ext_app3 _ _ _ _ _ _ _)) | ((with_reducible refine ext_suffix ⟨_, ?_⟩); (try simp only [Array.append_assoc]); rfl) | (with_reducible (first | apply Ext.drew | apply Ext.alloc | apply Ext.more_)))⟩
  exact SlV.one (by simp) (by omega)
def greatB (r c : Int) (n : Nat) : Bool := decide ((60 : Int) < n) || decide (100000 < r) || decide (100000 < c)
set_option maxHeartbeats 400000 in
theorem great_any (r c : Int) (A : Option Addr) (n cap : Nat) (w : World) :
    Calls Tryz.prog 28 #[AV r c (.slice A n cap)] w fun e w' => e = .returned (.bool (greatB r c n)) ∧ Ext w w' := by
  unfold greatB
  go_enter Tryz.func28, Tryz.ntmps28
  go_upto_region 1 with (fail)
  refine wp_region_lit ?_
  iterate 5 ((refine wpL_read (v := ?_) rfl ?_ ?_; rotate_left 1; (go_simp; first | done | rfl)); try simp only [Act.put, zqA, zqB, zqC])
  iterate 3 ((refine wpL_gread (v := ?_) (c := ?_) rfl rfl rfl ?_ (fun hc => ?_) ?_; rotate_left 2; (first | exact gc_t _ | exact gc_f _ | exact gc_gt _ _ | exact gc_gf _ _); ((try simp only [gv_of hc]); (try (have hc1 := and_l hc; (try simp only [gv_of hc1]); (try (have hc2 := and_l hc1; (try simp only [gv_of hc2]))))); go_simp; first | done | rfl)); try simp only [Act.put, zqA, zqB, zqC])
  first | (refine wpL_pick_and rfl rfl rfl rfl rfl ?_) | (refine wpL_pick_or rfl rfl rfl rfl rfl ?_)
  try simp only [Act.put, zqA, zqB, zqC]
  (refine wpL_read (v := ?_) rfl ?_ ?_; rotate_left 1; (go_simp; first | done | rfl))
  try simp only [Act.put, zqA, zqB, zqC]
  iterate 3 ((refine wpL_gread (v := ?_) (c := ?_) rfl rfl rfl ?_ (fun hc => ?_) ?_; rotate_left 2; (first | exact gc_t _ | exact gc_f _ | exact gc_gt _ _ | exact gc_gf _ _); ((try simp only [gv_of hc]); (try (have hc1 := and_l hc; (try simp only [gv_of hc1]); (try (have hc2 := and_l hc1; (try simp only [gv_of hc2]))))); go_simp; first | done | rfl)); try simp only [Act.put, zqA, zqB, zqC])
  first | (refine wpL_pick_and rfl rfl rfl rfl rfl ?_) | (refine wpL_pick_or rfl rfl rfl rfl rfl ?_)
  try simp only [Act.put, zqA, zqB, zqC]
  (refine wpL_read (v := ?_) rfl ?_ ?_; rotate_left 1; (go_simp; first | done | rfl))
  try simp only [Act.put, zqA, zqB, zqC]
  refine wpList_nil ?_
  try go_simp
  go_wp2
  go_ret
  exact ⟨rfl, by repeat (first | (with_reducible (first | exact Ext.refl _ | exact ext_d _ _ _ _ | exact ext_app _ _ _ _ _ | exact ext_app2 _ _ _ _ _ _ | exact ext_app3 _ _ _ _ _ _ _)) | ((with_reducible refine ext_suffix ⟨_, ?_⟩); (try simp only [Array.append_assoc]); rfl) | (with_reducible (first | apply Ext.drew | apply Ext.alloc | apply Ext.more_)))⟩
theorem rightA_one {x : Val} (h : x.right) : rightA 1 1 [x] = true := by
  have h' : valRight x = true := h
  simp [rightA, fitsB, h']
theorem both_one (g : Sg) {x y : Val} (hx : x.right) (hy : y.right) : bothRes (opV g) 1 1 [x] 1 1 [y] = ⟨1, 1, [opV g x y]⟩ := by
  unfold bothRes
  rw [rightA_one hx, rightA_one hy]
  have : bothL (opV g) 1 1 [x] 1 1 [y] = [oneV (opV g x y)] := rfl
  rw [oneV_right (right_op g hx hy)] at this
  simp only [Bool.and_self, if_true]
  rw [if_pos (by decide)]
  exact congrArg (NA.mk 1 1) this
theorem par_two : parS ⟨#[50]⟩ = some (2, 0) := by
  unfold parS
  rw [if_neg (by decide)]
  exact rndx_right (m := 2) (e := 0) (rt_lit (by decide) (by decide) (by decide) (by decide) (by decide))
def twoV : Val := ⟨2, 0, 0, ⟨#[50]⟩, false, 0⟩
theorem right_two : twoV.right := by
  have := right_text ⟨#[50]⟩
  exact this
theorem add_awake : opV .add twoV (truthV true) = numV 3 := by
  show reckV addS _ _ = _
  unfold reckV
  have h1 : tnF twoV = 0 := by unfold tnF twoV; simp [par_two]
  have h2 : tnP twoV = (2, 0) := by unfold tnP twoV; simp [par_two]
  have h3 : tnF (truthV true) = 0 := rfl
  have h4 : tnP (truthV true) = (1, 0) := rfl
  rw [h1, h2, h3, h4, if_neg (by decide), if_neg (by decide)]
  have : addS 2 0 1 0 = some (3, 0) := by
    unfold addS
    rw [if_pos ⟨rt_lit (by decide) (by decide) (by decide) (by decide) (by decide), rt_lit (by decide) (by decide) (by decide) (by decide) (by decide)⟩]
    exact rndx_right (m := 3) (e := 0) (rt_lit (by decide) (by decide) (by decide) (by decide) (by decide))
  show numRes (addS 2 0 1 0) = _
  rw [this]; rfl
set_option maxHeartbeats 1000000 in
theorem awake10_any (w : World) (htab : Tab w) :
    Calls Tryz.prog 21 #[] w fun e w' => e = .returned (.bool true) ∧ Ext w w' := by
  have hA := both_one .add right_two (right_truth true)
  rw [add_awake] at hA
  have HA := Lib.hid hA
  have HT := Lib.hid htab
  clear hA htab
  have h1 := fun W => one10_any twoV W right_two.ok
  have h2 := fun W => one10_any (truthV true) W (right_truth true).ok
  have h3 := fun W => one10_any (numV 3) W (Val.right.ok (right_num (rt_lit (by decide) (by decide) (by decide) (by decide) (by decide))))
  have hs1 : sameA 1 1 [numV 3] 1 1 [numV 3] = true := by simp [sameA]
  simp only [twoV, truthV, numV] at h1 h2 h3
  go_enter Tryz.func21, Tryz.ntmps21
  go_wp2_with fail
  refine (h1 _).mono ?_; rintro e w' ⟨D1, c1, rfl, hN1, hb⟩; obtain ⟨os1, d1, rfl⟩ := hb.more; clear hb; have hD1 := hN1.arr; clear hN1; (try simp only [more_more, drew_more, more_drew, Array.append_assoc] at hD1)
  go_wp2_with fail
  refine (h2 _).mono ?_; rintro e w' ⟨D2, c2, rfl, hN2, hb⟩; obtain ⟨os2, d2, rfl⟩ := hb.more; clear hb; have hD2 := hN2.arr; clear hN2; (try simp only [more_more, drew_more, more_drew, Array.append_assoc] at hD2)
  go_wp2_with fail
  refine (binary_yes .add ⟨#[43]⟩ 1 1 1 1 _ _ _ _ _ _ [twoV] [truthV true] _ (HT.out.ext (by repeat (first | (with_reducible (first | exact Ext.refl _ | exact ext_d _ _ _ _ | exact ext_app _ _ _ _ _ | exact ext_app2 _ _ _ _ _ _ | exact ext_app3 _ _ _ _ _ _ _)) | ((with_reducible refine ext_suffix ⟨_, ?_⟩); (try simp only [Array.append_assoc]); rfl) | (with_reducible (first | apply Ext.drew | apply Ext.alloc | apply Ext.more_))))) (by decide) rfl (hD1.ext (by repeat (first | (with_reducible (first | exact Ext.refl _ | exact ext_d _ _ _ _ | exact ext_app _ _ _ _ _ | exact ext_app2 _ _ _ _ _ _ | exact ext_app3 _ _ _ _ _ _ _)) | ((with_reducible refine ext_suffix ⟨_, ?_⟩); (try simp only [Array.append_assoc]); rfl) | (with_reducible (first | apply Ext.drew | apply Ext.alloc | apply Ext.more_))))) (hD2.ext (by repeat (first | (with_reducible (first | exact Ext.refl _ | exact ext_d _ _ _ _ | exact ext_app _ _ _ _ _ | exact ext_app2 _ _ _ _ _ _ | exact ext_app3 _ _ _ _ _ _ _)) | ((with_reducible refine ext_suffix ⟨_, ?_⟩); (try simp only [Array.append_assoc]); rfl) | (with_reducible (first | apply Ext.drew | apply Ext.alloc | apply Ext.more_))))) ⟨1, 1, [numV 3]⟩ HA.out).mono ?_; rintro e w' ⟨D3, m3, c3, rfl, hN3, hb⟩; obtain ⟨os3, d3, rfl⟩ := hb.more; clear hb; have hD3 := hN3.arr; clear hN3; (try simp only [more_more, drew_more, more_drew, Array.append_assoc] at hD3)
  go_upto_region 2 with fail
  refine wp_plan (S := Ext _) [(0, 0), (1, 0), (2, 0), (3, 0), (4, 0), (5, 1), (6, 1), (7, 0), (8, 0)] [] (by kernel_rfl) (by kernel_rfl) (by kernel_rfl) (fun _ _ d _ _ h => by cases d <;> exact h) (Ext.drew (Ext.refl _)) ?_
  iterate 2 ((refine wpPl_read (v := ?_) rfl ?_ (fun _ h => ?_) ?_; rotate_left 1; rfl; (obtain ⟨_, _, rfl⟩ := h.more; go_simp; try rfl)); try simp only [Act.put, zqA, zqB, zqC])
  iterate 3 ((first | (refine wpPl_skip rfl rfl ?_) | (refine wpPl_read (v := ?_) rfl ?_ (fun w1 h1 => ?_) ?_; rotate_left 1; rfl; (obtain ⟨os1, d1, rfl⟩ := h1.more; go_simp; first | done | rfl)) | (refine wpPl_gread (v := ?_) (c := ?_) rfl rfl rfl rfl ?_ (fun hc w1 h1 => ?_) ?_; rotate_left 2; (first | exact gc_t _ | exact gc_f _ | exact gc_gt _ _ | exact gc_gf _ _); (obtain ⟨os1, d1, rfl⟩ := h1.more; (try simp only [gv_of hc]); (try (have hc1 := and_l hc; (try simp only [gv_of hc1]); (try (have hc2 := and_l hc1; (try simp only [gv_of hc2]))))); go_simp; first | done | rfl))); try simp only [Act.put, zqA, zqB, zqC])
  (refine wpPl_eff rfl ?_ (fun K hK => ?_); (first | with_reducible rfl | rfl | (go_simp; done)); go_simp; refine (h3 _).mono ?_; rintro e w' ⟨D4, c4, rfl, hN4, hb⟩; obtain ⟨os4, d4, rfl⟩ := hb.more; clear hb; have hD4 := hN4.arr; clear hN4; (try simp only [more_more, drew_more, more_drew, Array.append_assoc] at hD4); refine hK _ _ ?_ ?_; (repeat (first | (with_reducible (first | exact Ext.refl _ | exact ext_d _ _ _ _ | exact ext_app _ _ _ _ _ | exact ext_app2 _ _ _ _ _ _ | exact ext_app3 _ _ _ _ _ _ _ | exact ext_app4 _ _ _ _ _ _ _ _ | exact ext_app5 _ _ _ _ _ _ _ _ _)) | ((with_reducible refine ext_suffix ⟨_, ?_⟩); (try simp only [Array.append_assoc]); rfl) | (with_reducible (first | apply Ext.drew | apply Ext.alloc | apply Ext.more_)) | apply Ext.drew | apply Ext.alloc | apply Ext.more_)))
  try simp only [Act.put, zqA, zqB, zqC]
  (refine wpPl_eff rfl ?_ (fun K hK => ?_); (first | with_reducible rfl | rfl | (go_simp; done)); go_simp; refine (refSame_any _ _ _ _ _ _ _ _ _ _ [numV 3] [numV 3] _ (hD3.ext (by repeat (first | (with_reducible (first | exact Ext.refl _ | exact ext_d _ _ _ _ | exact ext_app _ _ _ _ _ | exact ext_app2 _ _ _ _ _ _ | exact ext_app3 _ _ _ _ _ _ _)) | ((with_reducible refine ext_suffix ⟨_, ?_⟩); (try simp only [Array.append_assoc]); rfl) | (with_reducible (first | apply Ext.drew | apply Ext.alloc | apply Ext.more_))))) (hD4.ext (by repeat (first | (with_reducible (first | exact Ext.refl _ | exact ext_d _ _ _ _ | exact ext_app _ _ _ _ _ | exact ext_app2 _ _ _ _ _ _ | exact ext_app3 _ _ _ _ _ _ _)) | ((with_reducible refine ext_suffix ⟨_, ?_⟩); (try simp only [Array.append_assoc]); rfl) | (with_reducible (first | apply Ext.drew | apply Ext.alloc | apply Ext.more_)))))).mono ?_; rintro e w' ⟨rfl, hb⟩; obtain ⟨os5, d5, rfl⟩ := hb.more; clear hb; refine hK _ _ ?_ ?_; (repeat (first | (with_reducible (first | exact Ext.refl _ | exact ext_d _ _ _ _ | exact ext_app _ _ _ _ _ | exact ext_app2 _ _ _ _ _ _ | exact ext_app3 _ _ _ _ _ _ _ | exact ext_app4 _ _ _ _ _ _ _ _ | exact ext_app5 _ _ _ _ _ _ _ _ _)) | ((with_reducible refine ext_suffix ⟨_, ?_⟩); (try simp only [Array.append_assoc]); rfl) | (with_reducible (first | apply Ext.drew | apply Ext.alloc | apply Ext.more_)) | apply Ext.drew | apply Ext.alloc | apply Ext.more_)))
  try simp only [Act.put, zqA, zqB, zqC]
  first | (refine wpPl_pick_and rfl rfl rfl rfl rfl rfl ?_) | (refine wpPl_pick_or rfl rfl rfl rfl rfl rfl ?_) | (refine wpPl_read (v := ?_) rfl ?_ (fun w1 h1 => ?_) ?_; rotate_left 1; rfl; (obtain ⟨os1, d1, rfl⟩ := h1.more; go_simp; first | done | rfl))
  try simp only [Act.put, zqA, zqB, zqC]
  (refine wpPl_read (v := ?_) rfl ?_ (fun _ h => ?_) ?_; rotate_left 1; rfl; (obtain ⟨_, _, rfl⟩ := h.more; go_simp; try rfl))
  try simp only [Act.put, zqA, zqB]
  refine wpPl_nil ?_
  go_wp2_with fail
  go_ret
  exact ⟨rfl, by repeat (first | (with_reducible (first | exact Ext.refl _ | exact ext_d _ _ _ _ | exact ext_app _ _ _ _ _ | exact ext_app2 _ _ _ _ _ _ | exact ext_app3 _ _ _ _ _ _ _)) | ((with_reducible refine ext_suffix ⟨_, ?_⟩); (try simp only [Array.append_assoc]); rfl) | (with_reducible (first | apply Ext.drew | apply Ext.alloc | apply Ext.more_)))⟩
end Go.Proofs.YteigcfflljoioaaGreatDoor
namespace Go.Proofs.YteigcfflljoioaaGreatDoor
open Go.RowKit NM
set_option maxHeartbeats 4000000 in
theorem operTwo_any (s : ByteArray) (r1 c1 r2 c2 : Int) (A1 A2 : Option Addr) (n1 cap1 n2 cap2 : Nat) (l1 l2 : List Val) (w : World) (htab : Tab w) (h1 : ArrIn w A1 n1 cap1 l1) (h2 : ArrIn w A2 n2 cap2 l2) :
    Calls Tryz.prog 8 #[.string s, AV r1 c1 (.slice A1 n1 cap1), AV r2 c2 (.slice A2 n2 cap2)] w fun e w' => e = .returned (.bool true) ∧ Ext w w' := by
  have HT := Lib.hid htab
  clear htab
  have g1 := fun W => great_any r1 c1 A1 n1 cap1 W
  have g2 := fun W => great_any r2 c2 A2 n2 cap2 W
  cases hb1 : greatB r1 c1 n1
  · rw [hb1] at g1
    cases hb2 : greatB r2 c2 n2
    · rw [hb2] at g2
      clear hb1 hb2
      by_cases hs : 100 < s.size
      · have q0 : (100 : Int) < (s.size : Int) := by omega
        go_enter Tryz.func8, Tryz.ntmps8
        go_wp2_with fail
        refine (awake10_any _ (HT.out.ext (by repeat (first | (with_reducible (first | exact Ext.refl _ | exact ext_d _ _ _ _ | exact ext_app _ _ _ _ _ | exact ext_app2 _ _ _ _ _ _ | exact ext_app3 _ _ _ _ _ _ _)) | ((with_reducible refine ext_suffix ⟨_, ?_⟩); (try simp only [Array.append_assoc]); rfl) | (with_reducible (first | apply Ext.drew | apply Ext.alloc | apply Ext.more_)))))).mono ?_; rintro e w' ⟨rfl, hb⟩; obtain ⟨os1, d1, rfl⟩ := hb.more; clear hb
        go_wp2_with fail
        refine (g1 _).mono ?_; rintro e w' ⟨rfl, hb⟩; obtain ⟨os2, d2, rfl⟩ := hb.more; clear hb
        go_wp2_with fail
        refine (g2 _).mono ?_; rintro e w' ⟨rfl, hb⟩; obtain ⟨os3, d3, rfl⟩ := hb.more; clear hb
        go_wp2_with fail; go_ret; exact ⟨rfl, by repeat (first | (with_reducible (first | exact Ext.refl _ | exact ext_d _ _ _ _ | exact ext_app _ _ _ _ _ | exact ext_app2 _ _ _ _ _ _ | exact ext_app3 _ _ _ _ _ _ _)) | ((with_reducible refine ext_suffix ⟨_, ?_⟩); (try simp only [Array.append_assoc]); rfl) | (with_reducible (first | apply Ext.drew | apply Ext.alloc | apply Ext.more_)))⟩
      · have q0 : ¬ (100 : Int) < (s.size : Int) := by omega
        have hsm : s.size ≤ maxLen := by simp only [maxLen]; omega
        cases hg : sgOf s.data.toList with
        | none =>
          have hlv := fun W => level_no s hg W
          have hrl := fun W => rlevel_no s hg W
          have HG := Lib.hid hg
          have hs0 : sameA 0 0 [] 0 0 [] = true := by simp [sameA]
          clear hg hs
          go_enter Tryz.func8, Tryz.ntmps8
          go_wp2_with fail
          refine (awake10_any _ (HT.out.ext (by repeat (first | (with_reducible (first | exact Ext.refl _ | exact ext_d _ _ _ _ | exact ext_app _ _ _ _ _ | exact ext_app2 _ _ _ _ _ _ | exact ext_app3 _ _ _ _ _ _ _)) | ((with_reducible refine ext_suffix ⟨_, ?_⟩); (try simp only [Array.append_assoc]); rfl) | (with_reducible (first | apply Ext.drew | apply Ext.alloc | apply Ext.more_)))))).mono ?_; rintro e w' ⟨rfl, hb⟩; obtain ⟨os1, d1, rfl⟩ := hb.more; clear hb
          go_wp2_with fail
          refine (g1 _).mono ?_; rintro e w' ⟨rfl, hb⟩; obtain ⟨os2, d2, rfl⟩ := hb.more; clear hb
          go_wp2_with fail
          refine (g2 _).mono ?_; rintro e w' ⟨rfl, hb⟩; obtain ⟨os3, d3, rfl⟩ := hb.more; clear hb
          go_wp2_with fail
          refine (binary_no s _ _ _ _ _ _ _ _ _ _ _ hsm HG.out).mono ?_; rintro e w' ⟨rfl, hb⟩; obtain ⟨os4, d4, rfl⟩ := hb.more; clear hb
          go_wp2_with fail
          refine (rbinary_no s _ _ _ _ _ _ _ _ _ _ _ HG.out).mono ?_; rintro e w' ⟨rfl, hb⟩; obtain ⟨os5, d5, rfl⟩ := hb.more; clear hb
          go_wp2_with fail
          refine (hlv _).mono ?_; rintro e w' ⟨rfl, hb⟩; obtain ⟨os6, d6, rfl⟩ := hb.more; clear hb
          go_wp2_with fail
          refine (refSame_any 0 0 0 0 none none 0 0 0 0 [] [] _ (ArrIn.none_ _) (ArrIn.none_ _)).mono ?_; rintro e w' ⟨rfl, hb⟩; obtain ⟨os7, d7, rfl⟩ := hb.more; clear hb
          go_wp2_with fail
          refine (hrl _).mono ?_; rintro e w' ⟨rfl, hb⟩; obtain ⟨os8, d8, rfl⟩ := hb.more; clear hb
          go_wp2_with fail; go_ret; exact ⟨rfl, by repeat (first | (with_reducible (first | exact Ext.refl _ | exact ext_d _ _ _ _ | exact ext_app _ _ _ _ _ | exact ext_app2 _ _ _ _ _ _ | exact ext_app3 _ _ _ _ _ _ _)) | ((with_reducible refine ext_suffix ⟨_, ?_⟩); (try simp only [Array.append_assoc]); rfl) | (with_reducible (first | apply Ext.drew | apply Ext.alloc | apply Ext.more_)))⟩
        | some g =>
          have hlv := fun W => level_yes g W
          have hrl := fun W => rlevel_yes g W
          have hbn := fun W => rbinary_yes g r1 c1 r2 c2 A1 A2 n1 cap1 n2 cap2 l1 l2 W
          obtain rfl := sg_lit hg
          generalize hx : bothRes (opV g) r1 c1 l1 r2 c2 l2 = x at *
          have hs0 : sameA x.R x.C x.l x.R x.C x.l = true := by simp [sameA]
          have HG := Lib.hid (And.intro hg hx)
          generalize g.level = lv at *
          generalize (⟨g.key.toArray⟩ : ByteArray) = s at *
          clear hg hs hx
          go_enter Tryz.func8, Tryz.ntmps8
          go_wp2_with fail
          refine (awake10_any _ (HT.out.ext (by repeat (first | (with_reducible (first | exact Ext.refl _ | exact ext_d _ _ _ _ | exact ext_app _ _ _ _ _ | exact ext_app2 _ _ _ _ _ _ | exact ext_app3 _ _ _ _ _ _ _)) | ((with_reducible refine ext_suffix ⟨_, ?_⟩); (try simp only [Array.append_assoc]); rfl) | (with_reducible (first | apply Ext.drew | apply Ext.alloc | apply Ext.more_)))))).mono ?_; rintro e w' ⟨rfl, hb⟩; obtain ⟨os1, d1, rfl⟩ := hb.more; clear hb
          go_wp2_with fail
          refine (g1 _).mono ?_; rintro e w' ⟨rfl, hb⟩; obtain ⟨os2, d2, rfl⟩ := hb.more; clear hb
          go_wp2_with fail
          refine (g2 _).mono ?_; rintro e w' ⟨rfl, hb⟩; obtain ⟨os3, d3, rfl⟩ := hb.more; clear hb
          go_wp2_with fail
          refine (binary_yes g s r1 c1 r2 c2 A1 A2 n1 cap1 n2 cap2 l1 l2 _ (HT.out.ext (by repeat (first | (with_reducible (first | exact Ext.refl _ | exact ext_d _ _ _ _ | exact ext_app _ _ _ _ _ | exact ext_app2 _ _ _ _ _ _ | exact ext_app3 _ _ _ _ _ _ _)) | ((with_reducible refine ext_suffix ⟨_, ?_⟩); (try simp only [Array.append_assoc]); rfl) | (with_reducible (first | apply Ext.drew | apply Ext.alloc | apply Ext.more_))))) hsm HG.out.1 (h1.ext (by repeat (first | (with_reducible (first | exact Ext.refl _ | exact ext_d _ _ _ _ | exact ext_app _ _ _ _ _ | exact ext_app2 _ _ _ _ _ _ | exact ext_app3 _ _ _ _ _ _ _)) | ((with_reducible refine ext_suffix ⟨_, ?_⟩); (try simp only [Array.append_assoc]); rfl) | (with_reducible (first | apply Ext.drew | apply Ext.alloc | apply Ext.more_))))) (h2.ext (by repeat (first | (with_reducible (first | exact Ext.refl _ | exact ext_d _ _ _ _ | exact ext_app _ _ _ _ _ | exact ext_app2 _ _ _ _ _ _ | exact ext_app3 _ _ _ _ _ _ _)) | ((with_reducible refine ext_suffix ⟨_, ?_⟩); (try simp only [Array.append_assoc]); rfl) | (with_reducible (first | apply Ext.drew | apply Ext.alloc | apply Ext.more_))))) x HG.out.2).mono ?_; rintro e w' ⟨D4, m4, c4, rfl, hN4, hb⟩; obtain ⟨os4, d4, rfl⟩ := hb.more; clear hb; have hD4 := hN4.arr; clear hN4; (try simp only [more_more, drew_more, more_drew, Array.append_assoc] at hD4)
          go_wp2_with fail
          refine (hbn _ (h1.ext (by repeat (first | (with_reducible (first | exact Ext.refl _ | exact ext_d _ _ _ _ | exact ext_app _ _ _ _ _ | exact ext_app2 _ _ _ _ _ _ | exact ext_app3 _ _ _ _ _ _ _)) | ((with_reducible refine ext_suffix ⟨_, ?_⟩); (try simp only [Array.append_assoc]); rfl) | (with_reducible (first | apply Ext.drew | apply Ext.alloc | apply Ext.more_))))) (h2.ext (by repeat (first | (with_reducible (first | exact Ext.refl _ | exact ext_d _ _ _ _ | exact ext_app _ _ _ _ _ | exact ext_app2 _ _ _ _ _ _ | exact ext_app3 _ _ _ _ _ _ _)) | ((with_reducible refine ext_suffix ⟨_, ?_⟩); (try simp only [Array.append_assoc]); rfl) | (with_reducible (first | apply Ext.drew | apply Ext.alloc | apply Ext.more_))))) x rfl).mono ?_; rintro e w' ⟨D5, m5, c5, rfl, hN5, hb⟩; obtain ⟨os5, d5, rfl⟩ := hb.more; clear hb; have hD5 := hN5.arr; clear hN5; (try simp only [more_more, drew_more, more_drew, Array.append_assoc] at hD5)
          go_wp2_with fail
          refine (hlv _).mono ?_; rintro e w' ⟨rfl, hb⟩; obtain ⟨os6, d6, rfl⟩ := hb.more; clear hb
          go_wp2_with fail
          refine (refSame_any _ _ _ _ _ _ _ _ _ _ x.l x.l _ (hD4.ext (by repeat (first | (with_reducible (first | exact Ext.refl _ | exact ext_d _ _ _ _ | exact ext_app _ _ _ _ _ | exact ext_app2 _ _ _ _ _ _ | exact ext_app3 _ _ _ _ _ _ _)) | ((with_reducible refine ext_suffix ⟨_, ?_⟩); (try simp only [Array.append_assoc]); rfl) | (with_reducible (first | apply Ext.drew | apply Ext.alloc | apply Ext.more_))))) (hD5.ext (by repeat (first | (with_reducible (first | exact Ext.refl _ | exact ext_d _ _ _ _ | exact ext_app _ _ _ _ _ | exact ext_app2 _ _ _ _ _ _ | exact ext_app3 _ _ _ _ _ _ _)) | ((with_reducible refine ext_suffix ⟨_, ?_⟩); (try simp only [Array.append_assoc]); rfl) | (with_reducible (first | apply Ext.drew | apply Ext.alloc | apply Ext.more_)))))).mono ?_; rintro e w' ⟨rfl, hb⟩; obtain ⟨os7, d7, rfl⟩ := hb.more; clear hb
          go_wp2_with fail
          refine (hrl _).mono ?_; rintro e w' ⟨rfl, hb⟩; obtain ⟨os8, d8, rfl⟩ := hb.more; clear hb
          go_wp2_with fail; go_ret; exact ⟨rfl, by repeat (first | (with_reducible (first | exact Ext.refl _ | exact ext_d _ _ _ _ | exact ext_app _ _ _ _ _ | exact ext_app2 _ _ _ _ _ _ | exact ext_app3 _ _ _ _ _ _ _)) | ((with_reducible refine ext_suffix ⟨_, ?_⟩); (try simp only [Array.append_assoc]); rfl) | (with_reducible (first | apply Ext.drew | apply Ext.alloc | apply Ext.more_)))⟩
    · rw [hb2] at g2
      clear hb1 hb2
      go_enter Tryz.func8, Tryz.ntmps8
      go_wp2_with fail
      refine (awake10_any _ (HT.out.ext (by repeat (first | (with_reducible (first | exact Ext.refl _ | exact ext_d _ _ _ _ | exact ext_app _ _ _ _ _ | exact ext_app2 _ _ _ _ _ _ | exact ext_app3 _ _ _ _ _ _ _)) | ((with_reducible refine ext_suffix ⟨_, ?_⟩); (try simp only [Array.append_assoc]); rfl) | (with_reducible (first | apply Ext.drew | apply Ext.alloc | apply Ext.more_)))))).mono ?_; rintro e w' ⟨rfl, hb⟩; obtain ⟨os1, d1, rfl⟩ := hb.more; clear hb
      go_wp2_with fail
      refine (g1 _).mono ?_; rintro e w' ⟨rfl, hb⟩; obtain ⟨os2, d2, rfl⟩ := hb.more; clear hb
      go_wp2_with fail
      refine (g2 _).mono ?_; rintro e w' ⟨rfl, hb⟩; obtain ⟨os3, d3, rfl⟩ := hb.more; clear hb
      go_wp2_with fail; go_ret; exact ⟨rfl, by repeat (first | (with_reducible (first | exact Ext.refl _ | exact ext_d _ _ _ _ | exact ext_app _ _ _ _ _ | exact ext_app2 _ _ _ _ _ _ | exact ext_app3 _ _ _ _ _ _ _)) | ((with_reducible refine ext_suffix ⟨_, ?_⟩); (try simp only [Array.append_assoc]); rfl) | (with_reducible (first | apply Ext.drew | apply Ext.alloc | apply Ext.more_)))⟩
  · rw [hb1] at g1
    clear hb1
    go_enter Tryz.func8, Tryz.ntmps8
    go_wp2_with fail
    refine (awake10_any _ (HT.out.ext (by repeat (first | (with_reducible (first | exact Ext.refl _ | exact ext_d _ _ _ _ | exact ext_app _ _ _ _ _ | exact ext_app2 _ _ _ _ _ _ | exact ext_app3 _ _ _ _ _ _ _)) | ((with_reducible refine ext_suffix ⟨_, ?_⟩); (try simp only [Array.append_assoc]); rfl) | (with_reducible (first | apply Ext.drew | apply Ext.alloc | apply Ext.more_)))))).mono ?_; rintro e w' ⟨rfl, hb⟩; obtain ⟨os1, d1, rfl⟩ := hb.more; clear hb
    go_wp2_with fail
    refine (g1 _).mono ?_; rintro e w' ⟨rfl, hb⟩; obtain ⟨os2, d2, rfl⟩ := hb.more; clear hb
    go_wp2_with fail; go_ret; exact ⟨rfl, by repeat (first | (with_reducible (first | exact Ext.refl _ | exact ext_d _ _ _ _ | exact ext_app _ _ _ _ _ | exact ext_app2 _ _ _ _ _ _ | exact ext_app3 _ _ _ _ _ _ _)) | ((with_reducible refine ext_suffix ⟨_, ?_⟩); (try simp only [Array.append_assoc]); rfl) | (with_reducible (first | apply Ext.drew | apply Ext.alloc | apply Ext.more_)))⟩
end Go.Proofs.YteigcfflljoioaaGreatDoor
namespace Go.Proofs.YteigcfflljoioaaGreatDoor
open Go.ChangeShapes Go.WideShapes Go.ChangeAt Go.RowKit Go.Deep
theorem own : ownKnob Tryz.prog.godebug = none := by kernel_rfl
theorem laidOut : laidOutB Tryz.prog = true := by kernel_rfl
theorem cells_num : Tryz.prog.cellsOf 24 = 2 := by kernel_rfl
theorem cells_int : Tryz.prog.cellsOf 3 = 1 := by kernel_rfl
/-- What all rows of this seat list. -/
def laid3 : List (String × DataW Unit) := [("math/bits.deBruijn32tab", Rows.laid_math_bits_deBruijn32tab), ("math/bits.deBruijn64tab", Rows.laid_math_bits_deBruijn64tab), ("internal/strconv.uint64pow10", Rows.laid_internal_strconv_uint64pow10)]
theorem pow10_data : (Rows.laid_internal_strconv_uint64pow10 : DataW Unit) = Lib.tabData .u64 Lib.pow10Tab := by
  unfold Rows.laid_internal_strconv_uint64pow10 Lib.tabData Lib.pow10Tab
  simp [List.range_succ]
theorem gPow : Tryz.prog.globalNamed "internal/strconv.uint64pow10" = some 3 := by kernel_rfl
theorem tPow : (Tryz.prog.globals[3]?).map (·.type) = some 181 := by kernel_rfl
theorem tab_of_laid {W : World} (h : laidMetH Tryz.prog laid3 W) : Tab W := by
  rw [MakeChecks.laidMetH_plain _ _ _ (by kernel_rfl)] at h
  obtain ⟨ps, ⟨g0, t0, cs0, f0, p0, q0, hg0, ht0, hv0, hd0, ⟨g1, t1, cs1, f1, p1, q1, hg1, ht1, hv1, hd1, ⟨g2, t2, cs2, f2, p2, q2, hg2, ht2, hv2, hd2, _, _⟩, _⟩, _⟩, _, _⟩ := h
  obtain rfl := Option.some.inj (gPow.symm.trans hg2)
  obtain rfl := Option.some.inj (tPow.symm.trans ht2)
  rw [pow10_data] at hd2
  unfold Tab Lib.TabIs
  rw [hv2, ← Lib.cells_of_tab Tryz.underlying181 Tryz.underlying117 (by kernel_rfl) (by kernel_rfl) hd2]
theorem door_met (os : Os) (args : Array Value) : laidMetH Tryz.prog laid3 ((World.doorLaid Tryz.prog 400 os).forCall (fun _ _ => 0) ⟨#[], args, []⟩).memory :=
  laidMetH_of_parts3 (fuel := 8) (laidMet_of_run' 8 (by kernel_rfl) (by kernel_rfl)) (by kernel_rfl) (by kernel_rfl)
set_option maxRecDepth 100000
section
variable {H : Type} {enc : TypeId × Value → H} {w : World} {base : Nat} {spare : Nat → Bool} {held : Bool}
theorem i64_of {n : Int} (h : (Lit.int .i64 n).wf = true) : I64 n := by
  simpa [Lit.wf, IntKind.min, IntKind.max, IntKind.signed, IntKind.bits, I64] using h
theorem trod_blocks_ {t : TypeId} {v : Value} {d : DataW H} {p : List MemPlace} (h : DataW.Trod enc Tryz.prog w base spare held t v d p) : ∀ x ∈ p, x.block < w.heap.size := by
  obtain ⟨m, hm⟩ := h
  exact DataW.trod_lt m _ _ _ hm
theorem open_str {r : Reach} {b0 : Nat} {v : Value} {d : DataW H} {p : List MemPlace} (hv : Value.okWide Tryz.prog w r b0 9 v) (_h : DataW.Trod enc Tryz.prog w base spare held 9 v d p) : ∃ s : ByteArray, v = .string s ∧ True := by
  obtain ⟨s, rfl⟩ := okWide_string Tryz.underlying9 hv
  exact ⟨s, rfl, trivial⟩
end
end Go.Proofs.YteigcfflljoioaaGreatDoor
namespace Go.Proofs.YteigcfflljoioaaGreatDoor
open Go.ChangeShapes Go.WideShapes Go.ChangeAt Go.RowKit Go.Deep
theorem cells_val : Tryz.prog.cellsOf 26 = 6 := by kernel_rfl
theorem cells_string : Tryz.prog.cellsOf 9 = 1 := by kernel_rfl
theorem cells_bool : Tryz.prog.cellsOf 4 = 1 := by kernel_rfl
theorem cells_arr : Tryz.prog.cellsOf 34 = 3 := by kernel_rfl
set_option maxRecDepth 100000
section
variable {H : Type} {enc : TypeId × Value → H} {w : World} {base : Nat} {spare : Nat → Bool} {held : Bool}
theorem open_num {fuel : Nat} {c1 c2 : Value} {x : DataW H × List MemPlace} (h : DataW.trod enc Tryz.prog w base spare held fuel 24 [c1, c2] = some x) : ∃ m e : Int, [c1, c2] = [.int .i64 m, .int .i64 e] ∧ I64 m ∧ I64 e := by
  obtain ⟨xs, n, rfl, _, hl, hxs, hf⟩ := DataW.trod_struct Tryz.underlying24 h
  obtain ⟨y0, hy0⟩ : ∃ y, xs[0]? = some y := ⟨_, List.getElem?_eq_getElem (by rw [hxs]; decide)⟩
  have g0 : DataW.trod enc Tryz.prog w base spare held n 3 [c1] = some y0 := by rw [← hy0]; have := hf 0 _ rfl; simpa [cells_int] using this
  obtain ⟨y1, hy1⟩ : ∃ y, xs[1]? = some y := ⟨_, List.getElem?_eq_getElem (by rw [hxs]; decide)⟩
  have g1 : DataW.trod enc Tryz.prog w base spare held n 3 [c2] = some y1 := by rw [← hy1]; have := hf 1 _ rfl; simpa [cells_int] using this
  obtain ⟨m, e0, _, w0⟩ := DataW.trod_int Tryz.underlying3 g0
  obtain ⟨e, e1, _, w1⟩ := DataW.trod_int Tryz.underlying3 g1
  simp only [List.cons.injEq, and_true] at e0 e1
  subst e0 e1
  exact ⟨m, e, rfl, i64_of w0, i64_of w1⟩
set_option maxHeartbeats 800000 in
theorem open_val {fuel : Nat} {cs : List Value} {x : DataW H × List MemPlace} (h : DataW.trod enc Tryz.prog w base spare held fuel 26 cs = some x) : ∃ y : Val, cs = y.cells ∧ y.ok := by
  obtain ⟨xs, n, rfl, _, hl, hxs, hf⟩ := DataW.trod_struct Tryz.underlying26 h
  rw [cells_val] at hl
  match cs, hl with
  | [c0, c1, c2, c3, c4, c5], _ =>
    obtain ⟨y0, hy0⟩ : ∃ y, xs[0]? = some y := ⟨_, List.getElem?_eq_getElem (by rw [hxs]; decide)⟩
    have g0 : DataW.trod enc Tryz.prog w base spare held n 3 [c0] = some y0 := by rw [← hy0]; have := hf 0 _ rfl; simpa [cells_int] using this
    obtain ⟨y1, hy1⟩ : ∃ y, xs[1]? = some y := ⟨_, List.getElem?_eq_getElem (by rw [hxs]; decide)⟩
    have g1 : DataW.trod enc Tryz.prog w base spare held n 24 [c1, c2] = some y1 := by rw [← hy1]; have := hf 1 _ rfl; simpa [cells_num] using this
    obtain ⟨y2, hy2⟩ : ∃ y, xs[2]? = some y := ⟨_, List.getElem?_eq_getElem (by rw [hxs]; decide)⟩
    have g2 : DataW.trod enc Tryz.prog w base spare held n 9 [c3] = some y2 := by rw [← hy2]; have := hf 2 _ rfl; simpa [cells_string] using this
    obtain ⟨y3, hy3⟩ : ∃ y, xs[3]? = some y := ⟨_, List.getElem?_eq_getElem (by rw [hxs]; decide)⟩
    have g3 : DataW.trod enc Tryz.prog w base spare held n 4 [c4] = some y3 := by rw [← hy3]; have := hf 3 _ rfl; simpa [cells_bool] using this
    obtain ⟨y4, hy4⟩ : ∃ y, xs[4]? = some y := ⟨_, List.getElem?_eq_getElem (by rw [hxs]; decide)⟩
    have g4 : DataW.trod enc Tryz.prog w base spare held n 3 [c5] = some y4 := by rw [← hy4]; have := hf 4 _ rfl; simpa [cells_int] using this
    obtain ⟨k, e0, _, w0⟩ := DataW.trod_int Tryz.underlying3 g0
    obtain ⟨m, ex, e1, w1, w2⟩ := open_num g1
    obtain ⟨t, e3, _, w3⟩ := DataW.trod_string Tryz.underlying9 g2
    obtain ⟨b, e4, _⟩ := DataW.trod_bool Tryz.underlying4 g3
    obtain ⟨f, e5, _, w5⟩ := DataW.trod_int Tryz.underlying3 g4
    simp only [List.cons.injEq, and_true] at e0 e1 e3 e4 e5
    obtain ⟨rfl, rfl⟩ := e1
    subst e0 e3 e4 e5
    exact ⟨⟨k, m, ex, t, b, f⟩, rfl, i64_of w0, w1, w2, w3, i64_of w5⟩
/-- A slice of values. -/
theorem open_vals {fuel : Nat} {a : Option Addr} {len cap : Nat} {x : DataW H × List MemPlace} (h : DataW.trod enc Tryz.prog w base spare held fuel 22 [.slice a len cap] = some x) : ∃ l, ArrIn w a len cap l := by
  rcases open_slice Tryz.underlying22 h with ⟨hcs, _⟩ | ⟨ad, len', cap', m, n, D, Pl, hcs, hb, hl, hm, hmm, _, hi⟩
  · simp only [List.cons.injEq, Value.slice.injEq, and_true] at hcs
    obtain ⟨rfl, rfl, rfl⟩ := hcs
    exact ⟨[], SlV.nil _ _ _, rfl, Nat.le_refl _, by omega, by simp⟩
  · simp only [List.cons.injEq, Value.slice.injEq, and_true] at hcs
    obtain ⟨rfl, rfl, rfl⟩ := hcs
    have hlm : len ≤ m := by rw [hmm]; split <;> omega
    obtain ⟨X, hX⟩ := choose_lt (α := Val) (n := len) (p := fun i y => w.cells? base (ad.add (i * 6)) 6 = some y.cells ∧ y.ok) (fun i hil => by
      obtain ⟨cs', h1, h2⟩ := hi i (by omega)
      rw [cells_val] at h1
      obtain ⟨y, rfl, hy⟩ := open_val h2
      exact ⟨y, h1, hy⟩)
    refine ⟨(List.range len).map X, ?_, by simp, hl, by simp only [maxLen] at hm; omega, ?_⟩
    · intro j u hu
      have hj : j / 6 < len := by
        have := (List.getElem?_eq_some_iff.1 hu).1
        rw [vcells_length] at this
        simp at this
        omega
      have hat := vcells_at ((List.range len).map X) (j / 6) (X (j / 6)) (by simp [hj]) (j % 6) (by omega)
      rw [show j / 6 * 6 + j % 6 = j by omega, hu] at hat
      obtain ⟨_, _, hc⟩ := World.cells?_some (hX (j / 6) hj).1
      have h6 := hc (j % 6) (by omega)
      rw [← hat, Go.Deep.add_add, show j / 6 * 6 + j % 6 = j by omega] at h6
      obtain ⟨b, off, spot⟩ := ad
      have hsp : spot = none := by
        obtain ⟨_, _, hc0⟩ := World.cells?_some (hX 0 (by omega)).1
        have h0 := hc0 0 (by omega)
        simp [Addr.add, Val.cells] at h0
        exact World.cell?_spot h0
      subst hsp
      rw [Addr.add_mid] at h6
      exact ⟨b, off, rfl, Nat.zero_le _, h6⟩
    · intro y hy
      simp only [List.mem_map, List.mem_range] at hy
      obtain ⟨i, hi', rfl⟩ := hy
      exact (hX i hi').2
theorem open_arr {r : Reach} {b0 : Nat} {v : Value} {d : DataW H} {p : List MemPlace} (hv : Value.okWide Tryz.prog w r b0 34 v) (h : DataW.Trod enc Tryz.prog w base spare held 34 v d p) :
    ∃ (a c : Int) (A : Option Addr) (n cap : Nat) (l : List Val), v = AV a c (.slice A n cap) ∧ I64 a ∧ I64 c ∧ ArrIn w A n cap l := by
  obtain ⟨c0, c1, c2, y0, y1, y2, m, rfl, rfl, rfl, hy0, hy1, hy2⟩ := Joins.open_agg3 Tryz.underlying34 (by kernel_rfl) cells_arr hv h
  obtain ⟨a, e0, _, w0⟩ := DataW.trod_int Tryz.underlying3 hy0
  obtain ⟨c, e1, _, w1⟩ := DataW.trod_int Tryz.underlying3 hy1
  obtain ⟨A, n, cap, e2⟩ := Joins.slice_form Tryz.underlying22 hy2
  simp only [List.cons.injEq, and_true] at e0 e1 e2
  subst e0 e1 e2
  obtain ⟨l, hl⟩ := open_vals hy2
  exact ⟨a, c, A, n, cap, l, rfl, i64_of w0, i64_of w1, hl⟩
end
end Go.Proofs.YteigcfflljoioaaGreatDoor
namespace Go.Proofs.YteigcfflljoioaaGreatDoor
open Go.RowKit NM
set_option maxHeartbeats 4000000 in
theorem operOne_no (s : ByteArray) (r1 c1 : Int) (A1 : Option Addr) (n1 cap1 : Nat) (l1 : List Val) (w : World) (htab : Tab w) (h1 : ArrIn w A1 n1 cap1 l1) (hs : ¬ 100 < s.size) (hb1 : greatB r1 c1 n1 = false) (e1 : (s.toList == [43]) = false) (e2 : (s.toList == [45]) = false) (e3 : (s.toList == [37]) = false) :
    Calls Tryz.prog 9 #[.string s, AV r1 c1 (.slice A1 n1 cap1)] w fun e w' => e = .returned (.bool true) ∧ Ext w w' := by
  have HT := Lib.hid htab
  clear htab
  have g1 := fun W => great_any r1 c1 A1 n1 cap1 W
  rw [hb1] at g1
  have q0 : ¬ (100 : Int) < (s.size : Int) := by omega
  have hs0 : sameA 0 0 [] 0 0 [] = true := by simp [sameA]
  have HE := Lib.hid (And.intro e1 (And.intro e2 e3))
  clear e1 e2 e3
  go_enter Tryz.func9, Tryz.ntmps9
  go_wp2_with fail
  refine (awake10_any _ (HT.out.ext (by repeat (first | (with_reducible (first | exact Ext.refl _ | exact ext_d _ _ _ _ | exact ext_app _ _ _ _ _ | exact ext_app2 _ _ _ _ _ _ | exact ext_app3 _ _ _ _ _ _ _)) | ((with_reducible refine ext_suffix ⟨_, ?_⟩); (try simp only [Array.append_assoc]); rfl) | (with_reducible (first | apply Ext.drew | apply Ext.alloc | apply Ext.more_)))))).mono ?_; rintro e w' ⟨rfl, hb⟩; obtain ⟨os1, d1, rfl⟩ := hb.more; clear hb
  go_wp2_with fail
  refine (g1 _).mono ?_; rintro e w' ⟨rfl, hb⟩; obtain ⟨os2, d2, rfl⟩ := hb.more; clear hb
  go_wp2_with fail
  refine (unary_no s _ _ _ _ _ _ HE.out.1 HE.out.2.1 HE.out.2.2).mono ?_; rintro e w' ⟨rfl, hb⟩; obtain ⟨os4, d4, rfl⟩ := hb.more; clear hb
  go_wp2_with fail
  refine (runary_no s _ _ _ _ _ _ HE.out.1 HE.out.2.1 HE.out.2.2).mono ?_; rintro e w' ⟨rfl, hb⟩; obtain ⟨os5, d5, rfl⟩ := hb.more; clear hb
  go_wp2_with fail
  refine (refSame_any 0 0 0 0 none none 0 0 0 0 [] [] _ (ArrIn.none_ _) (ArrIn.none_ _)).mono ?_; rintro e w' ⟨rfl, hb⟩; obtain ⟨os7, d7, rfl⟩ := hb.more; clear hb
  go_wp2_with fail; go_ret; exact ⟨rfl, by repeat (first | (with_reducible (first | exact Ext.refl _ | exact ext_d _ _ _ _ | exact ext_app _ _ _ _ _ | exact ext_app2 _ _ _ _ _ _ | exact ext_app3 _ _ _ _ _ _ _)) | ((with_reducible refine ext_suffix ⟨_, ?_⟩); (try simp only [Array.append_assoc]); rfl) | (with_reducible (first | apply Ext.drew | apply Ext.alloc | apply Ext.more_)))⟩
set_option maxHeartbeats 4000000 in
theorem operOne_plus (r1 c1 : Int) (A1 : Option Addr) (n1 cap1 : Nat) (l1 : List Val) (w : World) (htab : Tab w) (h1 : ArrIn w A1 n1 cap1 l1) (hb1 : greatB r1 c1 n1 = false) :
    Calls Tryz.prog 9 #[.string ⟨#[43]⟩, AV r1 c1 (.slice A1 n1 cap1)] w fun e w' => e = .returned (.bool true) ∧ Ext w w' := by
  have HT := Lib.hid htab
  clear htab
  have g1 := fun W => great_any r1 c1 A1 n1 cap1 W
  rw [hb1] at g1
  generalize hx : eachRes (fun v => v) r1 c1 l1 = x
  have hs0 : sameA x.R x.C x.l x.R x.C x.l = true := by simp [sameA]
  have HX := Lib.hid hx
  clear hx
  go_enter Tryz.func9, Tryz.ntmps9
  go_wp2_with fail
  refine (awake10_any _ (HT.out.ext (by repeat (first | (with_reducible (first | exact Ext.refl _ | exact ext_d _ _ _ _ | exact ext_app _ _ _ _ _ | exact ext_app2 _ _ _ _ _ _ | exact ext_app3 _ _ _ _ _ _ _)) | ((with_reducible refine ext_suffix ⟨_, ?_⟩); (try simp only [Array.append_assoc]); rfl) | (with_reducible (first | apply Ext.drew | apply Ext.alloc | apply Ext.more_)))))).mono ?_; rintro e w' ⟨rfl, hb⟩; obtain ⟨os1, d1, rfl⟩ := hb.more; clear hb
  go_wp2_with fail
  refine (g1 _).mono ?_; rintro e w' ⟨rfl, hb⟩; obtain ⟨os2, d2, rfl⟩ := hb.more; clear hb
  go_wp2_with fail
  refine (unary_plus r1 c1 A1 n1 cap1 l1 _ (h1.ext (by repeat (first | (with_reducible (first | exact Ext.refl _ | exact ext_d _ _ _ _ | exact ext_app _ _ _ _ _ | exact ext_app2 _ _ _ _ _ _ | exact ext_app3 _ _ _ _ _ _ _)) | ((with_reducible refine ext_suffix ⟨_, ?_⟩); (try simp only [Array.append_assoc]); rfl) | (with_reducible (first | apply Ext.drew | apply Ext.alloc | apply Ext.more_))))) x HX.out).mono ?_; rintro e w' ⟨D4, m4, c4, rfl, hN4, hb⟩; obtain ⟨os4, d4, rfl⟩ := hb.more; clear hb; have hD4 := hN4.arr; clear hN4; (try simp only [more_more, drew_more, more_drew, Array.append_assoc] at hD4)
  go_wp2_with fail
  refine (runary_plus r1 c1 A1 n1 cap1 l1 _ (h1.ext (by repeat (first | (with_reducible (first | exact Ext.refl _ | exact ext_d _ _ _ _ | exact ext_app _ _ _ _ _ | exact ext_app2 _ _ _ _ _ _ | exact ext_app3 _ _ _ _ _ _ _)) | ((with_reducible refine ext_suffix ⟨_, ?_⟩); (try simp only [Array.append_assoc]); rfl) | (with_reducible (first | apply Ext.drew | apply Ext.alloc | apply Ext.more_))))) x HX.out).mono ?_; rintro e w' ⟨D5, m5, c5, rfl, hN5, hb⟩; obtain ⟨os5, d5, rfl⟩ := hb.more; clear hb; have hD5 := hN5.arr; clear hN5; (try simp only [more_more, drew_more, more_drew, Array.append_assoc] at hD5)
  go_wp2_with fail
  refine (refSame_any _ _ _ _ _ _ _ _ _ _ x.l x.l _ (hD4.ext (by repeat (first | (with_reducible (first | exact Ext.refl _ | exact ext_d _ _ _ _ | exact ext_app _ _ _ _ _ | exact ext_app2 _ _ _ _ _ _ | exact ext_app3 _ _ _ _ _ _ _)) | ((with_reducible refine ext_suffix ⟨_, ?_⟩); (try simp only [Array.append_assoc]); rfl) | (with_reducible (first | apply Ext.drew | apply Ext.alloc | apply Ext.more_))))) (hD5.ext (by repeat (first | (with_reducible (first | exact Ext.refl _ | exact ext_d _ _ _ _ | exact ext_app _ _ _ _ _ | exact ext_app2 _ _ _ _ _ _ | exact ext_app3 _ _ _ _ _ _ _)) | ((with_reducible refine ext_suffix ⟨_, ?_⟩); (try simp only [Array.append_assoc]); rfl) | (with_reducible (first | apply Ext.drew | apply Ext.alloc | apply Ext.more_)))))).mono ?_; rintro e w' ⟨rfl, hb⟩; obtain ⟨os7, d7, rfl⟩ := hb.more; clear hb
  go_wp2_with fail; go_ret; exact ⟨rfl, by repeat (first | (with_reducible (first | exact Ext.refl _ | exact ext_d _ _ _ _ | exact ext_app _ _ _ _ _ | exact ext_app2 _ _ _ _ _ _ | exact ext_app3 _ _ _ _ _ _ _)) | ((with_reducible refine ext_suffix ⟨_, ?_⟩); (try simp only [Array.append_assoc]); rfl) | (with_reducible (first | apply Ext.drew | apply Ext.alloc | apply Ext.more_)))⟩
set_option maxHeartbeats 4000000 in
theorem operOne_minus (r1 c1 : Int) (A1 : Option Addr) (n1 cap1 : Nat) (l1 : List Val) (w : World) (htab : Tab w) (h1 : ArrIn w A1 n1 cap1 l1) (hb1 : greatB r1 c1 n1 = false) :
    Calls Tryz.prog 9 #[.string ⟨#[45]⟩, AV r1 c1 (.slice A1 n1 cap1)] w fun e w' => e = .returned (.bool true) ∧ Ext w w' := by
  have HT := Lib.hid htab
  clear htab
  have g1 := fun W => great_any r1 c1 A1 n1 cap1 W
  rw [hb1] at g1
  generalize hx : eachRes (negV) r1 c1 l1 = x
  have hs0 : sameA x.R x.C x.l x.R x.C x.l = true := by simp [sameA]
  have HX := Lib.hid hx
  clear hx
  go_enter Tryz.func9, Tryz.ntmps9
  go_wp2_with fail
  refine (awake10_any _ (HT.out.ext (by repeat (first | (with_reducible (first | exact Ext.refl _ | exact ext_d _ _ _ _ | exact ext_app _ _ _ _ _ | exact ext_app2 _ _ _ _ _ _ | exact ext_app3 _ _ _ _ _ _ _)) | ((with_reducible refine ext_suffix ⟨_, ?_⟩); (try simp only [Array.append_assoc]); rfl) | (with_reducible (first | apply Ext.drew | apply Ext.alloc | apply Ext.more_)))))).mono ?_; rintro e w' ⟨rfl, hb⟩; obtain ⟨os1, d1, rfl⟩ := hb.more; clear hb
  go_wp2_with fail
  refine (g1 _).mono ?_; rintro e w' ⟨rfl, hb⟩; obtain ⟨os2, d2, rfl⟩ := hb.more; clear hb
  go_wp2_with fail
  refine (unary_minus r1 c1 A1 n1 cap1 l1 _ (HT.out.ext (by repeat (first | (with_reducible (first | exact Ext.refl _ | exact ext_d _ _ _ _ | exact ext_app _ _ _ _ _ | exact ext_app2 _ _ _ _ _ _ | exact ext_app3 _ _ _ _ _ _ _)) | ((with_reducible refine ext_suffix ⟨_, ?_⟩); (try simp only [Array.append_assoc]); rfl) | (with_reducible (first | apply Ext.drew | apply Ext.alloc | apply Ext.more_))))) (h1.ext (by repeat (first | (with_reducible (first | exact Ext.refl _ | exact ext_d _ _ _ _ | exact ext_app _ _ _ _ _ | exact ext_app2 _ _ _ _ _ _ | exact ext_app3 _ _ _ _ _ _ _)) | ((with_reducible refine ext_suffix ⟨_, ?_⟩); (try simp only [Array.append_assoc]); rfl) | (with_reducible (first | apply Ext.drew | apply Ext.alloc | apply Ext.more_))))) x HX.out).mono ?_; rintro e w' ⟨D4, m4, c4, rfl, hN4, hb⟩; obtain ⟨os4, d4, rfl⟩ := hb.more; clear hb; have hD4 := hN4.arr; clear hN4; (try simp only [more_more, drew_more, more_drew, Array.append_assoc] at hD4)
  go_wp2_with fail
  refine (runary_minus r1 c1 A1 n1 cap1 l1 _ (h1.ext (by repeat (first | (with_reducible (first | exact Ext.refl _ | exact ext_d _ _ _ _ | exact ext_app _ _ _ _ _ | exact ext_app2 _ _ _ _ _ _ | exact ext_app3 _ _ _ _ _ _ _)) | ((with_reducible refine ext_suffix ⟨_, ?_⟩); (try simp only [Array.append_assoc]); rfl) | (with_reducible (first | apply Ext.drew | apply Ext.alloc | apply Ext.more_))))) x HX.out).mono ?_; rintro e w' ⟨D5, m5, c5, rfl, hN5, hb⟩; obtain ⟨os5, d5, rfl⟩ := hb.more; clear hb; have hD5 := hN5.arr; clear hN5; (try simp only [more_more, drew_more, more_drew, Array.append_assoc] at hD5)
  go_wp2_with fail
  refine (refSame_any _ _ _ _ _ _ _ _ _ _ x.l x.l _ (hD4.ext (by repeat (first | (with_reducible (first | exact Ext.refl _ | exact ext_d _ _ _ _ | exact ext_app _ _ _ _ _ | exact ext_app2 _ _ _ _ _ _ | exact ext_app3 _ _ _ _ _ _ _)) | ((with_reducible refine ext_suffix ⟨_, ?_⟩); (try simp only [Array.append_assoc]); rfl) | (with_reducible (first | apply Ext.drew | apply Ext.alloc | apply Ext.more_))))) (hD5.ext (by repeat (first | (with_reducible (first | exact Ext.refl _ | exact ext_d _ _ _ _ | exact ext_app _ _ _ _ _ | exact ext_app2 _ _ _ _ _ _ | exact ext_app3 _ _ _ _ _ _ _)) | ((with_reducible refine ext_suffix ⟨_, ?_⟩); (try simp only [Array.append_assoc]); rfl) | (with_reducible (first | apply Ext.drew | apply Ext.alloc | apply Ext.more_)))))).mono ?_; rintro e w' ⟨rfl, hb⟩; obtain ⟨os7, d7, rfl⟩ := hb.more; clear hb
  go_wp2_with fail; go_ret; exact ⟨rfl, by repeat (first | (with_reducible (first | exact Ext.refl _ | exact ext_d _ _ _ _ | exact ext_app _ _ _ _ _ | exact ext_app2 _ _ _ _ _ _ | exact ext_app3 _ _ _ _ _ _ _)) | ((with_reducible refine ext_suffix ⟨_, ?_⟩); (try simp only [Array.append_assoc]); rfl) | (with_reducible (first | apply Ext.drew | apply Ext.alloc | apply Ext.more_)))⟩
set_option maxHeartbeats 4000000 in
theorem operOne_cent (r1 c1 : Int) (A1 : Option Addr) (n1 cap1 : Nat) (l1 : List Val) (w : World) (htab : Tab w) (h1 : ArrIn w A1 n1 cap1 l1) (hb1 : greatB r1 c1 n1 = false) :
    Calls Tryz.prog 9 #[.string ⟨#[37]⟩, AV r1 c1 (.slice A1 n1 cap1)] w fun e w' => e = .returned (.bool true) ∧ Ext w w' := by
  have HT := Lib.hid htab
  clear htab
  have g1 := fun W => great_any r1 c1 A1 n1 cap1 W
  rw [hb1] at g1
  generalize hx : eachRes (centV) r1 c1 l1 = x
  have hs0 : sameA x.R x.C x.l x.R x.C x.l = true := by simp [sameA]
  have HX := Lib.hid hx
  clear hx
  go_enter Tryz.func9, Tryz.ntmps9
  go_wp2_with fail
  refine (awake10_any _ (HT.out.ext (by repeat (first | (with_reducible (first | exact Ext.refl _ | exact ext_d _ _ _ _ | exact ext_app _ _ _ _ _ | exact ext_app2 _ _ _ _ _ _ | exact ext_app3 _ _ _ _ _ _ _)) | ((with_reducible refine ext_suffix ⟨_, ?_⟩); (try simp only [Array.append_assoc]); rfl) | (with_reducible (first | apply Ext.drew | apply Ext.alloc | apply Ext.more_)))))).mono ?_; rintro e w' ⟨rfl, hb⟩; obtain ⟨os1, d1, rfl⟩ := hb.more; clear hb
  go_wp2_with fail
  refine (g1 _).mono ?_; rintro e w' ⟨rfl, hb⟩; obtain ⟨os2, d2, rfl⟩ := hb.more; clear hb
  go_wp2_with fail
  refine (unary_cent r1 c1 A1 n1 cap1 l1 _ (HT.out.ext (by repeat (first | (with_reducible (first | exact Ext.refl _ | exact ext_d _ _ _ _ | exact ext_app _ _ _ _ _ | exact ext_app2 _ _ _ _ _ _ | exact ext_app3 _ _ _ _ _ _ _)) | ((with_reducible refine ext_suffix ⟨_, ?_⟩); (try simp only [Array.append_assoc]); rfl) | (with_reducible (first | apply Ext.drew | apply Ext.alloc | apply Ext.more_))))) (h1.ext (by repeat (first | (with_reducible (first | exact Ext.refl _ | exact ext_d _ _ _ _ | exact ext_app _ _ _ _ _ | exact ext_app2 _ _ _ _ _ _ | exact ext_app3 _ _ _ _ _ _ _)) | ((with_reducible refine ext_suffix ⟨_, ?_⟩); (try simp only [Array.append_assoc]); rfl) | (with_reducible (first | apply Ext.drew | apply Ext.alloc | apply Ext.more_))))) x HX.out).mono ?_; rintro e w' ⟨D4, m4, c4, rfl, hN4, hb⟩; obtain ⟨os4, d4, rfl⟩ := hb.more; clear hb; have hD4 := hN4.arr; clear hN4; (try simp only [more_more, drew_more, more_drew, Array.append_assoc] at hD4)
  go_wp2_with fail
  refine (runary_cent r1 c1 A1 n1 cap1 l1 _ (h1.ext (by repeat (first | (with_reducible (first | exact Ext.refl _ | exact ext_d _ _ _ _ | exact ext_app _ _ _ _ _ | exact ext_app2 _ _ _ _ _ _ | exact ext_app3 _ _ _ _ _ _ _)) | ((with_reducible refine ext_suffix ⟨_, ?_⟩); (try simp only [Array.append_assoc]); rfl) | (with_reducible (first | apply Ext.drew | apply Ext.alloc | apply Ext.more_))))) x HX.out).mono ?_; rintro e w' ⟨D5, m5, c5, rfl, hN5, hb⟩; obtain ⟨os5, d5, rfl⟩ := hb.more; clear hb; have hD5 := hN5.arr; clear hN5; (try simp only [more_more, drew_more, more_drew, Array.append_assoc] at hD5)
  go_wp2_with fail
  refine (refSame_any _ _ _ _ _ _ _ _ _ _ x.l x.l _ (hD4.ext (by repeat (first | (with_reducible (first | exact Ext.refl _ | exact ext_d _ _ _ _ | exact ext_app _ _ _ _ _ | exact ext_app2 _ _ _ _ _ _ | exact ext_app3 _ _ _ _ _ _ _)) | ((with_reducible refine ext_suffix ⟨_, ?_⟩); (try simp only [Array.append_assoc]); rfl) | (with_reducible (first | apply Ext.drew | apply Ext.alloc | apply Ext.more_))))) (hD5.ext (by repeat (first | (with_reducible (first | exact Ext.refl _ | exact ext_d _ _ _ _ | exact ext_app _ _ _ _ _ | exact ext_app2 _ _ _ _ _ _ | exact ext_app3 _ _ _ _ _ _ _)) | ((with_reducible refine ext_suffix ⟨_, ?_⟩); (try simp only [Array.append_assoc]); rfl) | (with_reducible (first | apply Ext.drew | apply Ext.alloc | apply Ext.more_)))))).mono ?_; rintro e w' ⟨rfl, hb⟩; obtain ⟨os7, d7, rfl⟩ := hb.more; clear hb
  go_wp2_with fail; go_ret; exact ⟨rfl, by repeat (first | (with_reducible (first | exact Ext.refl _ | exact ext_d _ _ _ _ | exact ext_app _ _ _ _ _ | exact ext_app2 _ _ _ _ _ _ | exact ext_app3 _ _ _ _ _ _ _)) | ((with_reducible refine ext_suffix ⟨_, ?_⟩); (try simp only [Array.append_assoc]); rfl) | (with_reducible (first | apply Ext.drew | apply Ext.alloc | apply Ext.more_)))⟩
set_option maxHeartbeats 4000000 in
theorem operOne_any (s : ByteArray) (r1 c1 : Int) (A1 : Option Addr) (n1 cap1 : Nat) (l1 : List Val) (w : World) (htab : Tab w) (h1 : ArrIn w A1 n1 cap1 l1) :
    Calls Tryz.prog 9 #[.string s, AV r1 c1 (.slice A1 n1 cap1)] w fun e w' => e = .returned (.bool true) ∧ Ext w w' := by
  cases hb1 : greatB r1 c1 n1
  · by_cases hs : 100 < s.size
    · have HT := Lib.hid htab
      clear htab
      have g1 := fun W => great_any r1 c1 A1 n1 cap1 W
      rw [hb1] at g1
      have q0 : (100 : Int) < (s.size : Int) := by omega
      clear hb1
      go_enter Tryz.func9, Tryz.ntmps9
      go_wp2_with fail
      refine (awake10_any _ (HT.out.ext (by repeat (first | (with_reducible (first | exact Ext.refl _ | exact ext_d _ _ _ _ | exact ext_app _ _ _ _ _ | exact ext_app2 _ _ _ _ _ _ | exact ext_app3 _ _ _ _ _ _ _)) | ((with_reducible refine ext_suffix ⟨_, ?_⟩); (try simp only [Array.append_assoc]); rfl) | (with_reducible (first | apply Ext.drew | apply Ext.alloc | apply Ext.more_)))))).mono ?_; rintro e w' ⟨rfl, hb⟩; obtain ⟨os1, d1, rfl⟩ := hb.more; clear hb
      go_wp2_with fail
      refine (g1 _).mono ?_; rintro e w' ⟨rfl, hb⟩; obtain ⟨os2, d2, rfl⟩ := hb.more; clear hb
      go_wp2_with fail; go_ret; exact ⟨rfl, by repeat (first | (with_reducible (first | exact Ext.refl _ | exact ext_d _ _ _ _ | exact ext_app _ _ _ _ _ | exact ext_app2 _ _ _ _ _ _ | exact ext_app3 _ _ _ _ _ _ _)) | ((with_reducible refine ext_suffix ⟨_, ?_⟩); (try simp only [Array.append_assoc]); rfl) | (with_reducible (first | apply Ext.drew | apply Ext.alloc | apply Ext.more_)))⟩
    · have key : ∀ b : UInt8, s.toList = [b] → s = ⟨#[b]⟩ := fun b h => by
        apply ByteArray.ext
        rw [ByteArray.toList_eq] at h
        exact Array.toList_inj.1 h
      by_cases e1 : s.toList = [43]
      · rw [key _ e1]; exact operOne_plus r1 c1 A1 n1 cap1 l1 w htab h1 hb1
      · by_cases e2 : s.toList = [45]
        · rw [key _ e2]; exact operOne_minus r1 c1 A1 n1 cap1 l1 w htab h1 hb1
        · by_cases e3 : s.toList = [37]
          · rw [key _ e3]; exact operOne_cent r1 c1 A1 n1 cap1 l1 w htab h1 hb1
          · exact operOne_no s r1 c1 A1 n1 cap1 l1 w htab h1 hs hb1 (by simpa using e1) (by simpa using e2) (by simpa using e3)
  · have HT := Lib.hid htab
    clear htab
    have g1 := fun W => great_any r1 c1 A1 n1 cap1 W
    rw [hb1] at g1
    clear hb1
    go_enter Tryz.func9, Tryz.ntmps9
    go_wp2_with fail
    refine (awake10_any _ (HT.out.ext (by repeat (first | (with_reducible (first | exact Ext.refl _ | exact ext_d _ _ _ _ | exact ext_app _ _ _ _ _ | exact ext_app2 _ _ _ _ _ _ | exact ext_app3 _ _ _ _ _ _ _)) | ((with_reducible refine ext_suffix ⟨_, ?_⟩); (try simp only [Array.append_assoc]); rfl) | (with_reducible (first | apply Ext.drew | apply Ext.alloc | apply Ext.more_)))))).mono ?_; rintro e w' ⟨rfl, hb⟩; obtain ⟨os1, d1, rfl⟩ := hb.more; clear hb
    go_wp2_with fail
    refine (g1 _).mono ?_; rintro e w' ⟨rfl, hb⟩; obtain ⟨os2, d2, rfl⟩ := hb.more; clear hb
    go_wp2_with fail; go_ret; exact ⟨rfl, by repeat (first | (with_reducible (first | exact Ext.refl _ | exact ext_d _ _ _ _ | exact ext_app _ _ _ _ _ | exact ext_app2 _ _ _ _ _ _ | exact ext_app3 _ _ _ _ _ _ _)) | ((with_reducible refine ext_suffix ⟨_, ?_⟩); (try simp only [Array.append_assoc]); rfl) | (with_reducible (first | apply Ext.drew | apply Ext.alloc | apply Ext.more_)))⟩
end Go.Proofs.YteigcfflljoioaaGreatDoor
