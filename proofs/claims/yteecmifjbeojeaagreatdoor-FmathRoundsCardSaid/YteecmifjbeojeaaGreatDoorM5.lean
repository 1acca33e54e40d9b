/- What the rows' proofs lean on: the contracts of the functions that they reach, and plain facts (part M5). -/
import Derived.WalkKit
import Derived.WalkLawsBesides
import Derived.WalkSpells
import Derived.Outline
import Derived.Below
import Derived.Deep.RegionHeld3
import Derived.Deep.DeepCutAuto
import Derived.Deep.AppendLies
import Derived.Maps.AppendAt
import Derived.Lib.Hide
import Derived.OrdersHeld
import Derived.Test.YteecmifjbeojeaaGreatDoorProg
import Derived.Shelf.Strings.Builder1
import Derived.Shelf.Strings.Builder2
import Derived.Shelf.Small.Bits
import Derived.Shelf.Small.Strs
import Derived.Shelf.Small.Wraps
import Derived.Shelf.Strings.BuilderF
import Derived.Shelf.Strconv.Itoa0
import Derived.Shelf.Strconv.Itoa1
import Derived.Shelf.LaysM
import Derived.Shelf.Strconv.Itoa2
import Derived.Shelf.Strings.Prefix
import Derived.Shelf.Bits.Mul64
import Derived.Shelf.Strings.Repeat
import Derived.Ground.SlgmProg
import Derived.Shelf.SortM.Plain
import Derived.Shelf.SortM.SortNone
import Derived.Lib.ItoaMem
import Derived.Lib.OthersKept
import Derived.Deep.CutBlock
import Derived.Laws.Bits64b
import Derived.Lib.AppendZeros
import Derived.Lib.Bytealg
import Derived.Laws.RangeAny
import Derived.Maps.OwnSet
import Derived.Maps.Own
import Derived.Laws.EntriesVeiled
import Derived.Lib.ConvBytes
import Derived.Lib.SlBytesRow
import Derived.Lib.SmallJoins
import Derived.RegionTactic
import Derived.Test.YteecmifjbeojeaaGreatDoorRows
import Derived.Test.YteecmifjbeojeaaGreatDoorCards
import Derived.Test.YteecmifjbeojeaaGreatDoorTie
import Derived.ProofKit
import Derived.LaidMore
import Derived.OpenShut
import Derived.ShutString
import Derived.ChangeOld
import Derived.Stop.Joined
import Derived.Deep.Slices
import Derived.SevenTiedAt
import Derived.Test.YteecmifjbeojeaaGreatDoorM4
set_option linter.unusedSimpArgs false
set_option linter.unusedVariables false
set_option maxRecDepth 100000
namespace Go.Proofs.YteecmifjbeojeaaGreatDoor
open Go.RowKit NM
/-- A function of one number. -/
def NmFn (fid : FuncId) (f : Nm → Nm) (w : World) : Prop := ∀ p W, Low w W → Rt p.1 p.2 → Calls Tryz.prog fid #[NV p.1 p.2] W fun e W' => e = .returned (NV (f p).1 (f p).2) ∧ Ext W W'
theorem int_fn (w : World) : NmFn 147 intN w := by
  intro p W _ hp
  exact floor_any p.1 p.2 W (rt_i64 hp)
/-- What each value comes to. -/
theorem keach1_any {fid : FuncId} {f : Nm → Nm} {w : World} (hf : NmFn fid f w) (hrt : ∀ p, Rt p.1 p.2 → Rt (f p).1 (f p).2) (hent : ∀ (args : Array Value) (W : World), (callFunc fid args).run Tryz.prog W = .ok (.enter fid args) W) (p : Nat) (hp : w.cell? ⟨p, 0, none⟩ = some (fn0 fid))
    (x : Val) (W : World) (hl : Low w W) (hx : x.right) (y : Val) (hy : eachF f x = y) :
    Calls Tryz.prog 259 (#[VV x.kind x.mant x.exp x.text x.truth x.fault] ++ #[.pointer (some ⟨p, 0, none⟩)]) W fun e W' => e = .returned (VV y.kind y.mant y.exp y.text y.truth y.fault) ∧ Ext W W' := by
  have ht := fun W => toNum_any x W hx
  have hpr := tn_rt hx
  have hpW : W.cell? ⟨p, 0, none⟩ = some (fn0 fid) := by rw [← hp]; exact World.cell?_of_block (hl p (lt_of_cell hp))
  have hpl := lt_of_cell hpW
  subst hy
  unfold eachF
  generalize htp : tnP x = z at *
  generalize htf : tnF x = g at *
  simp only [tnV, htp, htf] at ht
  by_cases h0 : g = 0
  · subst h0
    rw [if_pos rfl]
    have hc := fun V (hV : Ext W V) => hf z V (hl.ext hV) hpr
    generalize hfz : f z = u at *
    show Calls _ _ _ _ fun e W' => e = .returned (VV 1 u.1 u.2 ⟨#[]⟩ false 0) ∧ Ext W W'
    clear hp hl hx htp htf hpr hrt hfz
    go_enter Tryz.func259, Tryz.ntmps259
    go_wp2_with (first | (go_at_call 196; (with_reducible refine (ht _).mono ?_); rintro e w' ⟨rfl, hb⟩; obtain ⟨os1, d1, rfl⟩ := hb.more; clear hb) | (go_at_call 183; (with_reducible refine (of_any _ _ _).mono ?_); rintro e w' ⟨rfl, hb⟩; obtain ⟨os3, d3, rfl⟩ := hb.more; clear hb) | (refine (hc _ (by with_reducible repeat (first | exact Ext.refl _ | apply Ext.drew | apply Ext.alloc | apply Ext.more_))).mono ?_; rintro e w' ⟨rfl, hb⟩; obtain ⟨os2, d2, rfl⟩ := hb.more; clear hb))
    exact bodyPost_ret (v := VV 1 u.1 u.2 ⟨#[]⟩ false 0) (by simp [results, Tryz.results259, go_sem]) rfl ⟨rfl, by with_reducible repeat (first | exact Ext.refl _ | apply Ext.drew | apply Ext.alloc | apply Ext.more_)⟩
  · rw [if_neg h0]
    have h0' : (g != 0) = true := by simpa using h0
    have hb := fun W => bad_any g W
    unfold bad_ badV
    clear hp hl hx htp htf hpr hrt h0
    go_enter Tryz.func259, Tryz.ntmps259
    go_wp2_with (first | (go_at_call 196; (with_reducible refine (ht _).mono ?_); rintro e w' ⟨rfl, hb⟩; obtain ⟨os1, d1, rfl⟩ := hb.more; clear hb) | (go_at_call 121; (with_reducible refine (hb _).mono ?_); rintro e w' ⟨rfl, hb⟩; obtain ⟨os2, d2, rfl⟩ := hb.more; clear hb))
    exact bodyPost_ret (v := VV 4 0 0 ⟨#[]⟩ false (badF g)) (by simp [results, Tryz.results259, go_sem]) rfl ⟨rfl, by with_reducible repeat (first | exact Ext.refl _ | apply Ext.drew | apply Ext.alloc | apply Ext.more_)⟩
theorem eachF_right {f : Nm → Nm} (hrt : ∀ p, Rt p.1 p.2 → Rt (f p).1 (f p).2) {x : Val} (hx : x.right) : (eachF f x).right := by
  unfold eachF
  split
  · exact right_num (hrt _ (tn_rt hx))
  · exact right_bad _
theorem koneV {x : Val} (h : x.right) : oneV x = x := by unfold oneV; rw [if_pos (show valRight x = true from h)]
theorem each_eq {f : Nm → Nm} (hrt : ∀ p, Rt p.1 p.2 → Rt (f p).1 (f p).2) {x : NA} (hx : x.right) : eachRes (eachF f) x.R x.C x.l = eachO f x := by
  unfold eachRes eachO
  rw [if_pos (show rightA (x.R : Int) x.C x.l = true from hx)]
  have h5 := (rightA_nat.1 hx).2.2.2.2
  congr 1
  exact List.map_congr_left fun v hv => koneV (eachF_right hrt (h5 v hv))
set_option maxHeartbeats 1000000 in
theorem kofEach_any (A : Option Addr) (cap : Nat) (a : Ar) (fid : FuncId) (f : Nm → Nm) (p : Nat) (w : World) (h : ArgsIn w A 1 cap [a])
    (hf : NmFn fid f w) (hrt : ∀ p, Rt p.1 p.2 → Rt (f p).1 (f p).2) (hent : ∀ (args : Array Value) (W : World), (callFunc fid args).run Tryz.prog W = .ok (.enter fid args) W) (hp : w.cell? ⟨p, 0, none⟩ = some (fn0 fid)) :
    Calls Tryz.prog 257 #[.slice A 1 cap, .pointer (some ⟨p, 0, none⟩)] w fun e w' => ResA w (eachO f a.x) e w' := by
  obtain ⟨b, off, rfl, ⟨v0, v1, v2⟩, hok⟩ := h.get (k := 0) (a := a) rfl
  have hbl := lt_of_cell v0
  have hcap := h.cap
  simp only [Nat.zero_mul, Nat.add_zero] at v0 v1 v2
  have hX := each_eq hrt hok.right
  have hpl := lt_of_cell hp
  have HF := Lib.hid hf
  have HP := Lib.hid hp
  have HOK := Lib.hid hok.arr
  clear h hok hf
  generalize eachO f a.x = x at *
  have HX := Lib.hid hX
  clear hX
  go_enter Tryz.func257, Tryz.ntmps257
  go_wp2_with fail
  go_at_call 258
  refine (each_low _ w.heap.size (by simp) (fid := 259) (capt := #[.pointer (some ⟨p, 0, none⟩)]) (t := eachF f) (fun y V hl _ hr => keach1_any (w := w) HF.out hrt hent p HP.out y V (Low.pre (by with_reducible repeat (first | exact Ext.refl _ | apply Ext.drew | apply Ext.alloc | apply Ext.more_)) hl) hr _ rfl) (fun y _ hr => Val.right.ok (eachF_right hrt hr)) (fun args W => by go_simp) _ _ _ _ _ _ (HOK.out.ext (by with_reducible repeat (first | exact Ext.refl _ | apply Ext.drew | apply Ext.alloc | apply Ext.more_))) (below_block HOK.out (Nat.le_refl _)) x HX.out).mono ?_
  rintro e w' ⟨D, m, cc, rfl, hD, hb⟩
  obtain ⟨os2, d2, rfl⟩ := hb.more
  clear hb
  have hDr := hD.rd
  go_wp2_with fail
  exact bodyPost_ret (v := AV x.R x.C (.slice D m cc)) (by simp [results, Tryz.results257, go_sem]) rfl ⟨D, m, cc, rfl, ⟨(by (try simp only [more_more] at hDr); (try simp only [drew_more] at hDr); (try simp only [more_drew] at hDr); (try simp only [Array.append_assoc] at hDr); exact Rd.swap hDr (by first | (simp; done) | (simp; omega) | omega) (by first | (simp; done) | (simp; omega) | omega) (by first | (simp; done) | (simp; omega) | omega)), hD.len, hD.cap, hD.small, hD.ok⟩, by with_reducible repeat (first | exact Ext.refl _ | apply Ext.drew | apply Ext.alloc | apply Ext.more_)⟩
theorem right_modN {a b : Nm} : (modN a b).right := by
  unfold modN
  split
  · exact right_badV ⟨by omega, by omega⟩
  · split
    · exact right_badV ⟨by omega, by omega⟩
    · split
      · exact right_badV ⟨by omega, by omega⟩
      · exact right_res fun p hp => subS_rt hp
theorem right_modV {x y : Val} : (modV x y).right := by
  unfold modV
  split
  · exact right_bad _
  · split
    · exact right_bad _
    · exact right_modN
set_option maxHeartbeats 2000000 in
theorem modulo_any (x y : Val) (w : World) (htab : Tab w) (hx : x.right) (hy : y.right) (z : Val) (hz : modV x y = z) :
    Calls Tryz.prog 150 #[VV x.kind x.mant x.exp x.text x.truth x.fault, VV y.kind y.mant y.exp y.text y.truth y.fault] w fun e w' => e = .returned (VV z.kind z.mant z.exp z.text z.truth z.fault) ∧ Ext w w' := by
  have ht := fun W => toNum_any x W hx
  have ht' := fun W => toNum_any y W hy
  have hpr := tn_rt hx
  have hpr' := tn_rt hy
  have HT := Lib.hid htab
  subst hz
  unfold modV
  generalize htp : tnP x = p at *
  generalize htf : tnF x = f at *
  simp only [tnV, htp, htf] at ht
  generalize htp' : tnP y = p' at *
  generalize htf' : tnF y = f' at *
  simp only [tnV, htp', htf'] at ht'
  clear htp htf htp' htf' hx hy htab
  by_cases hf : f = 0
  · subst hf
    rw [if_neg (by simp)]
    by_cases hf' : f' = 0
    · subst hf'
      rw [if_neg (by simp)]
      obtain ⟨ma, ea⟩ := p
      obtain ⟨mb, eb⟩ := p'
      simp only at ht ht' hpr hpr'
      unfold modN
      simp only
      by_cases h0 : mb = 0
      · subst h0
        rw [if_pos rfl]
        have hb := fun W => bad_any 1 W
        simp only [show badF 1 = 1 by decide] at hb
        show Calls _ _ _ _ fun e W' => e = .returned (VV 4 0 0 ⟨#[]⟩ false 1) ∧ Ext w W'
        clear hpr hpr'
        go_enter Tryz.func150, Tryz.ntmps150
        go_wp2_with (first | (go_at_call 196; (with_reducible refine (ht _).mono ?_); rintro e w' ⟨rfl, hb⟩; obtain ⟨os1, d1, rfl⟩ := hb.more; clear hb) | (go_at_call 196; (with_reducible refine (ht' _).mono ?_); rintro e w' ⟨rfl, hb⟩; obtain ⟨os2, d2, rfl⟩ := hb.more; clear hb) | (go_at_call 121; (with_reducible refine (hb _).mono ?_); rintro e w' ⟨rfl, hb⟩; obtain ⟨os3, d3, rfl⟩ := hb.more; clear hb))
        exact bodyPost_ret (v := VV 4 0 0 ⟨#[]⟩ false 1) (by simp [results, Tryz.results150, go_sem]) rfl ⟨rfl, by with_reducible repeat (first | exact Ext.refl _ | apply Ext.drew | apply Ext.alloc | apply Ext.more_)⟩
      · rw [if_neg h0]
        have h0' : (mb == 0) = false := by simpa using h0
        have hdv := fun W h => div_any ma ea mb eb W h (rt_i64 hpr) (rt_i64 hpr')
        have hb5 := fun W => bad_any 5 W
        simp only [show badF 5 = 5 by decide] at hb5
        cases hs : divS ma ea mb eb with
        | none =>
          rw [hs] at hdv
          simp only [rnV, rm, re, Option.getD_none, Option.isSome_none] at hdv
          show Calls _ _ _ _ fun e W' => e = .returned (VV 4 0 0 ⟨#[]⟩ false 5) ∧ Ext w W'
          clear hpr hpr' h0 hs
          go_enter Tryz.func150, Tryz.ntmps150
          go_wp2_with (first | (go_at_call 196; (with_reducible refine (ht _).mono ?_); rintro e w' ⟨rfl, hb⟩; obtain ⟨os1, d1, rfl⟩ := hb.more; clear hb) | (go_at_call 196; (with_reducible refine (ht' _).mono ?_); rintro e w' ⟨rfl, hb⟩; obtain ⟨os2, d2, rfl⟩ := hb.more; clear hb) | (go_at_call 231; (with_reducible refine (hdv _ (HT.out.ext (by with_reducible repeat (first | exact Ext.refl _ | apply Ext.drew | apply Ext.alloc | apply Ext.more_)))).mono ?_); rintro e w' ⟨rfl, hb⟩; obtain ⟨os4, d4, rfl⟩ := hb.more; clear hb) | (go_at_call 121; (with_reducible refine (hb5 _).mono ?_); rintro e w' ⟨rfl, hb⟩; obtain ⟨os3, d3, rfl⟩ := hb.more; clear hb))
          exact bodyPost_ret (v := VV 4 0 0 ⟨#[]⟩ false 5) (by simp [results, Tryz.results150, go_sem]) rfl ⟨rfl, by with_reducible repeat (first | exact Ext.refl _ | apply Ext.drew | apply Ext.alloc | apply Ext.more_)⟩
        | some q =>
          obtain ⟨mq, eq⟩ := q
          have hqr := divS_rt hs
          rw [hs] at hdv
          simp only [rnV, rm, re, Option.getD_some, Option.isSome_some] at hdv
          simp only
          have hfl := fun W => floor_any mq eq W (rt_i64 hqr)
          have hflr := (floor_spec hqr).1
          generalize floorS mq eq = g at *
          obtain ⟨mg, eg⟩ := g
          simp only at hfl hflr
          have hmu := fun W h => mul_any mb eb mg eg W h (rt_i64 hpr') (rt_i64 hflr)
          cases hs2 : mulS mb eb mg eg with
          | none =>
            rw [hs2] at hmu
            simp only [rnV, rm, re, Option.getD_none, Option.isSome_none] at hmu
            show Calls _ _ _ _ fun e W' => e = .returned (VV 4 0 0 ⟨#[]⟩ false 5) ∧ Ext w W'
            clear hpr hpr' h0 hs hs2 hqr hflr
            go_enter Tryz.func150, Tryz.ntmps150
            go_upto_region 12 with (first | (go_at_call 196; (with_reducible refine (ht _).mono ?_); rintro e w' ⟨rfl, hb⟩; obtain ⟨os1, d1, rfl⟩ := hb.more; clear hb) | (go_at_call 196; (with_reducible refine (ht' _).mono ?_); rintro e w' ⟨rfl, hb⟩; obtain ⟨os2, d2, rfl⟩ := hb.more; clear hb) | (go_at_call 231; (with_reducible refine (hdv _ (HT.out.ext (by with_reducible repeat (first | exact Ext.refl _ | apply Ext.drew | apply Ext.alloc | apply Ext.more_)))).mono ?_); rintro e w' ⟨rfl, hb⟩; obtain ⟨os4, d4, rfl⟩ := hb.more; clear hb))
            refine wp_float [(7, 10, (.cells #[.int .i64 0, .int .i64 0] 29))] [(0, 0), (1, 0), (2, 1), (3, 1), (4, 0), (5, 0), (6, 2)] [8, 9] [8, 9] [6] (by kernel_rfl) (by kernel_rfl) (by kernel_rfl) (fun _ _ d _ _ h => by cases d <;> exact h) (fun _ _ d _ _ h => by cases d <;> exact h) (fun x hx o ho a w => by (obtain rfl := List.mem_singleton.1 hx); (obtain rfl := Option.some.inj ho); (first | rfl | (simp [go_sem, ptrB]; done) | (go_simp; rfl))) ?_
            iterate 2 ((refine wpFp_read (v := ?_) rfl ?_ (fun w1 h1 => ?_) ?_; rotate_left 1; rfl; (obtain ⟨os1, d1, rfl⟩ := h1.more; go_simp; first | done | rfl)); try simp only [Act.put, zqA, zqB, zqC])
            (refine wpFp_eff rfl ?_ (fun wf hXf hE K hK => ?_); rfl; obtain ⟨osf, df, rfl⟩ := hXf.more; go_simp; refine (hfl _).mono ?_; rintro e w' ⟨rfl, hb⟩; refine hK _ _ (fun _ => True) (by (try simp only [more_drew, more_more, Array.append_assoc]); exact hb) (fun _ _ _ _ => trivial) trivial ?_)
            try simp only [Act.put, zqA, zqB, zqC]
            (refine wpFp_eff rfl ?_ (fun wf hXf hE K hK => ?_); rfl; obtain ⟨osf, df, rfl⟩ := hXf.more; go_simp; refine (hmu _ (HT.out.ext (by repeat (first | (with_reducible (first | exact Ext.refl _ | exact ext_app _ _ _ _ _ | exact ext_app2 _ _ _ _ _ _)) | ((with_reducible refine ext_suffix ⟨_, ?_⟩); (try simp only [Array.append_assoc]); rfl) | (with_reducible (first | apply Ext.drew | apply Ext.alloc | apply Ext.more_)))))).mono ?_; rintro e w' ⟨rfl, hb⟩; refine hK _ _ (fun _ => True) (by (try simp only [more_drew, more_more, Array.append_assoc]); exact hb) (fun _ _ _ _ => trivial) trivial ?_)
            try simp only [Act.put, zqA, zqB, zqC]
            iterate 2 ((refine wpFp_read (v := ?_) rfl ?_ (fun w1 h1 => ?_) ?_; rotate_left 1; rfl; (obtain ⟨os1, d1, rfl⟩ := h1.more; go_simp; first | done | rfl)); try simp only [Act.put, zqA, zqB, zqC])
            (refine wpFp_pure (v := ?_) rfl ?_ (fun w1 => ?_) ?_; rotate_left 1; rfl; (go_simp; first | done | rfl))
            try simp only [Act.put, zqA, zqB, zqC]
            refine wpFp_one fun osa da osb db hE => ?_
            try simp only [Act.put, zqA, zqB, zqC]
            iterate 2 ((refine wpTl_op rfl ?_ (fun K hK => ?_); rfl; go_simp; refine hK _ _ ?_); try simp only [Act.put, zqA, zqB, zqC])
            refine wpTl_nil ?_
            clear hE hfl hmu hdv
            go_wp2_with (first | (go_at_call 121; (with_reducible refine (hb5 _).mono ?_); rintro e w' ⟨rfl, hb⟩; obtain ⟨os3, d3, rfl⟩ := hb.more; clear hb))
            exact bodyPost_ret (v := VV 4 0 0 ⟨#[]⟩ false 5) (by simp [results, Tryz.results150, go_sem]) rfl ⟨rfl, by with_reducible repeat (first | exact Ext.refl _ | apply Ext.drew | apply Ext.alloc | apply Ext.more_)⟩
          | some r =>
            obtain ⟨mr, er⟩ := r
            have hrr := mulS_rt_ hs2
            rw [hs2] at hmu
            simp only [rnV, rm, re, Option.getD_some, Option.isSome_some] at hmu
            simp only
            have hsu := fun W h => sub_any ma ea mr er W h (rt_i64 hpr) (rt_i64 hrr)
            have hto := fun W => ktold_any (subS ma ea mr er) W
            generalize subS ma ea mr er = t at *
            generalize numRes t = z at *
            clear hpr hpr' h0 hs hs2 hqr hflr hrr
            go_enter Tryz.func150, Tryz.ntmps150
            go_upto_region 12 with (first | (go_at_call 196; (with_reducible refine (ht _).mono ?_); rintro e w' ⟨rfl, hb⟩; obtain ⟨os1, d1, rfl⟩ := hb.more; clear hb) | (go_at_call 196; (with_reducible refine (ht' _).mono ?_); rintro e w' ⟨rfl, hb⟩; obtain ⟨os2, d2, rfl⟩ := hb.more; clear hb) | (go_at_call 231; (with_reducible refine (hdv _ (HT.out.ext (by with_reducible repeat (first | exact Ext.refl _ | apply Ext.drew | apply Ext.alloc | apply Ext.more_)))).mono ?_); rintro e w' ⟨rfl, hb⟩; obtain ⟨os4, d4, rfl⟩ := hb.more; clear hb))
            refine wp_float [(7, 10, (.cells #[.int .i64 0, .int .i64 0] 29))] [(0, 0), (1, 0), (2, 1), (3, 1), (4, 0), (5, 0), (6, 2)] [8, 9] [8, 9] [6] (by kernel_rfl) (by kernel_rfl) (by kernel_rfl) (fun _ _ d _ _ h => by cases d <;> exact h) (fun _ _ d _ _ h => by cases d <;> exact h) (fun x hx o ho a w => by (obtain rfl := List.mem_singleton.1 hx); (obtain rfl := Option.some.inj ho); (first | rfl | (simp [go_sem, ptrB]; done) | (go_simp; rfl))) ?_
            iterate 2 ((refine wpFp_read (v := ?_) rfl ?_ (fun w1 h1 => ?_) ?_; rotate_left 1; rfl; (obtain ⟨os1, d1, rfl⟩ := h1.more; go_simp; first | done | rfl)); try simp only [Act.put, zqA, zqB, zqC])
            (refine wpFp_eff rfl ?_ (fun wf hXf hE K hK => ?_); rfl; obtain ⟨osf, df, rfl⟩ := hXf.more; go_simp; refine (hfl _).mono ?_; rintro e w' ⟨rfl, hb⟩; refine hK _ _ (fun _ => True) (by (try simp only [more_drew, more_more, Array.append_assoc]); exact hb) (fun _ _ _ _ => trivial) trivial ?_)
            try simp only [Act.put, zqA, zqB, zqC]
            (refine wpFp_eff rfl ?_ (fun wf hXf hE K hK => ?_); rfl; obtain ⟨osf, df, rfl⟩ := hXf.more; go_simp; refine (hmu _ (HT.out.ext (by repeat (first | (with_reducible (first | exact Ext.refl _ | exact ext_app _ _ _ _ _ | exact ext_app2 _ _ _ _ _ _)) | ((with_reducible refine ext_suffix ⟨_, ?_⟩); (try simp only [Array.append_assoc]); rfl) | (with_reducible (first | apply Ext.drew | apply Ext.alloc | apply Ext.more_)))))).mono ?_; rintro e w' ⟨rfl, hb⟩; refine hK _ _ (fun _ => True) (by (try simp only [more_drew, more_more, Array.append_assoc]); exact hb) (fun _ _ _ _ => trivial) trivial ?_)
            try simp only [Act.put, zqA, zqB, zqC]
            iterate 2 ((refine wpFp_read (v := ?_) rfl ?_ (fun w1 h1 => ?_) ?_; rotate_left 1; rfl; (obtain ⟨os1, d1, rfl⟩ := h1.more; go_simp; first | done | rfl)); try simp only [Act.put, zqA, zqB, zqC])
            (refine wpFp_pure (v := ?_) rfl ?_ (fun w1 => ?_) ?_; rotate_left 1; rfl; (go_simp; first | done | rfl))
            try simp only [Act.put, zqA, zqB, zqC]
            refine wpFp_one fun osa da osb db hE => ?_
            try simp only [Act.put, zqA, zqB, zqC]
            iterate 2 ((refine wpTl_op rfl ?_ (fun K hK => ?_); rfl; go_simp; refine hK _ _ ?_); try simp only [Act.put, zqA, zqB, zqC])
            refine wpTl_nil ?_
            clear hE hfl hmu hdv
            go_wp2_with (first | (go_at_call 103; (with_reducible refine (hsu _ (HT.out.ext (by repeat (first | (with_reducible (first | exact Ext.refl _ | exact ext_app _ _ _ _ _ | exact ext_app2 _ _ _ _ _ _)) | ((with_reducible refine ext_suffix ⟨_, ?_⟩); (try simp only [Array.append_assoc]); rfl) | (with_reducible (first | apply Ext.drew | apply Ext.alloc | apply Ext.more_)))))).mono ?_); rintro e w' ⟨rfl, hb⟩; obtain ⟨os5, d5, rfl⟩ := hb.more; clear hb) | (go_at_call 244; (with_reducible refine (hto _).mono ?_); rintro e w' ⟨rfl, hb⟩; obtain ⟨os6, d6, rfl⟩ := hb.more; clear hb))
            exact bodyPost_ret (v := VV z.kind z.mant z.exp z.text z.truth z.fault) (by simp [results, Tryz.results150, go_sem]) rfl ⟨rfl, by with_reducible repeat (first | exact Ext.refl _ | apply Ext.drew | apply Ext.alloc | apply Ext.more_)⟩
    · rw [if_pos hf']
      have hf2 : (f' != 0) = true := by simpa using hf'
      have hb := fun W => bad_any f' W
      show Calls _ _ _ _ fun e W' => e = .returned (VV 4 0 0 ⟨#[]⟩ false (badF f')) ∧ Ext w W'
      clear hf' hpr hpr'
      go_enter Tryz.func150, Tryz.ntmps150
      go_wp2_with (first | (go_at_call 196; (with_reducible refine (ht _).mono ?_); rintro e w' ⟨rfl, hb⟩; obtain ⟨os1, d1, rfl⟩ := hb.more; clear hb) | (go_at_call 196; (with_reducible refine (ht' _).mono ?_); rintro e w' ⟨rfl, hb⟩; obtain ⟨os2, d2, rfl⟩ := hb.more; clear hb) | (go_at_call 121; (with_reducible refine (hb _).mono ?_); rintro e w' ⟨rfl, hb⟩; obtain ⟨os3, d3, rfl⟩ := hb.more; clear hb))
      exact bodyPost_ret (v := VV 4 0 0 ⟨#[]⟩ false (badF f')) (by simp [results, Tryz.results150, go_sem]) rfl ⟨rfl, by with_reducible repeat (first | exact Ext.refl _ | apply Ext.drew | apply Ext.alloc | apply Ext.more_)⟩
  · rw [if_pos hf]
    have hf2 : (f != 0) = true := by simpa using hf
    have hb := fun W => bad_any f W
    show Calls _ _ _ _ fun e W' => e = .returned (VV 4 0 0 ⟨#[]⟩ false (badF f)) ∧ Ext w W'
    clear hf hpr hpr'
    go_enter Tryz.func150, Tryz.ntmps150
    go_wp2_with (first | (go_at_call 196; (with_reducible refine (ht _).mono ?_); rintro e w' ⟨rfl, hb⟩; obtain ⟨os1, d1, rfl⟩ := hb.more; clear hb) | (go_at_call 121; (with_reducible refine (hb _).mono ?_); rintro e w' ⟨rfl, hb⟩; obtain ⟨os3, d3, rfl⟩ := hb.more; clear hb))
    exact bodyPost_ret (v := VV 4 0 0 ⟨#[]⟩ false (badF f)) (by simp [results, Tryz.results150, go_sem]) rfl ⟨rfl, by with_reducible repeat (first | exact Ext.refl _ | apply Ext.drew | apply Ext.alloc | apply Ext.more_)⟩
set_option maxHeartbeats 2000000 in
theorem kofBoth_any (A : Option Addr) (cap : Nat) (a b : Ar) (fid : FuncId) (t : Val → Val → Val) (p : Nat) (w : World) (h : ArgsIn w A 2 cap [a, b])
    (hsp : ∀ x y W, Low w W → x.ok → y.ok → valRight x = true → valRight y = true → Calls Tryz.prog fid (#[VV x.kind x.mant x.exp x.text x.truth x.fault, VV y.kind y.mant y.exp y.text y.truth y.fault] ++ #[]) W fun e W' => e = .returned (VV (t x y).kind (t x y).mant (t x y).exp (t x y).text (t x y).truth (t x y).fault) ∧ Ext W W')
    (hok : ∀ x y, valRight x = true → valRight y = true → (t x y).ok) (hent : ∀ (args : Array Value) (W : World), (callFunc fid args).run Tryz.prog W = .ok (.enter fid args) W) (hp : w.cell? ⟨p, 0, none⟩ = some (fn0 fid)) :
    Calls Tryz.prog 262 #[.slice A 2 cap, .pointer (some ⟨p, 0, none⟩)] w fun e w' => ResA w (bothRes t a.x.R a.x.C a.x.l b.x.R b.x.C b.x.l) e w' := by
  obtain ⟨bl, off, rfl, ⟨v0, v1, v2⟩, hoka⟩ := h.get (k := 0) (a := a) rfl
  obtain ⟨bl', off', he, ⟨u0, u1, u2⟩, hokb⟩ := h.get (k := 1) (a := b) rfl
  simp only [Option.some.injEq, Addr.mk.injEq, and_true] at he
  obtain ⟨rfl, rfl⟩ := he
  have hbl := lt_of_cell v0
  have hcap := h.cap
  have hc2 : 0 < cap := by omega
  have hc3 : 1 < cap := by omega
  simp only [Nat.zero_mul, Nat.add_zero] at v0 v1 v2
  simp only [Nat.one_mul] at u0 u1 u2
  have hpl := lt_of_cell hp
  have HS := Lib.hid hsp
  have HA := Lib.hid hoka.arr
  have HB := Lib.hid hokb.arr
  obtain ⟨x, hX⟩ : ∃ x, bothRes t a.x.R a.x.C a.x.l b.x.R b.x.C b.x.l = x := ⟨_, rfl⟩
  rw [hX]
  have HX := Lib.hid hX
  clear h hoka hokb hsp hX
  go_enter Tryz.func262, Tryz.ntmps262
  go_upto_region 1 with fail
  refine wp_plan (S := Ext _) [(0, 0), (1, 0), (2, 0), (3, 0), (4, 0), (5, 0), (6, 0), (7, 1), (8, 2)] [8] (by kernel_rfl) (by kernel_rfl) (by kernel_rfl) (fun _ _ d _ _ h => by cases d <;> exact h) (Ext.drew (Ext.refl _)) ?_
  iterate 7 ((refine wpPl_read (v := ?_) rfl ?_ (fun _ h => ?_) ?_; rotate_left 1; rfl; (obtain ⟨_, _, rfl⟩ := h.more; go_simp; try rfl)); try simp only [Act.put, zqA, zqB, zqC])
  (refine wpPl_eff rfl ?_ (fun K hK => ?_); rfl; go_simp; refine (both_low _ w.heap.size (by simp) (fid := fid) (capt := #[]) (t := t) (fun y z V hl h1 h2 h3 h4 => HS.out y z V (Low.pre (by with_reducible repeat (first | exact Ext.refl _ | apply Ext.drew | apply Ext.alloc | apply Ext.more_)) hl) h1 h2 h3 h4) hok hent _ _ _ _ _ _ _ _ _ _ _ _ (HA.out.ext (by with_reducible repeat (first | exact Ext.refl _ | apply Ext.drew | apply Ext.alloc | apply Ext.more_))) (HB.out.ext (by with_reducible repeat (first | exact Ext.refl _ | apply Ext.drew | apply Ext.alloc | apply Ext.more_))) (below_block HA.out (Nat.le_refl _)) (below_block HB.out (Nat.le_refl _)) x HX.out).mono ?_; rintro e w' ⟨D, m, cc, rfl, hD, hb⟩; obtain ⟨os2, d2, rfl⟩ := hb.more; clear hb; have hDr := hD.rd; refine hK _ _ ?_ ?_; (repeat (first | (with_reducible (first | exact Ext.refl _ | exact ext_d _ _ _ _ | exact ext_app _ _ _ _ _ | exact ext_app2 _ _ _ _ _ _ | exact ext_app3 _ _ _ _ _ _ _ | exact ext_app4 _ _ _ _ _ _ _ _ | exact ext_app5 _ _ _ _ _ _ _ _ _)) | ((with_reducible refine ext_suffix ⟨_, ?_⟩); (try simp only [Array.append_assoc]); rfl) | (with_reducible (first | apply Ext.drew | apply Ext.alloc | apply Ext.more_)) | apply Ext.drew | apply Ext.alloc | apply Ext.more_)))
  try simp only [Act.put, zqA, zqB, zqC]
  (refine wpPl_tail rfl ?_ (fun K hK => ?_); rfl; go_simp; refine hK _ _ ?_)
  try simp only [Act.put]
  refine wpPl_nil ?_
  go_wp2_with fail
  exact bodyPost_ret (v := AV x.R x.C (.slice D m cc)) (by simp [results, Tryz.results262, go_sem]) rfl ⟨D, m, cc, rfl, ⟨(by (try simp only [more_more] at hDr); (try simp only [drew_more] at hDr); (try simp only [more_drew] at hDr); (try simp only [Array.append_assoc] at hDr); exact Rd.swap hDr (by first | (simp; done) | (simp; omega) | omega) (by first | (simp; done) | (simp; omega) | omega) (by first | (simp; done) | (simp; omega) | omega)), hD.len, hD.cap, hD.small, hD.ok⟩, by with_reducible repeat (first | exact Ext.refl _ | apply Ext.drew | apply Ext.alloc | apply Ext.more_)⟩
end Go.Proofs.YteecmifjbeojeaaGreatDoor
namespace Go.Proofs.YteecmifjbeojeaaGreatDoor
open Go.RowKit NM
set_option maxHeartbeats 2000000 in
theorem kcall_any (s : ByteArray) (lo hi : Nat) (fid : FuncId) (ct : (Nat → Nat) → Array Value) (hs : s.size ≤ maxLen) (hl : ∀ p : Nat → Nat, tabAt (fmathL p) s.data.toList = some (kfnE lo hi (.func (.func fid) #[] (ct p))))
    (hent : ∀ (args : Array Value) (W : World), (callFunc fid args).run Tryz.prog W = .ok (.enter fid args) W) (hlo9 : lo ≤ 100) (hhi9 : hi ≤ 100)
    (A : Option Addr) (n cap : Nat) (gs : List GA) (w : World) (h : ArgsG w A n cap gs) (F : NA)
    (hf : (∀ g ∈ gs, g.right = true) → lo ≤ n → n ≤ hi → ∀ (p : Nat → Nat) W, Ext w W → (∀ q ∈ fmathB p, W.heap[q.1]? = some q.2) → Calls Tryz.prog fid (#[.slice A n cap] ++ ct p) W fun e W' => ResA W F e W') :
    Calls Tryz.prog 29 #[.string s, .slice A n cap] w (CallG w (callX lo hi gs F)) := by
  have hsm := h.small
  have hlen := h.len
  by_cases q1 : n < lo
  · have hX : callX lo hi gs F = aloneO 2 := by unfold callX; rw [if_pos (by omega)]
    rw [hX]
    clear hf hlen hX
    go_enter Tryz.func29, Tryz.ntmps29
    go_wp2_with (first | (go_at_call 52; (with_reducible refine (functions_any _).mono ?_); rintro e w' ⟨bm, rfl, p, hT⟩; have hbm := hT.hb; have hxT := hT.ext; have hbx := fun q hq => (hT.box q hq).2.2; have ht := hl p; generalize ct p = c0 at ht; have HT := Lib.hid ht; clear ht; obtain ⟨os1, d1, rfl⟩ := hxT.more) | (refine wpL_look rfl _ _ _ rfl 9 88 Tryz.underlying9 Tryz.underlying90 _ _ rfl (hT.tab.ext (by with_reducible repeat (first | exact Ext.refl _ | apply Ext.drew | apply Ext.alloc | apply Ext.more_))) (fmath_pair _) _ (zero_kfn _) _ rfl hs (kfnE lo hi (.func (.func fid) #[] c0)) true (by rw [HT.out]; rfl) (by rw [HT.out]; rfl) ?_) | (go_at_call 53; (with_reducible refine (kfault_any _ _).mono ?_); rintro e w' ⟨D, m, cc, rfl, hD, hb⟩; obtain ⟨os5, d5, rfl⟩ := hb.more; clear hb; have hDr := hD.rd))
    all_goals exact bodyPost_ret (v := .tuple #[AV (aloneO 2).R (aloneO 2).C (.slice D m cc), .bool true]) (by simp [results, Tryz.results29, go_sem]) rfl ⟨D, m, cc, rfl, ⟨(by (try simp only [more_more] at hDr); (try simp only [drew_more] at hDr); (try simp only [more_drew] at hDr); (try simp only [Array.append_assoc] at hDr); exact Rd.swap hDr (by first | (simp; done) | (simp; omega) | omega) (by first | (simp; done) | (simp; omega) | omega) (by first | (simp; done) | (simp; omega) | omega)), hD.len, hD.cap, hD.small, hD.ok⟩, by with_reducible repeat (first | exact Ext.refl _ | apply Ext.drew | apply Ext.alloc | apply Ext.more_)⟩
  · by_cases q2 : hi < n
    · have hX : callX lo hi gs F = aloneO 2 := by unfold callX; rw [if_pos (by omega)]
      rw [hX]
      clear hf hlen hX
      go_enter Tryz.func29, Tryz.ntmps29
      go_wp2_with (first | (go_at_call 52; (with_reducible refine (functions_any _).mono ?_); rintro e w' ⟨bm, rfl, p, hT⟩; have hbm := hT.hb; have hxT := hT.ext; have hbx := fun q hq => (hT.box q hq).2.2; have ht := hl p; generalize ct p = c0 at ht; have HT := Lib.hid ht; clear ht; obtain ⟨os1, d1, rfl⟩ := hxT.more) | (refine wpL_look rfl _ _ _ rfl 9 88 Tryz.underlying9 Tryz.underlying90 _ _ rfl (hT.tab.ext (by with_reducible repeat (first | exact Ext.refl _ | apply Ext.drew | apply Ext.alloc | apply Ext.more_))) (fmath_pair _) _ (zero_kfn _) _ rfl hs (kfnE lo hi (.func (.func fid) #[] c0)) true (by rw [HT.out]; rfl) (by rw [HT.out]; rfl) ?_) | (go_at_call 53; (with_reducible refine (kfault_any _ _).mono ?_); rintro e w' ⟨D, m, cc, rfl, hD, hb⟩; obtain ⟨os5, d5, rfl⟩ := hb.more; clear hb; have hDr := hD.rd))
      all_goals exact bodyPost_ret (v := .tuple #[AV (aloneO 2).R (aloneO 2).C (.slice D m cc), .bool true]) (by simp [results, Tryz.results29, go_sem]) rfl ⟨D, m, cc, rfl, ⟨(by (try simp only [more_more] at hDr); (try simp only [drew_more] at hDr); (try simp only [more_drew] at hDr); (try simp only [Array.append_assoc] at hDr); exact Rd.swap hDr (by first | (simp; done) | (simp; omega) | omega) (by first | (simp; done) | (simp; omega) | omega) (by first | (simp; done) | (simp; omega) | omega)), hD.len, hD.cap, hD.small, hD.ok⟩, by with_reducible repeat (first | exact Ext.refl _ | apply Ext.drew | apply Ext.alloc | apply Ext.more_)⟩
    · have HF := Lib.hid hf
      obtain ⟨X, hX⟩ : ∃ X, callX lo hi gs F = X := ⟨_, rfl⟩
      rw [hX]
      have HX := Lib.hid hX
      clear hf hX
      go_enter Tryz.func29, Tryz.ntmps29
      go_wp2_with (first | (go_at_call 52; (with_reducible refine (functions_any _).mono ?_); rintro e w' ⟨bm, rfl, p, hT⟩; have hbm := hT.hb; have hxT := hT.ext; have hbx := fun q hq => (hT.box q hq).2.2; have ht := hl p; have hfc := HF.out; have hfd := fun a b c => hfc a b c p; clear hfc; generalize ct p = c0 at ht hfd; have HT := Lib.hid ht; clear ht; obtain ⟨os1, d1, rfl⟩ := hxT.more) | (refine wpL_look rfl _ _ _ rfl 9 88 Tryz.underlying9 Tryz.underlying90 _ _ rfl (hT.tab.ext (by with_reducible repeat (first | exact Ext.refl _ | apply Ext.drew | apply Ext.alloc | apply Ext.more_))) (fmath_pair _) _ (zero_kfn _) _ rfl hs (kfnE lo hi (.func (.func fid) #[] c0)) true (by rw [HT.out]; rfl) (by rw [HT.out]; rfl) ?_))
      go_loopw [34] (fun i wr => ∃ k : Nat, k ≤ n ∧ i = .int .i64 k ∧ Ext ((more (w.alloc (Obj.cells #[.int .i64 0, .int .i64 0, .slice none 0 0] 35)) os1 d1).alloc (Obj.cells #[.int .i64 lo, .int .i64 hi, .func (.func fid) #[] c0] 88)) wr ∧ Hid (∀ j g, j < k → gs[j]? = some g → g.right = true)) (fun i _ => n - (intOf i).toNat)
      case atStart => exact ⟨0, Nat.zero_le _, rfl, Ext.refl _, fun j g hj => absurd hj (Nat.not_lt_zero _)⟩
      case round =>
        obtain ⟨k, hk, rfl, hX, HR⟩ := hrel
        have hX0 := hX
        obtain ⟨os, d, rfl⟩ := hX.more
        clear hX
        by_cases hlt : k < n
        · obtain ⟨g, b, off, hg, rfl, hat, harr⟩ := h.at hlt
          obtain ⟨v0, v1, v2⟩ := hat
          have hbl : b < w.heap.size := lt_of_cell v0
          have hcap := h.cap
          cases hr : rightA g.r g.c g.l with
          | true =>
            have hra := fun W => (hr ▸ right_any g.r g.c g.A g.n g.cap g.l W : ArrIn W g.A g.n g.cap g.l → _)
            clear hT hxT hX0 hbx hfd hlen
            go_wp2_with (go_at_call 54; refine (hra _ (harr.ext (by with_reducible repeat (first | exact Ext.refl _ | apply Ext.drew | apply Ext.alloc | apply Ext.more_)))).mono ?_; rintro e w' ⟨rfl, hb⟩; obtain ⟨os', d', rfl⟩ := hb.more; clear hb)
            refine ⟨⟨k + 1, by omega, by go_num, by with_reducible repeat (first | exact Ext.refl _ | apply Ext.drew | apply Ext.alloc | apply Ext.more_), ?_⟩, by simp [intOf]; omega⟩
            intro j g' hj hg'
            by_cases hjk : j = k
            · subst hjk
              obtain rfl : g = g' := by rw [hg] at hg'; simpa using hg'
              exact hr
            · exact HR.out j g' (by omega) hg'
          | false =>
            have hra := fun W => (hr ▸ right_any g.r g.c g.A g.n g.cap g.l W : ArrIn W g.A g.n g.cap g.l → _)
            obtain rfl : aloneO 9 = X := by
              rw [← HX.out]
              unfold callX
              rw [if_neg (by omega), if_neg]
              intro ha
              have := List.all_eq_true.1 ha g (List.mem_of_getElem? hg)
              unfold GA.right at this
              rw [hr] at this
              cases this
            clear hT hxT hX0 hbx hfd hlen HX
            go_wp2_with (first | (go_at_call 54; refine (hra _ (harr.ext (by with_reducible repeat (first | exact Ext.refl _ | apply Ext.drew | apply Ext.alloc | apply Ext.more_)))).mono ?_; rintro e w' ⟨rfl, hb⟩; obtain ⟨os', d', rfl⟩ := hb.more; clear hb) | (go_at_call 53; (with_reducible refine (kfault_any _ _).mono ?_); rintro e w' ⟨D, m, cc, rfl, hD, hb⟩; obtain ⟨os5, d5, rfl⟩ := hb.more; clear hb; have hDr := hD.rd))
            exact bodyPost_ret (v := .tuple #[AV (aloneO 9).R (aloneO 9).C (.slice D m cc), .bool true]) (by simp [results, Tryz.results29, go_sem]) rfl ⟨D, m, cc, rfl, ⟨(by (try simp only [more_more] at hDr); (try simp only [drew_more] at hDr); (try simp only [more_drew] at hDr); (try simp only [Array.append_assoc] at hDr); exact Rd.swap hDr (by first | (simp; done) | (simp; omega) | omega) (by first | (simp; done) | (simp; omega) | omega) (by first | (simp; done) | (simp; omega) | omega)), hD.len, hD.cap, hD.small, hD.ok⟩, by with_reducible repeat (first | exact Ext.refl _ | apply Ext.drew | apply Ext.alloc | apply Ext.more_)⟩
        · obtain rfl : k = n := by omega
          have hall : ∀ g ∈ gs, g.right = true := all_at fun j g hj hg => HR.out j g (by omega) hg
          obtain rfl : F = X := by
            rw [← HX.out]
            unfold callX
            rw [if_neg (by omega), if_pos (List.all_eq_true.2 hall)]
          have hfe := hfd hall (by omega) (by omega)
          have HB := Lib.hid hbx
          clear hT hxT hbx hfd hlen hall HR HX
          go_wp2_with fail
          refine (hfe _ (by with_reducible repeat (first | exact Ext.refl _ | apply Ext.drew | apply Ext.alloc | apply Ext.more_)) (fun q hq => ?_)).mono ?_
          · have hb0 := HB.out q hq
            have hl0 := lt_block hb0
            exact (hX0.block (Nat.lt_of_lt_of_le hl0 (by simp))).trans ((((Ext.refl _).alloc _).block hl0).trans hb0)
          · rintro e w' ⟨D, m, cc, rfl, hD, hb⟩
            obtain ⟨os2, d2, rfl⟩ := hb.more
            clear hb
            have hDr := hD.rd
            go_wp2_with fail
            exact bodyPost_ret (v := .tuple #[AV F.R F.C (.slice D m cc), .bool true]) (by simp [results, Tryz.results29, go_sem]) rfl ⟨D, m, cc, rfl, ⟨(by (try simp only [more_more] at hDr); (try simp only [drew_more] at hDr); (try simp only [more_drew] at hDr); (try simp only [Array.append_assoc] at hDr); exact Rd.swap hDr (by first | (simp; done) | (simp; omega) | omega) (by first | (simp; done) | (simp; omega) | omega) (by first | (simp; done) | (simp; omega) | omega)), hD.len, hD.cap, hD.small, hD.ok⟩, by with_reducible repeat (first | exact Ext.refl _ | apply Ext.drew | apply Ext.alloc | apply Ext.more_)⟩
end Go.Proofs.YteecmifjbeojeaaGreatDoor
namespace Go.Proofs.YteecmifjbeojeaaGreatDoor
open Go.RowKit NM
theorem knumber_any (n : Int) (w : World) : Calls Tryz.prog 26 #[.int .i64 n] w fun e w' => e = .returned (VV 1 n 0 ⟨#[]⟩ false 0) ∧ Ext w w' := by
  go_enter Tryz.func26, Tryz.ntmps26
  go_wp2_with fail
  exact bodyPost_ret (v := VV 1 n 0 ⟨#[]⟩ false 0) (by simp [results, Tryz.results26, go_sem]) rfl ⟨rfl, by with_reducible repeat (first | exact Ext.refl _ | apply Ext.drew | apply Ext.alloc | apply Ext.more_)⟩
theorem krow_any (A : Option Addr) (n cap : Nat) (w : World) (hn : n ≤ 9223372036854775807) : Calls Tryz.prog 18 #[.slice A n cap] w fun e w' => e = .returned (AV 1 n (.slice A n cap)) ∧ Ext w w' := by
  go_enter Tryz.func18, Tryz.ntmps18
  go_wp2_with fail
  exact bodyPost_ret (v := AV 1 n (.slice A n cap)) (by simp [results, Tryz.results18, go_sem]) rfl ⟨rfl, by with_reducible repeat (first | exact Ext.refl _ | apply Ext.drew | apply Ext.alloc | apply Ext.more_)⟩
theorem kcount_any (n : Int) (w : World) (hn : n.natAbs < T 15) : Calls Tryz.prog 19 #[.int .i64 n] w fun e w' => e = .returned (VV 1 (wholeN n).1 (wholeN n).2 ⟨#[]⟩ false 0) ∧ Ext w w' := by
  have hi : I64 n := by have : T 15 = 1000000000000000 := (by decide); unfold I64; omega
  have hm := fun W => rmake_any n 0 W hi
  rw [show rnd (decide (n < 0)) n.natAbs false 0 = some (wholeN n) from (wholex hn).1] at hm
  simp only [rnV, rm, re, Option.getD_some, Option.isSome_some] at hm
  clear hi hn
  generalize (wholeN n).1 = m1 at *
  generalize (wholeN n).2 = m2 at *
  go_enter Tryz.func19, Tryz.ntmps19
  go_wp2_with (first | (go_at_call 22; (with_reducible refine (hm _).mono ?_); rintro e w' ⟨rfl, hb⟩; obtain ⟨os, d, rfl⟩ := hb.more; clear hb))
  exact bodyPost_ret (v := VV 1 m1 m2 ⟨#[]⟩ false 0) (by simp [results, Tryz.results19, go_sem]) rfl ⟨rfl, by with_reducible repeat (first | exact Ext.refl _ | apply Ext.drew | apply Ext.alloc | apply Ext.more_)⟩
/-- What Call tells where it is one value. -/
def OneAt (w : World) (y : Val) (e : Ending) (w' : World) : Prop := ∃ b off cc, e = .returned (.tuple #[AV 1 1 (.slice (some ⟨b, off, none⟩) 1 cc), .bool true]) ∧ ValAt w' b off y ∧ 1 ≤ cc ∧ Ext w w'
theorem CallG.one {w : World} {y : Val} {e : Ending} {w' : World} (h : CallG w (oneA y) e w') : OneAt w y e w' := by
  obtain ⟨D, m, cc, rfl, hN, hb⟩ := h
  have harr := hN.arr
  have hm : 1 = m := harr.len
  subst hm
  obtain ⟨x, b, off, hx, _, rfl, hat⟩ := harr.at (k := 0) (by decide)
  obtain rfl : y = x := by simpa [oneA] using hx
  rw [Nat.zero_mul, Nat.add_zero] at hat
  exact ⟨b, off, cc, rfl, hat, harr.cap, hb⟩
set_option maxHeartbeats 2000000 in
theorem kone_any (s : ByteArray) (A : Option Addr) (n cap : Nat) (y : Val) (w : World) (hc : ∀ W, Ext w W → Calls Tryz.prog 29 #[.string s, .slice A n cap] W (OneAt W y)) :
    Calls Tryz.prog 17 #[.string s, .slice A n cap] w fun e w' => e = .returned (VV y.kind y.mant y.exp y.text y.truth y.fault) ∧ Ext w w' := by
  have HC := Lib.hid hc
  clear hc
  obtain ⟨yk, ym, ye, yt, yb, yf⟩ := y
  go_enter Tryz.func17, Tryz.ntmps17
  go_wp2_with (go_at_call 29; (with_reducible refine (HC.out _ (by with_reducible repeat (first | exact Ext.refl _ | apply Ext.drew | apply Ext.alloc | apply Ext.more_))).mono ?_); rintro e w' ⟨b, off, cc, rfl, ⟨v0, v1, v2, v3, v4, v5⟩, hcc, hb⟩; have hbl := lt_of_cell v0; obtain ⟨os1, d1, rfl⟩ := hb.more; clear hb; (simp at hbl))
  exact bodyPost_ret (v := VV yk ym ye yt yb yf) (by simp [results, Tryz.results17, go_sem]) rfl ⟨rfl, by with_reducible repeat (first | exact Ext.refl _ | apply Ext.drew | apply Ext.alloc | apply Ext.more_)⟩
end Go.Proofs.YteecmifjbeojeaaGreatDoor
namespace Go.Proofs.YteecmifjbeojeaaGreatDoor
open Go.RowKit NM
theorem two_args {w : World} {A : Option Addr} {cap n : Nat} {xs : List Ar} (h : ArgsIn w A n cap xs) (h1 : 2 ≤ n) (h2 : n ≤ 2) : ∃ a b, xs = [a, b] ∧ n = 2 ∧ argN xs 0 = a.x ∧ argN xs 1 = b.x := by
  have hl := h.len
  obtain rfl : n = 2 := by omega
  match xs, hl with
  | [a, b], _ => exact ⟨a, b, rfl, rfl, rfl, rfl⟩
theorem box_cell {p : Nat → Nat} {W : World} (hB : ∀ q ∈ fmathB p, W.heap[q.1]? = some q.2) {i : Nat} {t : TypeId} {fid : FuncId} (hi : (p i, kbx t fid) ∈ fmathB p) : W.cell? ⟨p i, 0, none⟩ = some (fn0 fid) :=
  cell_of_row _ _ 0 _ _ _ (hB _ hi)
def bothO (t : Val → Val → Val) (xs : List Ar) : NA := bothRes t (argN xs 0).R (argN xs 0).C (argN xs 0).l (argN xs 1).R (argN xs 1).C (argN xs 1).l
def eachArg (f : Nm → Nm) (xs : List Ar) : NA := eachO f (argN xs 0)
theorem mcall_mod (A : Option Addr) (n cap : Nat) (gs : List GA) (w : World) (htab : Tab w) (h : ArgsG w A n cap gs) : Calls Tryz.prog 29 #[.string ⟨#[77, 79, 68]⟩, .slice A n cap] w (CallG w (callX 2 2 gs (bothO modV (arsOf gs)))) :=
  kcall_any ⟨#[77, 79, 68]⟩ 2 2 262 (fun p => #[.pointer (some ⟨p 14, 0, none⟩)]) (by decide) (fun _ => rfl) (fun args W => by go_simp) (by decide) (by decide) A n cap gs w h _ (fun hr h1 h2 p W hW hB => by
    obtain ⟨a, b, hx, hn, ha, hb⟩ := two_args (arsOf_in h hr) h1 h2
    have hi := (arsOf_in h hr).ext hW
    have hT := htab.ext hW
    unfold bothO
    rw [ha, hb]
    rw [hx] at hi
    subst hn
    exact kofBoth_any A cap a b 150 modV (p 14) W hi (fun x y V hl _ _ hx hy => modulo_any x y V (hl.tab hT) hx hy _ rfl) (fun x y hx _ => right_modV.ok) (fun args W => by go_simp) (box_cell (t := 70) hB (by simp [fmathB])))
theorem int_rt : ∀ p : Nm, Rt p.1 p.2 → Rt (intN p).1 (intN p).2 := fun p h => (floor_spec h).1
theorem mcall_int (A : Option Addr) (n cap : Nat) (gs : List GA) (w : World) (htab : Tab w) (h : ArgsG w A n cap gs) : Calls Tryz.prog 29 #[.string ⟨#[73, 78, 84]⟩, .slice A n cap] w (CallG w (callX 1 1 gs (eachArg intN (arsOf gs)))) :=
  kcall_any ⟨#[73, 78, 84]⟩ 1 1 257 (fun p => #[.pointer (some ⟨p 12, 0, none⟩)]) (by decide) (fun _ => rfl) (fun args W => by go_simp) (by decide) (by decide) A n cap gs w h _ (fun hr h1 h2 p W hW hB => by
    obtain ⟨a, hx, hn, ha⟩ := one_arg (arsOf_in h hr) h1 h2
    have hi := (arsOf_in h hr).ext hW
    have hT := htab.ext hW
    unfold eachArg
    rw [ha]
    rw [hx] at hi
    subst hn
    exact kofEach_any A cap a 147 intN (p 12) W hi (int_fn W) int_rt (fun args W => by go_simp) (box_cell (t := 83) hB (by simp [fmathB])))
theorem mcall_countif (A : Option Addr) (n cap : Nat) (gs : List GA) (w : World) (htab : Tab w) (hft : FTab w) (h : ArgsG w A n cap gs) : Calls Tryz.prog 29 #[.string ⟨#[67, 79, 85, 78, 84, 73, 70]⟩, .slice A n cap] w (CallG w (callX 2 2 gs (countIfO (arsOf gs)))) :=
  kcall_any ⟨#[67, 79, 85, 78, 84, 73, 70]⟩ 2 2 142 (fun _ => #[]) (by decide) (fun _ => rfl) (fun args W => by go_simp) (by decide) (by decide) A n cap gs w h _ (fun hr h1 h2 p W hW _ => kcountIf_any A n cap _ W (htab.ext hW) (hft.ext hW) ((arsOf_in h hr).ext hW) (by omega))
end Go.Proofs.YteecmifjbeojeaaGreatDoor
namespace Go.Proofs.YteecmifjbeojeaaGreatDoor
open Go.RowKit NM
theorem R_small {N i : Nat} (hN : N < T 15) (hi : 60 ≤ i) : R (N * T i) = N * T i := by
  by_cases h0 : N = 0
  · subst h0; rw [Nat.zero_mul, R_zero]
  · have hn : nd N ≤ 15 := (nd_le_iff _ _).2 hN
    have hS : S15 (N * T i) = N * T i := by
      unfold S15
      rw [nd_mul_T i h0, cutN_mul _ _ _ (by omega), Nat.mul_assoc, ← T_add]
      congr 2; omega
    unfold R
    rw [hS, cutN_mul _ _ _ hi, Nat.mul_assoc, ← T_add]
    congr 2; omega
/-- What is rounded stays between what needs no rounding. -/
theorem R_between {X M M' i : Nat} (hM : M < T 15) (hi : 60 ≤ i) (h1 : M' * T i ≤ X) (h2 : X ≤ M * T i) : M' * T i ≤ R X ∧ R X ≤ M * T i := by
  have hM' : M' < T 15 := by
    have : M' * T i ≤ M * T i := Nat.le_trans h1 h2
    have := Nat.le_of_mul_le_mul_right this (T_pos i)
    omega
  have a := R_mono h1
  have b := R_mono h2
  rw [R_small hM' hi] at a
  rw [R_small hM hi] at b
  exact ⟨a, b⟩
theorem whole_mant {a : Int} (ha : a.natAbs < T 15) (h0 : a ≠ 0) : ∃ k, (wholeN a).2 = (k : Nat) ∧ a = (wholeN a).1 * (T k : Nat) ∧ (wholeN a).1 ≠ 0 := by
  obtain ⟨_, h1, h2, h3, h4⟩ := wholex ha
  refine ⟨(wholeN a).2.toNat, by omega, ?_, fun h => h0 (h3.1 h)⟩
  rw [sc_whole h4, sc_whole0] at h2
  have hp := HX_pos
  have hne : HX ≠ 0 := by omega
  exact (Int.eq_of_mul_eq_mul_right hne (show (wholeN a).1 * ((T (wholeN a).2.toNat : Nat) : Int) * HX = a * HX from h2)).symm
theorem whole_zero : wholeN 0 = (0, 0) := by unfold wholeN; rw [show rndI 0 0 = some (0, 0) from rnd_nought _ _ _]; rfl
theorem floor_zero : floorS 0 0 = (0, 0) := by
  unfold floorS; simp
/-- The scale of a quotient. -/
theorem quot_bounds {P Q ka kb A B j : Nat} (hP : 0 < P) (hQ : 0 < Q) (hA : A = P * T ka) (hB : B = Q * T kb) (hka : ka ≤ 9) (hkb : kb ≤ 9) (hj : j ≤ 10) {M : Nat} (m : Bool)
    (hm : m = decide (P * T 40 % Q ≠ 0)) (X : Nat) (hX : X = if m then (10 * (P * T 40 / Q) + 1) * T ((ka : Int) - kb + 59).toNat else (P * T 40 / Q) * T ((ka : Int) - kb + 60).toNat) :
    (M * B ≤ A * T j → M * T (100 - j) ≤ X) ∧ (A * T j ≤ M * B → X ≤ M * T (100 - j)) := by
  obtain ⟨u, hu⟩ : ∃ u : Nat, u + ka + j = 40 + kb := ⟨40 + kb - ka - j, by omega⟩
  have e1 : ((ka : Int) - kb + 59).toNat + (u + 1) = 100 - j := by omega
  have e2 : ((ka : Int) - kb + 60).toNat + u = 100 - j := by omega
  generalize ((ka : Int) - kb + 59).toNat = f1 at *
  generalize ((ka : Int) - kb + 60).toNat = f2 at *
  have hd := Nat.div_add_mod (P * T 40) Q
  have hr := Nat.mod_lt (P * T 40) hQ
  have hs : A * T j * T u = P * T 40 * T kb := by
    rw [hA, Nat.mul_assoc, Nat.mul_assoc, ← T_add, ← T_add, Nat.mul_assoc, ← T_add]; congr 2; omega
  constructor
  · intro h
    have h1 : M * T u * Q ≤ P * T 40 := by
      have h2 := Nat.mul_le_mul_right (T u) h
      rw [hs, hB] at h2
      have h3 : M * T u * Q * T kb ≤ P * T 40 * T kb := by
        calc M * T u * Q * T kb = M * (Q * T kb) * T u := by ac_rfl
          _ ≤ _ := h2
      exact Nat.le_of_mul_le_mul_right h3 (T_pos kb)
    have h2 : M * T u ≤ P * T 40 / Q := (Nat.le_div_iff_mul_le hQ).2 h1
    rw [hX]
    cases m with
    | true =>
      rw [if_pos rfl, ← e1, Nat.add_comm f1, T_add, show T (u + 1) = 10 * T u from T_succ u, ← Nat.mul_assoc]
      refine Nat.mul_le_mul_right _ ?_
      have : M * (10 * T u) = 10 * (M * T u) := by ac_rfl
      omega
    | false =>
      rw [if_neg (by simp), ← e2, Nat.add_comm f2, T_add, ← Nat.mul_assoc]
      exact Nat.mul_le_mul_right _ h2
  · intro h
    have h1 : P * T 40 ≤ M * T u * Q := by
      have h2 := Nat.mul_le_mul_right (T u) h
      rw [hs, hB] at h2
      have h3 : P * T 40 * T kb ≤ M * T u * Q * T kb := by
        calc P * T 40 * T kb ≤ M * (Q * T kb) * T u := h2
          _ = _ := by ac_rfl
      exact Nat.le_of_mul_le_mul_right h3 (T_pos kb)
    rw [hX]
    cases m with
    | true =>
      rw [if_pos rfl, ← e1, Nat.add_comm f1, T_add, show T (u + 1) = 10 * T u from T_succ u, ← Nat.mul_assoc]
      refine Nat.mul_le_mul_right _ ?_
      have hne : P * T 40 % Q ≠ 0 := by simpa using hm.symm
      have h2 : P * T 40 / Q < M * T u := by
        rw [Nat.div_lt_iff_lt_mul hQ]
        rcases Nat.lt_or_ge (P * T 40) (M * T u * Q) with h | h'
        · exact h
        · exfalso
          have : P * T 40 = M * T u * Q := Nat.le_antisymm h1 h'
          rw [this, Nat.mul_mod_left] at hne
          exact hne rfl
      have : M * (10 * T u) = 10 * (M * T u) := by ac_rfl
      omega
    | false =>
      rw [if_neg (by simp), ← e2, Nat.add_comm f2, T_add, ← Nat.mul_assoc]
      refine Nat.mul_le_mul_right _ ?_
      have : P * T 40 / Q ≤ M * T u * Q / Q := Nat.div_le_div_right h1
      rwa [Nat.mul_div_cancel _ hQ] at this
theorem floor_uniq {m e n : Int} (h : Rt m e) (hn : n.natAbs < T 15) (h1 : n * HX ≤ sc m e) (h2 : sc m e < (n + 1) * HX) : floorS m e = wholeN n := by
  obtain ⟨a, b, c, d⟩ := floor_spec h
  obtain ⟨_, w1, w2, _, _⟩ := wholex hn
  generalize hf : floorS m e = f at *
  have h3 := sc_whole (m := f.1) b
  generalize f.1 * ((T f.2.toNat : Nat) : Int) = z at h3
  have hp := HX_pos
  have hz : z = n := by
    rw [h3] at c d
    have q1 : z * HX < (n + 1) * HX := Int.lt_of_le_of_lt c h2
    have q2 : n * HX < (z + 1) * HX := by rw [Int.add_mul, Int.one_mul]; exact Int.lt_of_le_of_lt h1 d
    have q3 := Int.lt_of_mul_lt_mul_right q1 (by omega)
    have q4 := Int.lt_of_mul_lt_mul_right q2 (by omega)
    omega
  subst hz
  rw [sc_whole0] at w2
  obtain ⟨u1, u2⟩ := sc_uniq a w1 (by rw [h3, w2]; rfl)
  exact Prod.ext u1 u2
theorem mul_whole {a b : Int} (ha : a.natAbs < T 15) (hb : b.natAbs < T 15) : mulS (wholeN a).1 (wholeN a).2 (wholeN b).1 (wholeN b).2 = rndI (a * b) 0 := by
  obtain ⟨_, a1, _, _, a4⟩ := wholex ha
  obtain ⟨_, b1, _, _, b4⟩ := wholex hb
  unfold mulS
  rw [if_pos ⟨a1, b1⟩]
  by_cases h0 : a = 0
  · subst h0
    rw [whole_zero]
    simp only [Int.zero_mul]
    rw [show rndI 0 (0 + (wholeN b).2) = some (0, 0) from rnd_nought _ _ _, show rndI 0 0 = some (0, 0) from rnd_nought _ _ _]
  · by_cases h1 : b = 0
    · subst h1
      rw [whole_zero]
      simp only [Int.mul_zero]
      rw [show rndI 0 ((wholeN a).2 + 0) = some (0, 0) from rnd_nought _ _ _, show rndI 0 0 = some (0, 0) from rnd_nought _ _ _]
    · obtain ⟨ka, e1, e2, _⟩ := whole_mant ha h0
      obtain ⟨kb, f1, f2, _⟩ := whole_mant hb h1
      have h := rndx_scale ((wholeN a).1 * (wholeN b).1) ((wholeN a).2 + (wholeN b).2) (ka + kb)
      rw [← h, e1, f1]
      congr 1
      · rw [T_add, Int.natCast_mul]
        conv => rhs; rw [e2, f2]
        ac_rfl
      · omega
/-- A small multiple is none. -/
theorem mul_small {b x y : Int} (h : b * x = y) (h1 : -b < y) (h2 : y < b) : x = 0 := by
  rcases Int.lt_trichotomy x 0 with h0 | h0 | h0
  · exfalso
    have : b * x ≤ b * (-1) := Int.mul_le_mul_of_nonneg_left (by omega) (by omega)
    omega
  · exact h0
  · exfalso
    have : b * 1 ≤ b * x := Int.mul_le_mul_of_nonneg_left (by omega) (by omega)
    omega
theorem i31_T : (2147483648 : Nat) < T 10 := by decide
/-- What a whole number comes to by another one, cut down: n, and m is left. -/
def Left (a b n m : Int) : Prop := a = b * n + m ∧ (0 < b → 0 ≤ m ∧ m < b) ∧ (b < 0 → b < m ∧ m ≤ 0)
theorem left_nat {a b n m : Int} (h : Left a b n m) (hb : b ≠ 0) (h0 : a ≠ 0) :
    n = if (decide (a < 0) == decide (b < 0)) then ((a.natAbs / b.natAbs : Nat) : Int) else if a.natAbs % b.natAbs = 0 then -((a.natAbs / b.natAbs : Nat) : Int) else -((a.natAbs / b.natAbs : Nat) : Int) - 1 := by
  obtain ⟨h1, h2, h3⟩ := h
  have hd := Nat.div_add_mod a.natAbs b.natAbs
  have hr := Nat.mod_lt a.natAbs (show b.natAbs > 0 by omega)
  generalize a.natAbs / b.natAbs = k at *
  generalize a.natAbs % b.natAbs = r at *
  have hz : ((b.natAbs * k + r : Nat) : Int) = (a.natAbs : Int) := by rw [hd]
  rw [Int.natCast_add, Int.natCast_mul] at hz
  rcases Int.lt_or_gt_of_ne hb with hb0 | hb0 <;> rcases Int.lt_or_gt_of_ne h0 with ha0 | ha0
  · rw [show (b.natAbs : Int) = -b by omega, show (a.natAbs : Int) = -a by omega] at hz
    rw [if_pos (by simp [ha0, hb0])]
    have := mul_small (b := -b) (x := n - k) (y := r - (-m)) (by rw [Int.mul_sub]; have := Int.neg_mul b n; omega) (by omega) (by omega)
    omega
  · rw [show (b.natAbs : Int) = -b by omega, show (a.natAbs : Int) = a by omega] at hz
    rw [if_neg (by simp [hb0]; omega)]
    by_cases hr0 : r = 0
    · rw [if_pos hr0]
      have := mul_small (b := -b) (x := n + k) (y := m) (by rw [Int.mul_add]; have := Int.neg_mul b n; omega) (by omega) (by omega)
      omega
    · rw [if_neg hr0]
      have := mul_small (b := -b) (x := n + k + 1) (y := -b - r + m) (by rw [Int.mul_add, Int.mul_add]; have := Int.neg_mul b n; omega) (by omega) (by omega)
      omega
  · rw [show (b.natAbs : Int) = b by omega, show (a.natAbs : Int) = -a by omega] at hz
    rw [if_neg (by simp [ha0]; omega)]
    by_cases hr0 : r = 0
    · rw [if_pos hr0]
      have := mul_small (b := b) (x := n + k) (y := -m) (by rw [Int.mul_add]; omega) (by omega) (by omega)
      omega
    · rw [if_neg hr0]
      have := mul_small (b := b) (x := n + k + 1) (y := b - r - m) (by rw [Int.mul_add, Int.mul_add]; omega) (by omega) (by omega)
      omega
  · rw [show (b.natAbs : Int) = b by omega, show (a.natAbs : Int) = a by omega] at hz
    rw [if_pos (by simp; omega)]
    have := mul_small (b := b) (x := n - k) (y := r - m) (by rw [Int.mul_sub]; omega) (by omega) (by omega)
    omega
/-- A quotient of whole numbers without signs, rounded: between the same whole ones. -/
theorem quot_R {P Q ka kb A B : Nat} (hP : 0 < P) (hQ : 0 < Q) (hA : A = P * T ka) (hB : B = Q * T kb) (hA' : A ≤ 2147483648) (hB' : B ≤ 2147483648) (neg : Bool) :
    ∃ q, divR neg P Q ((ka : Int) - kb) = some q ∧ Rt q.1 q.2 ∧ ∃ Z : Nat, sc q.1 q.2 = sg neg Z ∧ (A % B = 0 → Z = A / B * T 100) ∧ (A % B ≠ 0 → A / B * T 100 < Z ∧ Z < (A / B + 1) * T 100) := by
  have hka : ka ≤ 9 := by
    rcases Nat.lt_or_ge 9 ka with h | h
    · exfalso
      have h1 : T 10 ≤ T ka := T_mono h
      have h2 : 1 * T ka ≤ P * T ka := Nat.mul_le_mul_right _ hP
      have := i31_T
      omega
    · exact h
  have hkb : kb ≤ 9 := by
    rcases Nat.lt_or_ge 9 kb with h | h
    · exfalso
      have h1 : T 10 ≤ T kb := T_mono h
      have h2 : 1 * T kb ≤ Q * T kb := Nat.mul_le_mul_right _ hQ
      have := i31_T
      omega
    · exact h
  have hB0 : 0 < B := by rw [hB]; exact Nat.mul_pos hQ (T_pos kb)
  have hQB : Q ≤ B := by rw [hB]; exact Nat.le_mul_of_pos_right _ (T_pos kb)
  obtain ⟨m, hm⟩ : ∃ m, m = decide (P * T 40 % Q ≠ 0) := ⟨_, rfl⟩
  obtain ⟨X, hX⟩ : ∃ X, X = if m then (10 * (P * T 40 / Q) + 1) * T ((ka : Int) - kb + 59).toNat else (P * T 40 / Q) * T ((ka : Int) - kb + 60).toNat := ⟨_, rfl⟩
  have hqb := fun j hj M => quot_bounds (j := j) (M := M) hP hQ hA hB hka hkb hj m hm X hX
  -- the quotient as one value without something more
  have hrun : ∃ Y E, divR neg P Q ((ka : Int) - kb) = rnd neg Y false E ∧ -100 ≤ E ∧ Y * T (E + 100).toNat = X := by
    unfold divR
    rw [← hm]
    cases m with
    | false => exact ⟨_, _, rfl, by omega, by rw [hX, if_neg (by simp)]; congr 2; omega⟩
    | true =>
      have hN : 16 ≤ nd (P * T 40 / Q) := by
        have h1 : T 16 ≤ P * T 40 / Q := by
          rw [Nat.le_div_iff_mul_le hQ]
          have h2 : T 16 * Q ≤ T 16 * T 10 := Nat.mul_le_mul_left _ (by have := i31_T; omega)
          have h3 : T 16 * T 10 ≤ T 40 := by rw [← T_add]; exact T_mono (by omega)
          have h4 : 1 * T 40 ≤ P * T 40 := Nat.mul_le_mul_right _ hP
          rw [Nat.one_mul] at h4
          exact Nat.le_trans h2 (Nat.le_trans h3 h4)
        have := (lt_nd_iff (P * T 40 / Q) 16).2 h1
        omega
      have h1 := rnd_sticky neg (P * T 40 / Q) 1 1 false ((ka : Int) - kb - 40) hN (by decide)
      simp only [ne_eq, Nat.add_one_ne_zero, not_false_eq_true, decide_true, Bool.true_or] at h1
      refine ⟨_, _, h1.symm, by omega, ?_⟩
      rw [hX, if_pos rfl]
      congr 1
      · simp [T]; omega
      · congr 1; omega
  obtain ⟨Y, E, hY, hE, hYX⟩ := hrun
  have hd := Nat.div_add_mod A B
  have hr := Nat.mod_lt A hB0
  have hbig : ∀ Z, Z < (A / B + 1) * T 100 ∨ Z ≤ A / B * T 100 → Z < T 140 := by
    intro Z hZ
    have h1 : A / B ≤ A := Nat.div_le_self _ _
    have h2 : A / B + 1 ≤ T 10 := by have := i31_T; omega
    have h3 : (A / B + 1) * T 100 ≤ T 10 * T 100 := Nat.mul_le_mul_right _ h2
    rw [← T_add] at h3
    have h4 : T (10 + 100) ≤ T 140 := T_mono (by omega)
    have h5 : A / B * T 100 ≤ (A / B + 1) * T 100 := Nat.mul_le_mul_right _ (by omega)
    have h6 : T (10 + 100) < T 140 := T_lt (by omega)
    omega
  have hfin : ∀ Z, R X = Z → Z < T 140 → ∃ q, divR neg P Q ((ka : Int) - kb) = some q ∧ Rt q.1 q.2 ∧ sc q.1 q.2 = sg neg Z := by
    intro Z hZ hZ'
    rw [hY]
    cases hq : rnd neg Y false E with
    | none =>
      have := (rnd_none (neg := neg) (N := Y) hE).1 hq
      rw [hYX, hZ] at this
      omega
    | some q =>
      have := sc_rnd hE hq
      rw [hYX, hZ] at this
      exact ⟨q, rfl, rnd_right hq, this⟩
  by_cases hr0 : A % B = 0
  · have hAB : A = A / B * B := by rw [hr0] at hd; rw [Nat.mul_comm]; omega
    have hq := hqb 0 (by omega) (A / B)
    have x1 := hq.1 (by rw [← hAB]; simp [T])
    have x2 := hq.2 (by rw [← hAB]; simp [T])
    have hX2 : X = A / B * T 100 := Nat.le_antisymm x2 x1
    have hk : A / B < T 15 := by have h1 : A / B ≤ A := Nat.div_le_self _ _; have := i31_T; have : T 10 ≤ T 15 := T_mono (by omega); omega
    have hRX : R X = A / B * T 100 := by rw [hX2]; exact R_small hk (by omega)
    obtain ⟨q, h1, h2, h3⟩ := hfin _ hRX (hbig _ (Or.inr (Nat.le_refl _)))
    exact ⟨q, h1, h2, _, h3, fun _ => rfl, fun h => absurd hr0 h⟩
  · obtain ⟨j, hj⟩ : ∃ j, j = nd B := ⟨_, rfl⟩
    have hj10 : j ≤ 10 := by rw [hj]; exact (nd_le_iff _ _).2 (by have := i31_T; omega)
    have hBj : B < T j := by rw [hj]; exact lt_T_nd B
    have hBj2 : T j ≤ 10 * B := by
      have h1 := T_le_of_nd (n := B) (by omega)
      have h2 : nd B ≠ 0 := by have := nd_pos (n := B) (by omega); omega
      rw [hj, show nd B = (nd B - 1) + 1 by omega, T_succ]
      omega
    generalize A / B = k at *
    generalize A % B = r at *
    have hM0 : 0 < (k + 1) * T j := Nat.mul_pos (by omega) (T_pos j)
    have l1 : (k * T j + 1) * B ≤ A * T j := by
      rw [← hd]
      have h1 : r * T j ≥ 1 * T j := Nat.mul_le_mul_right _ (by omega)
      have h2 : (k * T j + 1) * B = B * k * T j + B := by rw [Nat.add_mul, Nat.one_mul]; congr 1; ac_rfl
      have h3 : (B * k + r) * T j = B * k * T j + r * T j := Nat.add_mul _ _ _
      rw [h2, h3]
      omega
    have l2 : A * T j ≤ ((k + 1) * T j - 1) * B := by
      rw [← hd, Nat.sub_mul, Nat.one_mul]
      have h1 : (B * k + r) * T j + T j ≤ (k + 1) * T j * B := by
        have h2 : (B * k + r) * T j + T j = (B * k + r + 1) * T j := by rw [Nat.add_mul (B * k + r), Nat.one_mul]
        have h3 : (k + 1) * T j * B = (B * k + B) * T j := by
          rw [show B * k + B = B * (k + 1) by rw [Nat.mul_succ]]; ac_rfl
        rw [h2, h3]
        exact Nat.mul_le_mul_right _ (by omega)
      omega
    have x1 := (hqb j hj10 (k * T j + 1)).1 l1
    have x2 := (hqb j hj10 ((k + 1) * T j - 1)).2 l2
    have hM : (k + 1) * T j - 1 < T 15 := by
      have h1 : (k + 1) * T j ≤ (k + 1) * (10 * B) := Nat.mul_le_mul_left _ hBj2
      have h2 : (k + 1) * (10 * B) = 10 * (B * k + B) := by rw [show B * k + B = B * (k + 1) by rw [Nat.mul_succ]]; ac_rfl
      have h3 : T 15 = 1000000000000000 := by decide
      omega
    obtain ⟨y1, y2⟩ := R_between hM (by omega) x1 x2
    have hT : T 100 = T j * T (100 - j) := by rw [← T_add]; congr 1; omega
    have hp := T_pos (100 - j)
    have z1 : k * T 100 < R X := by
      refine Nat.lt_of_lt_of_le ?_ y1
      rw [hT, ← Nat.mul_assoc]
      exact Nat.mul_lt_mul_of_pos_right (by omega) hp
    have z2 : R X < (k + 1) * T 100 := by
      refine Nat.lt_of_le_of_lt y2 ?_
      rw [hT, ← Nat.mul_assoc]
      exact Nat.mul_lt_mul_of_pos_right (by omega) hp
    obtain ⟨q, h1, h2, h3⟩ := hfin _ rfl (hbig _ (Or.inl z2))
    exact ⟨q, h1, h2, _, h3, fun h => absurd h hr0, fun _ => ⟨z1, z2⟩⟩
/-- The floor of a quotient of whole numbers. -/
theorem quot_whole {a b n m : Int} (h : Left a b n m) (hb : b ≠ 0) (ha' : a.natAbs ≤ 2147483648) (hb' : b.natAbs ≤ 2147483648) :
    ∃ q, divS (wholeN a).1 (wholeN a).2 (wholeN b).1 (wholeN b).2 = some q ∧ Rt q.1 q.2 ∧ floorS q.1 q.2 = wholeN n := by
  have hT : T 15 = 1000000000000000 := by decide
  obtain ⟨_, a1, _, a3, _⟩ := wholex (n := a) (by omega)
  obtain ⟨_, b1, _, b3, _⟩ := wholex (n := b) (by omega)
  unfold divS
  rw [if_pos ⟨a1, b1, fun h => hb (b3.1 h)⟩]
  by_cases h0 : a = 0
  · subst h0
    have hn : n = 0 := by
      obtain ⟨h1, h2, h3⟩ := h
      rcases Int.lt_or_gt_of_ne hb with hb0 | hb0
      · exact mul_small (b := -b) (y := m) (by have := Int.neg_mul b n; omega) (by omega) (by omega)
      · exact mul_small (b := b) (y := -m) (by omega) (by omega) (by omega)
    subst hn
    refine ⟨(0, 0), ?_, Or.inl ⟨rfl, rfl⟩, by rw [whole_zero]; exact floor_zero⟩
    rw [whole_zero]
    unfold divR
    rw [show (0 : Int).natAbs = 0 from rfl, Nat.zero_mul, Nat.zero_div]
    exact rnd_nought _ _ _
  · obtain ⟨ka, e1, e2, e3⟩ := whole_mant (a := a) (by omega) h0
    obtain ⟨kb, f1, f2, f3⟩ := whole_mant (a := b) (by omega) hb
    have hn := left_nat h hb h0
    have hA : a.natAbs = (wholeN a).1.natAbs * T ka := by
      have h9 : a.natAbs = ((wholeN a).1 * ((T ka : Nat) : Int)).natAbs := congrArg Int.natAbs e2
      rw [h9, Int.natAbs_mul, Int.natAbs_natCast]
    have hB : b.natAbs = (wholeN b).1.natAbs * T kb := by
      have h9 : b.natAbs = ((wholeN b).1 * ((T kb : Nat) : Int)).natAbs := congrArg Int.natAbs f2
      rw [h9, Int.natAbs_mul, Int.natAbs_natCast]
    have hsa : decide ((wholeN a).1 < 0) = decide (a < 0) := by
      have := T_pos ka
      by_cases hx : (wholeN a).1 < 0
      · have : (wholeN a).1 * (T ka : Nat) < 0 := Int.mul_neg_of_neg_of_pos hx (by omega)
        rw [decide_eq_true hx, decide_eq_true (show a < 0 by omega)]
      · have : 0 ≤ (wholeN a).1 * (T ka : Nat) := Int.mul_nonneg (by omega) (by omega)
        rw [decide_eq_false hx, decide_eq_false (show ¬ a < 0 by omega)]
    have hsb : decide ((wholeN b).1 < 0) = decide (b < 0) := by
      have := T_pos kb
      by_cases hx : (wholeN b).1 < 0
      · have : (wholeN b).1 * (T kb : Nat) < 0 := Int.mul_neg_of_neg_of_pos hx (by omega)
        rw [decide_eq_true hx, decide_eq_true (show b < 0 by omega)]
      · have : 0 ≤ (wholeN b).1 * (T kb : Nat) := Int.mul_nonneg (by omega) (by omega)
        rw [decide_eq_false hx, decide_eq_false (show ¬ b < 0 by omega)]
    obtain ⟨q, h1, h2, Z, h3, h4, h5⟩ := quot_R (P := (wholeN a).1.natAbs) (Q := (wholeN b).1.natAbs) (by omega) (by omega) hA hB ha' hb' (ngB (wholeN a).1 (wholeN b).1)
    rw [e1, f1]
    refine ⟨q, h1, h2, ?_⟩
    have hng : ngB (wholeN a).1 (wholeN b).1 = !(decide (a < 0) == decide (b < 0)) := by unfold ngB; rw [hsa, hsb]
    rw [hng] at h3
    have hk : a.natAbs / b.natAbs ≤ a.natAbs := Nat.div_le_self _ _
    have hp := T_pos 100
    generalize a.natAbs / b.natAbs = k at *
    generalize a.natAbs % b.natAbs = r at *
    cases hs : (decide (a < 0) == decide (b < 0)) with
    | true =>
      rw [hs] at h3 hn
      rw [if_pos rfl] at hn
      have h3' : sc q.1 q.2 = (Z : Int) := h3
      refine floor_uniq h2 (by omega) ?_ ?_
      · rw [h3', hn]; unfold HX; rw [← Int.natCast_mul]
        by_cases hr : r = 0
        · rw [h4 hr]; exact Int.le_refl _
        · have := (h5 hr).1; omega
      · rw [h3', hn]; unfold HX; rw [show ((k : Nat) : Int) + 1 = ((k + 1 : Nat) : Int) by omega, ← Int.natCast_mul]
        by_cases hr : r = 0
        · rw [h4 hr]; have := Nat.mul_lt_mul_of_pos_right (show k < k + 1 by omega) hp; omega
        · have := (h5 hr).2; omega
    | false =>
      rw [hs] at h3 hn
      rw [if_neg (by simp)] at hn
      have h3' : sc q.1 q.2 = -(Z : Int) := h3
      by_cases hr : r = 0
      · rw [if_pos hr] at hn
        have hz := h4 hr
        refine floor_uniq h2 (by omega) ?_ ?_
        · rw [h3', hn, hz]; unfold HX; rw [Int.neg_mul, ← Int.natCast_mul]; omega
        · rw [h3', hn, hz]; unfold HX; rw [Int.add_mul, Int.neg_mul, ← Int.natCast_mul]; omega
      · rw [if_neg hr] at hn
        obtain ⟨u1, u2⟩ := h5 hr
        rw [Nat.add_mul] at u2
        refine floor_uniq h2 (by omega) ?_ ?_
        · rw [h3', hn]; unfold HX; rw [Int.sub_mul, Int.neg_mul, ← Int.natCast_mul]; omega
        · rw [h3', hn, show -((k : Nat) : Int) - 1 + 1 = -((k : Nat) : Int) by omega]; unfold HX; rw [Int.neg_mul, ← Int.natCast_mul]; omega
/-- What is left, by Div, Floor, Mul and Sub. -/
theorem left_bd {a b n m : Int} (h : Left a b n m) (hb : b ≠ 0) (ha' : a.natAbs ≤ 2147483648) (hb' : b.natAbs ≤ 2147483648) : (b * n).natAbs ≤ 4294967296 ∧ m.natAbs ≤ 2147483648 ∧ n.natAbs ≤ 4294967296 := by
  obtain ⟨h1, h2, h3⟩ := h
  have hm : m.natAbs ≤ 2147483648 := by omega
  have hbn : (b * n).natAbs ≤ 4294967296 := by omega
  refine ⟨hbn, hm, ?_⟩
  have : n.natAbs ≤ (b * n).natAbs := by rw [Int.natAbs_mul]; exact Nat.le_mul_of_pos_left _ (by omega)
  omega
theorem left_whole {a b n m : Int} (h : Left a b n m) (hb : b ≠ 0) (ha' : a.natAbs ≤ 2147483648) (hb' : b.natAbs ≤ 2147483648) :
    mulS (wholeN b).1 (wholeN b).2 (wholeN n).1 (wholeN n).2 = some (wholeN (b * n)) ∧ subS (wholeN a).1 (wholeN a).2 (wholeN (b * n)).1 (wholeN (b * n)).2 = some (wholeN m) := by
  have hT : T 15 = 1000000000000000 := by decide
  obtain ⟨c1, c2, c3⟩ := left_bd h hb ha' hb'
  rw [mul_whole (by omega) (by omega), sub_whole (by omega) (by omega), (wholex (n := b * n) (by omega)).1]
  refine ⟨rfl, ?_⟩
  rw [show a - b * n = m by have := h.1; omega]
  exact (wholex (by omega)).1
end Go.Proofs.YteecmifjbeojeaaGreatDoor
namespace Go.Proofs.YteecmifjbeojeaaGreatDoor
open Go.RowKit NM
@[go_sem] theorem nV_kind (p : Nm) : (nV p).kind = 1 := rfl
@[go_sem] theorem nV_mant (p : Nm) : (nV p).mant = p.1 := rfl
@[go_sem] theorem nV_exp (p : Nm) : (nV p).exp = p.2 := rfl
@[go_sem] theorem nV_text (p : Nm) : (nV p).text = ⟨#[]⟩ := rfl
@[go_sem] theorem nV_truth (p : Nm) : (nV p).truth = false := rfl
@[go_sem] theorem nV_fault (p : Nm) : (nV p).fault = 0 := rfl
theorem rd_block {W : World} {p : Nat} {cs : List Value} (h : ∀ j u, cs[j]? = some u → W.cell? ⟨p, j, none⟩ = some u) : Rd 0 W (some ⟨p, 0, none⟩) cs := fun j u hu => ⟨p, 0, rfl, Nat.zero_le _, by rw [Nat.zero_add]; exact h j u hu⟩
theorem karr1 {W : World} {p : Nat} {x : Val} (hv : ValAt W p 0 x) (hx : x.ok) : ArrIn W (some ⟨p, 0, none⟩) 1 1 [x] := by
  obtain ⟨h0, h1, h2, h3, h4, h5⟩ := hv
  refine ⟨rd_block fun j u hu => ?_, rfl, Nat.le_refl _, by decide, fun y hy => by rw [List.mem_singleton.1 hy]; exact hx⟩
  have e : vcells [x] = [.int .i64 x.kind, .int .i64 x.mant, .int .i64 x.exp, .string x.text, .bool x.truth, .int .i64 x.fault] := rfl
  rw [e] at hu
  match j, hu with
  | 0, hu => obtain rfl := Option.some.inj hu; exact h0
  | 1, hu => obtain rfl := Option.some.inj hu; exact h1
  | 2, hu => obtain rfl := Option.some.inj hu; exact h2
  | 3, hu => obtain rfl := Option.some.inj hu; exact h3
  | 4, hu => obtain rfl := Option.some.inj hu; exact h4
  | 5, hu => obtain rfl := Option.some.inj hu; exact h5
  | j + 6, hu => simp at hu
theorem karr2 {W : World} {p : Nat} {x y : Val} (hv : ValAt W p 0 x) (hw : ValAt W p 6 y) (hx : x.ok) (hy : y.ok) : ArrIn W (some ⟨p, 0, none⟩) 2 2 [x, y] := by
  obtain ⟨h0, h1, h2, h3, h4, h5⟩ := hv
  obtain ⟨g0, g1, g2, g3, g4, g5⟩ := hw
  refine ⟨rd_block fun j u hu => ?_, rfl, Nat.le_refl _, by decide, fun z hz => by rcases List.mem_cons.1 hz with rfl | hz; exact hx; rw [List.mem_singleton.1 hz]; exact hy⟩
  have e : vcells [x, y] = [.int .i64 x.kind, .int .i64 x.mant, .int .i64 x.exp, .string x.text, .bool x.truth, .int .i64 x.fault, .int .i64 y.kind, .int .i64 y.mant, .int .i64 y.exp, .string y.text, .bool y.truth, .int .i64 y.fault] := rfl
  rw [e] at hu
  match j, hu with
  | 0, hu => obtain rfl := Option.some.inj hu; exact h0
  | 1, hu => obtain rfl := Option.some.inj hu; exact h1
  | 2, hu => obtain rfl := Option.some.inj hu; exact h2
  | 3, hu => obtain rfl := Option.some.inj hu; exact h3
  | 4, hu => obtain rfl := Option.some.inj hu; exact h4
  | 5, hu => obtain rfl := Option.some.inj hu; exact h5
  | 6, hu => obtain rfl := Option.some.inj hu; exact g0
  | 7, hu => obtain rfl := Option.some.inj hu; exact g1
  | 8, hu => obtain rfl := Option.some.inj hu; exact g2
  | 9, hu => obtain rfl := Option.some.inj hu; exact g3
  | 10, hu => obtain rfl := Option.some.inj hu; exact g4
  | 11, hu => obtain rfl := Option.some.inj hu; exact g5
  | j + 12, hu => simp at hu
theorem kargs1 {W : World} {p : Nat} {a : Ar} (h : ArAt W p 0 a) (ha : ArOk W a) : ArgsIn W (some ⟨p, 0, none⟩) 1 1 [a] := by
  obtain ⟨h0, h1, h2⟩ := h
  refine ⟨rd_block fun j u hu => ?_, rfl, Nat.le_refl _, by decide, fun b hb => by rw [List.mem_singleton.1 hb]; exact ha⟩
  have e : acells [a] = [.int .i64 a.x.R, .int .i64 a.x.C, .slice a.A a.n a.cap] := rfl
  rw [e] at hu
  match j, hu with
  | 0, hu => obtain rfl := Option.some.inj hu; exact h0
  | 1, hu => obtain rfl := Option.some.inj hu; exact h1
  | 2, hu => obtain rfl := Option.some.inj hu; exact h2
  | j + 3, hu => simp at hu
theorem kargs2 {W : World} {p : Nat} {a b : Ar} (h : ArAt W p 0 a) (g : ArAt W p 3 b) (ha : ArOk W a) (hb : ArOk W b) : ArgsIn W (some ⟨p, 0, none⟩) 2 2 [a, b] := by
  obtain ⟨h0, h1, h2⟩ := h
  obtain ⟨g0, g1, g2⟩ := g
  refine ⟨rd_block fun j u hu => ?_, rfl, Nat.le_refl _, by decide, fun z hz => by rcases List.mem_cons.1 hz with rfl | hz; exact ha; rw [List.mem_singleton.1 hz]; exact hb⟩
  have e : acells [a, b] = [.int .i64 a.x.R, .int .i64 a.x.C, .slice a.A a.n a.cap, .int .i64 b.x.R, .int .i64 b.x.C, .slice b.A b.n b.cap] := rfl
  rw [e] at hu
  match j, hu with
  | 0, hu => obtain rfl := Option.some.inj hu; exact h0
  | 1, hu => obtain rfl := Option.some.inj hu; exact h1
  | 2, hu => obtain rfl := Option.some.inj hu; exact h2
  | 3, hu => obtain rfl := Option.some.inj hu; exact g0
  | 4, hu => obtain rfl := Option.some.inj hu; exact g1
  | 5, hu => obtain rfl := Option.some.inj hu; exact g2
  | j + 6, hu => simp at hu
/-- A row of values. -/
def rowA (l : List Val) : NA := ⟨1, l.length, l⟩
theorem rowA_right {l : List Val} (h0 : 0 < l.length) (hl : l.length ≤ 4096) (h : ∀ x ∈ l, x.right) : (rowA l).right := rightA_nat.2 ⟨Nat.le_refl _, h0, by show 1 * l.length ≤ 4096; omega, by show l.length = 1 * l.length; omega, h⟩
theorem rt_k {k : Int} (h0 : k ≠ 0) (h1 : k.natAbs < 1000000000000000) (h2 : k.natAbs % 10 ≠ 0) : Rt k 0 := rt_lit h0 h1 h2 (by omega) (by omega)
theorem whole_k {k : Int} (h0 : k ≠ 0) (h1 : k.natAbs < 1000000000000000) (h2 : k.natAbs % 10 ≠ 0) : wholeN k = (k, 0) := by
  unfold wholeN; rw [rndx_right (rt_k h0 h1 h2)]; rfl
theorem both_oneV {t : Val → Val → Val} {x y : Val} (hx : x.right) (hy : y.right) (ht : (t x y).right) (D1 D2 : Option Addr) (m1 c1 m2 c2 : Nat) : bothO t [arAt (rowA [x]) D1 m1 c1, arAt (rowA [y]) D2 m2 c2] = oneA (t x y) := by
  show bothRes t 1 1 [x] 1 1 [y] = _
  have r1 : rightA 1 1 [x] = true := rowA_right (l := [x]) (by simp) (by simp) (fun z hz => by rw [List.mem_singleton.1 hz]; exact hx)
  have r2 : rightA 1 1 [y] = true := rowA_right (l := [y]) (by simp) (by simp) (fun z hz => by rw [List.mem_singleton.1 hz]; exact hy)
  unfold bothRes
  rw [r1, r2]
  have : bothL t 1 1 [x] 1 1 [y] = [oneV (t x y)] := rfl
  rw [koneV ht] at this
  simp only [Bool.and_self, if_true]
  rw [if_pos (by decide)]
  exact congrArg (NA.mk 1 1) this
theorem tn_nV (p : Nm) : tnF (nV p) = 0 ∧ tnP (nV p) = p := ⟨rfl, rfl⟩
/-- MOD of whole numbers. -/
theorem modV_whole {a b n m : Int} (h : Left a b n m) (hb : b ≠ 0) (ha' : a.natAbs ≤ 2147483648) (hb' : b.natAbs ≤ 2147483648) : modV (nV (wholeN a)) (nV (wholeN b)) = nV (wholeN m) := by
  have hT : T 15 = 1000000000000000 := by decide
  obtain ⟨q, h1, h2, h3⟩ := quot_whole h hb ha' hb'
  obtain ⟨h4, h5⟩ := left_whole h hb ha' hb'
  have hb0 : (wholeN b).1 ≠ 0 := fun e => hb ((wholex (by omega)).2.2.2.1.1 e)
  unfold modV
  rw [(tn_nV _).1, (tn_nV _).1, (tn_nV _).2, (tn_nV _).2, if_neg (by simp), if_neg (by simp)]
  unfold modN
  rw [if_neg hb0, h1]
  simp only
  rw [h3, h4]
  simp only
  rw [h5]
  rfl
theorem par_1 : parS ⟨#[49]⟩ = some (1, 0) := by
  unfold parS
  rw [if_neg (by decide)]
  exact rndx_right (m := 1) (e := 0) (rt_lit (by decide) (by decide) (by decide) (by decide) (by decide))
def gt1V : Val := ⟨2, 0, 0, ⟨#[62, 49]⟩, false, 0⟩
@[go_sem] theorem gt1_kind : gt1V.kind = 2 := rfl
@[go_sem] theorem gt1_mant : gt1V.mant = 0 := rfl
@[go_sem] theorem gt1_exp : gt1V.exp = 0 := rfl
@[go_sem] theorem gt1_text : gt1V.text = ⟨#[62, 49]⟩ := rfl
@[go_sem] theorem gt1_truth : gt1V.truth = false := rfl
@[go_sem] theorem gt1_fault : gt1V.fault = 0 := rfl
theorem right_gt1 : gt1V.right := by
  have := right_text ⟨#[62, 49]⟩
  exact this
theorem read_num {s : ByteArray} {p : Nm} (h : parS s = some p) (h0 : s.data.toList ≠ []) : readV s = nV p := by
  unfold readV
  have h1 : (s.toList == []) = false := by rw [ByteArray.toList_eq]; simpa using h0
  rw [h1, h, if_neg (by simp), if_pos (show (some p).isSome = true from rfl)]; rfl
theorem crit_gt1 : critO gt1V = (.gt, nV (1, 0)) := by
  have h1 : csOf ⟨#[62, 49]⟩ = some .gt := rfl
  unfold critO
  rw [if_pos (show gt1V.kind = 2 from rfl)]
  show (match csOf ⟨#[62, 49]⟩ with | some c => (c, readV ⟨(Lib.trimPrefix (ByteArray.mk #[62, 49]).data.toList c.key).toArray⟩) | none => (CS.eq, gt1V)) = _
  rw [h1]
  show (CS.gt, readV ⟨#[49]⟩) = _
  rw [read_num par_1 (by simp)]
theorem fits_gt1 (k : Int) (hk : Rt k 0) : kfitB .gt (nV (1, 0)) (nV (k, 0)) = decide (1 < k) := by
  unfold kfitB
  rw [if_pos (show (nV (k, 0)).kind = (nV (1, 0)).kind from rfl)]
  have h : cmpV (nV (k, 0)) (nV (1, 0)) = cmpS k 0 1 0 := rfl
  have e : sc k 0 - sc 1 0 = (k - 1) * ((T 100 : Nat) : Int) := by rw [sc_whole0, sc_whole0, Int.sub_mul]
  rw [h, cmp_sc hk rt_one, e, sign_T]
  show decide (0 < (k - 1).sign) = _
  rcases Int.lt_trichotomy (k - 1) 0 with h1 | h1 | h1
  · rw [Int.sign_eq_neg_one_of_neg h1, decide_eq_false (by omega), decide_eq_false (by omega)]
  · rw [h1, decide_eq_false (by decide), decide_eq_false (by omega)]
  · rw [Int.sign_eq_one_of_pos h1, decide_eq_true (by omega), decide_eq_true (by omega)]
theorem count_aw (D1 D2 : Option Addr) (m1 c1 m2 c2 : Nat) : countIfO [arAt (rowA [nV (1, 0), nV (5, 0)]) D1 m1 c1, arAt (rowA [gt1V]) D2 m2 c2] = oneA (nV (1, 0)) := by
  unfold countIfO
  have h1 : argV [arAt (rowA [nV (1, 0), nV (5, 0)]) D1 m1 c1, arAt (rowA [gt1V]) D2 m2 c2] 1 = gt1V := rfl
  have h0 : (argN [arAt (rowA [nV (1, 0), nV (5, 0)]) D1 m1 c1, arAt (rowA [gt1V]) D2 m2 c2] 0).l = [nV (1, 0), nV (5, 0)] := rfl
  rw [h1, h0, if_neg (by decide), crit_gt1]
  unfold countedO
  have h5 : Rt 5 0 := rt_k (by decide) (by decide) (by decide)
  have f1 := fits_gt1 1 rt_one
  have f5 := fits_gt1 5 h5
  have hf : ([nV (1, 0), nV (5, 0)].filter (kfitB CS.gt (nV (1, 0)))) = [nV (5, 0)] := by
    rw [List.filter_cons_of_neg (by rw [f1]; simp), List.filter_cons_of_pos (by rw [f5]; simp)]; rfl
  simp only
  rw [hf]
  show oneA (cntV 1) = _
  unfold cntV
  rw [whole_k (k := 1) (by decide) (by decide) (by decide)]
  rfl
theorem krow_in {A : Option Addr} {n cap : Nat} {l : List Val} (w : World) (h : ArrIn w A n cap l) : Calls Tryz.prog 18 #[.slice A n cap] w fun e w' => e = .returned (AV 1 n (.slice A n cap)) ∧ ArrIn w' A n cap l ∧ Ext w w' :=
  (krow_any A n cap w h.small).mono fun e w' ⟨h1, h2⟩ => ⟨h1, h.ext h2, h2⟩
section
variable {W : World} {p : Nat}
theorem row_at_ {o : Nat} {D : Option Addr} {n c : Nat} {l : List Val} (h : ArrIn W D n c l) (c0 : W.cell? ⟨p, o, none⟩ = some (.int .i64 1)) (c1 : W.cell? ⟨p, o + 1, none⟩ = some (.int .i64 (n : Int))) (c2 : W.cell? ⟨p, o + 2, none⟩ = some (.slice D n c)) : ArAt W p o (arAt (rowA l) D n c) :=
  ⟨c0, by show _ = some (Value.int .i64 (l.length : Int)); rw [h.len]; exact c1, c2⟩
theorem krows1 {D : Option Addr} {n c : Nat} {l : List Val} (h : ArrIn W D n c l) (hr : (rowA l).right) (c0 : W.cell? ⟨p, 0, none⟩ = some (.int .i64 1)) (c1 : W.cell? ⟨p, 1, none⟩ = some (.int .i64 (n : Int))) (c2 : W.cell? ⟨p, 2, none⟩ = some (.slice D n c)) :
    ArgsIn W (some ⟨p, 0, none⟩) 1 1 [arAt (rowA l) D n c] := kargs1 (row_at_ h c0 c1 c2) ⟨h, hr⟩
theorem krows2 {D D' : Option Addr} {n c n' c' : Nat} {l l' : List Val} (h : ArrIn W D n c l) (hr : (rowA l).right) (h' : ArrIn W D' n' c' l') (hr' : (rowA l').right) (c0 : W.cell? ⟨p, 0, none⟩ = some (.int .i64 1)) (c1 : W.cell? ⟨p, 1, none⟩ = some (.int .i64 (n : Int))) (c2 : W.cell? ⟨p, 2, none⟩ = some (.slice D n c)) (c3 : W.cell? ⟨p, 3, none⟩ = some (.int .i64 1)) (c4 : W.cell? ⟨p, 4, none⟩ = some (.int .i64 (n' : Int))) (c5 : W.cell? ⟨p, 5, none⟩ = some (.slice D' n' c')) :
    ArgsIn W (some ⟨p, 0, none⟩) 2 2 [arAt (rowA l) D n c, arAt (rowA l') D' n' c'] := kargs2 (row_at_ h c0 c1 c2) (row_at_ h' c3 c4 c5) ⟨h, hr⟩ ⟨h', hr'⟩
end
theorem one_row {x : Val} (hx : x.right) : (rowA [x]).right := rowA_right (by simp) (by simp) (fun z hz => by rw [List.mem_singleton.1 hz]; exact hx)
theorem two_row {x y : Val} (hx : x.right) (hy : y.right) : (rowA [x, y]).right := rowA_right (by simp) (by simp) (fun z hz => by rcases List.mem_cons.1 hz with rfl | hz; exact hx; rw [List.mem_singleton.1 hz]; exact hy)
/-- Call of known arguments that may be. -/
theorem mcall_in {s : ByteArray} {A : Option Addr} {n cap lo hi : Nat} {xs : List Ar} {w : World} {F : List Ar → NA} {X : NA} (h : ArgsIn w A n cap xs) (h1 : lo ≤ n) (h2 : n ≤ hi) (hX : F xs = X)
    (hc : ArgsG w A n cap (xs.map Ar.toG) → Calls Tryz.prog 29 #[.string s, .slice A n cap] w (CallG w (callX lo hi (xs.map Ar.toG) (F (arsOf (xs.map Ar.toG)))))) : Calls Tryz.prog 29 #[.string s, .slice A n cap] w (CallG w X) := by
  have hc := hc h.toG
  rw [arsOf_toG, callX_in _ (by rw [h.len]; exact h1) (by rw [h.len]; exact h2) (fun a ha => (h.all a ha).right), hX] at hc
  exact hc
/-- What Call tells where it is one value, and where that lies. -/
theorem CallG.here {w : World} {y : Val} {e : Ending} {w' : World} (h : CallG w (oneA y) e w') : ∃ D c, e = .returned (.tuple #[AV 1 1 (.slice D 1 c), .bool true]) ∧ ArrIn w' D 1 c [y] ∧ Ext w w' := by
  obtain ⟨D, m, cc, rfl, hN, hb⟩ := h
  have harr := hN.arr
  have hm : 1 = m := harr.len
  subst hm
  exact ⟨D, cc, rfl, harr, hb⟩
/-- The law's one, of known arguments that may be. -/
theorem kone_in {s : ByteArray} {A : Option Addr} {n cap lo hi : Nat} {xs : List Ar} {w : World} {F : List Ar → NA} {y : Val} (h : ArgsIn w A n cap xs) (h1 : lo ≤ n) (h2 : n ≤ hi) (hX : F xs = oneA y)
    (hc : ∀ W, Ext w W → ArgsG W A n cap (xs.map Ar.toG) → Calls Tryz.prog 29 #[.string s, .slice A n cap] W (CallG W (callX lo hi (xs.map Ar.toG) (F (arsOf (xs.map Ar.toG)))))) :
    Calls Tryz.prog 17 #[.string s, .slice A n cap] w fun e w' => e = .returned (VV y.kind y.mant y.exp y.text y.truth y.fault) ∧ Ext w w' :=
  kone_any s A n cap y w (fun W hW => (mcall_in (h.ext hW) h1 h2 hX (hc W hW)).mono fun e w' h => h.one)
theorem each_oneV (f : Nm → Nm) (x : Val) (D : Option Addr) (m c : Nat) : eachArg f [arAt (rowA [x]) D m c] = oneA (eachF f x) := rfl
theorem quot_nV {a b q : Nm} (h0 : b.1 ≠ 0) (h : divS a.1 a.2 b.1 b.2 = some q) : quotV (nV a) (nV b) = nV q := by
  unfold quotV
  rw [(tn_nV _).1, (tn_nV _).1, (tn_nV _).2, (tn_nV _).2, if_neg (by simp), if_neg (by simp), if_neg h0, h]
  rfl
theorem eql_same (k m e : Int) (t : ByteArray) (b : Bool) (f : Int) (w : World) : (binOp .eql 31 (VV k m e t b f) (VV k m e t b f)).run Tryz.prog w = .ok (.bool true) w := by
  rw [eql_val]; simp [eqV]
end Go.Proofs.YteecmifjbeojeaaGreatDoor
namespace Go.Proofs.YteecmifjbeojeaaGreatDoor
open Go.RowKit NM
theorem mod_aw (D1 D2 : Option Addr) (m1 c1 m2 c2 : Nat) : bothO modV [arAt (rowA [nV (-7, 0)]) D1 m1 c1, arAt (rowA [nV (3, 0)]) D2 m2 c2] = oneA (nV (2, 0)) := by
  have h7 : (nV (-7, 0)).right := right_num (rt_k (by decide) (by decide) (by decide))
  have h3 : (nV (3, 0)).right := right_num (rt_k (by decide) (by decide) (by decide))
  rw [both_oneV h7 h3 right_modV]
  have h := modV_whole (a := -7) (b := 3) (n := -3) (m := 2) ⟨by decide, fun _ => ⟨by decide, by decide⟩, fun h => absurd h (by decide)⟩ (by decide) (by decide) (by decide)
  rw [whole_k (k := -7) (by decide) (by decide) (by decide), whole_k (k := 3) (by decide) (by decide) (by decide), whole_k (k := 2) (by decide) (by decide) (by decide)] at h
  rw [h]
theorem ok_k {k : Int} (h0 : k ≠ 0) (h1 : k.natAbs < 1000000000000000) (h2 : k.natAbs % 10 ≠ 0) : (nV (k, 0)).right := right_num (rt_k h0 h1 h2)
theorem same_one (x : Val) : sameA 1 1 [x] 1 1 [x] = true := by simp [sameA]
set_option maxHeartbeats 4000000 in
theorem awake11_any (w : World) (htab : Tab w) (hft : FTab w) :
    Calls Tryz.prog 16 #[] w fun e w' => e = .returned (.bool true) ∧ Ext w w' := by
  have HT := Lib.hid htab
  have HF := Lib.hid hft
  clear htab hft
  go_enter Tryz.func16, Tryz.ntmps16
  have r7 : (nV (-7, 0)).right := ok_k (by decide) (by decide) (by decide)
  have r3 : (nV (3, 0)).right := ok_k (by decide) (by decide) (by decide)
  have r1 : (nV (1, 0)).right := ok_k (by decide) (by decide) (by decide)
  have r5 : (nV (5, 0)).right := ok_k (by decide) (by decide) (by decide)
  have r2 : (nV (2, 0)).right := ok_k (by decide) (by decide) (by decide)
  go_wp2_with (first | (go_at_call 26; (with_reducible refine (knumber_any (-7) _).mono ?_); rintro e w' ⟨rfl, hb⟩; obtain ⟨os1, d1, rfl⟩ := hb.more; clear hb) | (go_at_call 26; (with_reducible refine (knumber_any 3 _).mono ?_); rintro e w' ⟨rfl, hb⟩; obtain ⟨os2, d2, rfl⟩ := hb.more; clear hb) | (go_at_call 18; (with_reducible refine (krow_in (l := [nV (-7, 0)]) (n := 1) _ ?_).mono ?_); refine karr1 (x := nV (-7, 0)) ⟨?_, ?_, ?_, ?_, ?_, ?_⟩ r7.ok; (focus (go_simp; done)); (focus (go_simp; done)); (focus (go_simp; done)); (focus (go_simp; done)); (focus (go_simp; done)); (focus (go_simp; done)); rintro e w' ⟨rfl, hA1, hb⟩; obtain ⟨osr1, dr1, rfl⟩ := hb.more; clear hb) | (go_at_call 18; (with_reducible refine (krow_in (l := [nV (3, 0)]) (n := 1) _ ?_).mono ?_); refine karr1 (x := nV (3, 0)) ⟨?_, ?_, ?_, ?_, ?_, ?_⟩ r3.ok; (focus (go_simp; done)); (focus (go_simp; done)); (focus (go_simp; done)); (focus (go_simp; done)); (focus (go_simp; done)); (focus (go_simp; done)); rintro e w' ⟨rfl, hA2, hb⟩; obtain ⟨osr2, dr2, rfl⟩ := hb.more; clear hb))
  refine (mcall_in (krows2 (hA1.ext (by repeat (first | (with_reducible (first | exact Ext.refl _ | exact ext_d _ _ _ _ | exact ext_app _ _ _ _ _ | exact ext_app2 _ _ _ _ _ _)) | ((with_reducible refine ext_suffix ⟨_, ?_⟩); (try simp only [Array.append_assoc]); rfl) | (with_reducible (first | apply Ext.drew | apply Ext.alloc | apply Ext.more_))))) (one_row r7) (hA2.ext (by repeat (first | (with_reducible (first | exact Ext.refl _ | exact ext_d _ _ _ _ | exact ext_app _ _ _ _ _ | exact ext_app2 _ _ _ _ _ _)) | ((with_reducible refine ext_suffix ⟨_, ?_⟩); (try simp only [Array.append_assoc]); rfl) | (with_reducible (first | apply Ext.drew | apply Ext.alloc | apply Ext.more_))))) (one_row r3) (by (go_simp; done)) (by (go_simp; done)) (by (go_simp; done)) (by (go_simp; done)) (by (go_simp; done)) (by (go_simp; done))) (by decide) (by decide) (mod_aw _ _ _ _ _ _) (fun g => mcall_mod _ _ _ _ _ (HT.out.ext (by repeat (first | (with_reducible (first | exact Ext.refl _ | exact ext_d _ _ _ _ | exact ext_app _ _ _ _ _ | exact ext_app2 _ _ _ _ _ _)) | ((with_reducible refine ext_suffix ⟨_, ?_⟩); (try simp only [Array.append_assoc]); rfl) | (with_reducible (first | apply Ext.drew | apply Ext.alloc | apply Ext.more_))))) g)).mono ?_
  rintro e w' hc
  obtain ⟨D7, c7, rfl, hA7, hb⟩ := hc.here
  obtain ⟨os7, d7, rfl⟩ := hb.more
  clear hb hc hA1 hA2
  (try simp only [more_more, Array.append_assoc] at hA7)
  go_wp2_with (first | (go_at_call 26; (with_reducible refine (knumber_any 1 _).mono ?_); rintro e w' ⟨rfl, hb⟩; obtain ⟨os3, d3, rfl⟩ := hb.more; clear hb) | (go_at_call 26; (with_reducible refine (knumber_any 5 _).mono ?_); rintro e w' ⟨rfl, hb⟩; obtain ⟨os4, d4, rfl⟩ := hb.more; clear hb) | (go_at_call 18; (with_reducible refine (krow_in (l := [nV (1, 0), nV (5, 0)]) (n := 2) _ ?_).mono ?_); refine karr2 (x := nV (1, 0)) (y := nV (5, 0)) ⟨?_, ?_, ?_, ?_, ?_, ?_⟩ ⟨?_, ?_, ?_, ?_, ?_, ?_⟩ r1.ok r5.ok; (focus (go_simp; done)); (focus (go_simp; done)); (focus (go_simp; done)); (focus (go_simp; done)); (focus (go_simp; done)); (focus (go_simp; done)); (focus (go_simp; done)); (focus (go_simp; done)); (focus (go_simp; done)); (focus (go_simp; done)); (focus (go_simp; done)); (focus (go_simp; done)); rintro e w' ⟨rfl, hA3, hb⟩; obtain ⟨osr3, dr3, rfl⟩ := hb.more; clear hb) | (go_at_call 18; (with_reducible refine (krow_in (l := [gt1V]) (n := 1) _ ?_).mono ?_); refine karr1 (x := gt1V) ⟨?_, ?_, ?_, ?_, ?_, ?_⟩ right_gt1.ok; (focus (go_simp; done)); (focus (go_simp; done)); (focus (go_simp; done)); (focus (go_simp; done)); (focus (go_simp; done)); (focus (go_simp; done)); rintro e w' ⟨rfl, hA4, hb⟩; obtain ⟨osr4, dr4, rfl⟩ := hb.more; clear hb))
  refine (mcall_in (krows2 (hA3.ext (by repeat (first | (with_reducible (first | exact Ext.refl _ | exact ext_d _ _ _ _ | exact ext_app _ _ _ _ _ | exact ext_app2 _ _ _ _ _ _)) | ((with_reducible refine ext_suffix ⟨_, ?_⟩); (try simp only [Array.append_assoc]); rfl) | (with_reducible (first | apply Ext.drew | apply Ext.alloc | apply Ext.more_))))) (two_row r1 r5) (hA4.ext (by repeat (first | (with_reducible (first | exact Ext.refl _ | exact ext_d _ _ _ _ | exact ext_app _ _ _ _ _ | exact ext_app2 _ _ _ _ _ _)) | ((with_reducible refine ext_suffix ⟨_, ?_⟩); (try simp only [Array.append_assoc]); rfl) | (with_reducible (first | apply Ext.drew | apply Ext.alloc | apply Ext.more_))))) (one_row right_gt1) (by (go_simp; done)) (by (go_simp; done)) (by (go_simp; done)) (by (go_simp; done)) (by (go_simp; done)) (by (go_simp; done))) (by decide) (by decide) (count_aw _ _ _ _ _ _) (fun g => mcall_countif _ _ _ _ _ (HT.out.ext (by repeat (first | (with_reducible (first | exact Ext.refl _ | exact ext_d _ _ _ _ | exact ext_app _ _ _ _ _ | exact ext_app2 _ _ _ _ _ _)) | ((with_reducible refine ext_suffix ⟨_, ?_⟩); (try simp only [Array.append_assoc]); rfl) | (with_reducible (first | apply Ext.drew | apply Ext.alloc | apply Ext.more_))))) (HF.out.ext (by repeat (first | (with_reducible (first | exact Ext.refl _ | exact ext_d _ _ _ _ | exact ext_app _ _ _ _ _ | exact ext_app2 _ _ _ _ _ _)) | ((with_reducible refine ext_suffix ⟨_, ?_⟩); (try simp only [Array.append_assoc]); rfl) | (with_reducible (first | apply Ext.drew | apply Ext.alloc | apply Ext.more_))))) g)).mono ?_
  rintro e w' hc
  obtain ⟨D8, c8, rfl, hA8, hb⟩ := hc.here
  obtain ⟨os8, d8, rfl⟩ := hb.more
  clear hb hc hA3 hA4
  (try simp only [more_more, Array.append_assoc] at hA8)
  go_upto_region 3 with fail
  refine wp_world fun U hU => ?_
  have hx0 : Ext w U := by rw [hU]; exact (by repeat (first | (with_reducible (first | exact Ext.refl _ | exact ext_d _ _ _ _ | exact ext_app _ _ _ _ _ | exact ext_app2 _ _ _ _ _ _)) | ((with_reducible refine ext_suffix ⟨_, ?_⟩); (try simp only [Array.append_assoc]); rfl) | (with_reducible (first | apply Ext.drew | apply Ext.alloc | apply Ext.more_))))
  have hA7u : ArrIn U D7 1 c7 [nV (2, 0)] := hA7.ext (by rw [hU]; exact (by repeat (first | (with_reducible (first | exact Ext.refl _ | exact ext_d _ _ _ _ | exact ext_app _ _ _ _ _ | exact ext_app2 _ _ _ _ _ _)) | ((with_reducible refine ext_suffix ⟨_, ?_⟩); (try simp only [Array.append_assoc]); rfl) | (with_reducible (first | apply Ext.drew | apply Ext.alloc | apply Ext.more_)))))
  have hA8u : ArrIn U D8 1 c8 [nV (1, 0)] := hA8.ext (by rw [hU]; exact (by repeat (first | (with_reducible (first | exact Ext.refl _ | exact ext_d _ _ _ _ | exact ext_app _ _ _ _ _ | exact ext_app2 _ _ _ _ _ _)) | ((with_reducible refine ext_suffix ⟨_, ?_⟩); (try simp only [Array.append_assoc]); rfl) | (with_reducible (first | apply Ext.drew | apply Ext.alloc | apply Ext.more_)))))
  have a0 : U.cell? ⟨w.heap.size + os1.size + 1 + (osr1.size + os2.size) + 1 + osr2.size + 1 + os7.size, 0, none⟩ = some (.int .i64 1) := by rw [hU]; go_simp
  have a1 : U.cell? ⟨w.heap.size + os1.size + 1 + (osr1.size + os2.size) + 1 + osr2.size + 1 + os7.size, 1, none⟩ = some (.int .i64 1) := by rw [hU]; go_simp
  have a2 : U.cell? ⟨w.heap.size + os1.size + 1 + (osr1.size + os2.size) + 1 + osr2.size + 1 + os7.size, 2, none⟩ = some (.slice D7 1 c7) := by rw [hU]; go_simp
  have b0 : U.cell? ⟨w.heap.size + os1.size + 1 + (osr1.size + os2.size) + 1 + osr2.size + 1 + os7.size + 1 + (os3.size + os4.size) + 1 + osr3.size + 1 + osr4.size + 1 + os8.size, 0, none⟩ = some (.int .i64 1) := by rw [hU]; go_simp
  have b1 : U.cell? ⟨w.heap.size + os1.size + 1 + (osr1.size + os2.size) + 1 + osr2.size + 1 + os7.size + 1 + (os3.size + os4.size) + 1 + osr3.size + 1 + osr4.size + 1 + os8.size, 1, none⟩ = some (.int .i64 1) := by rw [hU]; go_simp
  have b2 : U.cell? ⟨w.heap.size + os1.size + 1 + (osr1.size + os2.size) + 1 + osr2.size + 1 + os7.size + 1 + (os3.size + os4.size) + 1 + osr3.size + 1 + osr4.size + 1 + os8.size, 2, none⟩ = some (.slice D8 1 c8) := by rw [hU]; go_simp
  have la := lt_of_cell a0
  have lb := lt_of_cell b0
  clear hU hA7 hA8
  generalize w.heap.size + os1.size + 1 + (osr1.size + os2.size) + 1 + osr2.size + 1 + os7.size + 1 + (os3.size + os4.size) + 1 + osr3.size + 1 + osr4.size + 1 + os8.size = pb at *
  generalize w.heap.size + os1.size + 1 + (osr1.size + os2.size) + 1 + osr2.size + 1 + os7.size = pa at *
  refine wp_plan (S := Ext _) [(0, 0), (1, 0), (2, 0), (3, 0), (4, 0), (5, 0), (6, 1), (7, 1), (8, 1), (9, 1), (10, 0), (11, 0), (12, 0), (13, 1), (14, 1), (15, 1), (16, 1), (17, 0), (18, 0)] [] (by kernel_rfl) (by kernel_rfl) (by kernel_rfl) (fun _ _ d _ _ h => by cases d <;> exact h) (Ext.drew (Ext.refl _)) ?_
  iterate 2 ((refine wpPl_read (v := ?_) rfl ?_ (fun _ h => ?_) ?_; rotate_left 1; rfl; (obtain ⟨_, _, rfl⟩ := h.more; go_simp; try rfl)); try simp only [Act.put, zqA, zqB, zqC])
  first | (refine wpPl_skip rfl rfl ?_) | (refine wpPl_read (v := ?_) rfl ?_ (fun w1 h1 => ?_) ?_; rotate_left 1; rfl; (obtain ⟨os1, d1, rfl⟩ := h1.more; go_simp; first | done | rfl)) | (refine wpPl_gread (v := ?_) (c := ?_) rfl rfl rfl rfl ?_ (fun hc w1 h1 => ?_) ?_; rotate_left 2; (first | exact gc_t _ | exact gc_f _ | exact gc_gt _ _ | exact gc_gf _ _); (obtain ⟨os1, d1, rfl⟩ := h1.more; (try simp only [gv_of hc]); (try (have hc1 := and_l hc; (try simp only [gv_of hc1]); (try (have hc2 := and_l hc1; (try simp only [gv_of hc2]))))); go_simp; first | done | rfl))
  try simp only [Act.put, zqA, zqB, zqC]
  first | (refine wpPl_pick_and rfl rfl rfl rfl rfl rfl ?_) | (refine wpPl_pick_or rfl rfl rfl rfl rfl rfl ?_) | (refine wpPl_read (v := ?_) rfl ?_ (fun w1 h1 => ?_) ?_; rotate_left 1; rfl; (obtain ⟨os1, d1, rfl⟩ := h1.more; go_simp; first | done | rfl))
  try simp only [Act.put, zqA, zqB, zqC]
  (refine wpPl_read (v := ?_) rfl ?_ (fun _ h => ?_) ?_; rotate_left 1; rfl; (obtain ⟨_, _, rfl⟩ := h.more; go_simp; try rfl))
  try simp only [Act.put, zqA, zqB, zqC]
  first | (refine wpPl_skip rfl rfl ?_) | (refine wpPl_read (v := ?_) rfl ?_ (fun w1 h1 => ?_) ?_; rotate_left 1; rfl; (obtain ⟨os1, d1, rfl⟩ := h1.more; go_simp; first | done | rfl)) | (refine wpPl_gread (v := ?_) (c := ?_) rfl rfl rfl rfl ?_ (fun hc w1 h1 => ?_) ?_; rotate_left 2; (first | exact gc_t _ | exact gc_f _ | exact gc_gt _ _ | exact gc_gf _ _); (obtain ⟨os1, d1, rfl⟩ := h1.more; (try simp only [gv_of hc]); (try (have hc1 := and_l hc; (try simp only [gv_of hc1]); (try (have hc2 := and_l hc1; (try simp only [gv_of hc2]))))); go_simp; first | done | rfl))
  try simp only [Act.put, zqA, zqB, zqC]
  (refine wpPl_eff rfl ?_ (fun K hK => ?_); (first | with_reducible rfl | rfl | (go_simp; done)); go_simp; refine (knumber_any 2 _).mono ?_; rintro e w' ⟨rfl, hb⟩; obtain ⟨osn5, dn5, rfl⟩ := hb.more; clear hb; refine hK _ _ ?_ ?_; (repeat (first | (with_reducible (first | exact Ext.refl _ | exact ext_d _ _ _ _ | exact ext_app _ _ _ _ _ | exact ext_app2 _ _ _ _ _ _ | exact ext_app3 _ _ _ _ _ _ _ | exact ext_app4 _ _ _ _ _ _ _ _ | exact ext_app5 _ _ _ _ _ _ _ _ _)) | ((with_reducible refine ext_suffix ⟨_, ?_⟩); (try simp only [Array.append_assoc]); rfl) | (with_reducible (first | apply Ext.drew | apply Ext.alloc | apply Ext.more_)) | apply Ext.drew | apply Ext.alloc | apply Ext.more_)))
  try simp only [Act.put, zqA, zqB, zqC]
  first | (refine wpPl_effskip rfl ?_ ?_ ?_; (first | with_reducible rfl | rfl | (go_simp; done)); (repeat (first | (with_reducible (first | exact Ext.refl _ | exact ext_d _ _ _ _ | exact ext_app _ _ _ _ _ | exact ext_app2 _ _ _ _ _ _ | exact ext_app3 _ _ _ _ _ _ _ | exact ext_app4 _ _ _ _ _ _ _ _ | exact ext_app5 _ _ _ _ _ _ _ _ _)) | ((with_reducible refine ext_suffix ⟨_, ?_⟩); (try simp only [Array.append_assoc]); rfl) | (with_reducible (first | apply Ext.drew | apply Ext.alloc | apply Ext.more_)) | apply Ext.drew | apply Ext.alloc | apply Ext.more_))) | (refine wpPl_eff rfl ?_ (fun K hK => ?_); (first | with_reducible rfl | rfl | (go_simp; done)); go_simp; refine hK _ _ ?_ ?_; (repeat (first | (with_reducible (first | exact Ext.refl _ | exact ext_d _ _ _ _ | exact ext_app _ _ _ _ _ | exact ext_app2 _ _ _ _ _ _ | exact ext_app3 _ _ _ _ _ _ _ | exact ext_app4 _ _ _ _ _ _ _ _ | exact ext_app5 _ _ _ _ _ _ _ _ _)) | ((with_reducible refine ext_suffix ⟨_, ?_⟩); (try simp only [Array.append_assoc]); rfl) | (with_reducible (first | apply Ext.drew | apply Ext.alloc | apply Ext.more_)) | apply Ext.drew | apply Ext.alloc | apply Ext.more_)))
  try simp only [Act.put, zqA, zqB, zqC]
  (refine wpPl_eff rfl ?_ (fun K hK => ?_); (first | with_reducible rfl | rfl | (go_simp; done)); go_simp; refine (krow_in (l := [nV (2, 0)]) (n := 1) _ ?_).mono ?_; refine karr1 (x := nV (2, 0)) ⟨?_, ?_, ?_, ?_, ?_, ?_⟩ r2.ok; (focus (go_simp; done)); (focus (go_simp; done)); (focus (go_simp; done)); (focus (go_simp; done)); (focus (go_simp; done)); (focus (go_simp; done)); rintro e w' ⟨rfl, hA5, hb⟩; obtain ⟨osr5, dr5, rfl⟩ := hb.more; clear hb; (try simp only [more_more, Array.append_assoc] at hA5); refine hK _ _ ?_ ?_; (repeat (first | (with_reducible (first | exact Ext.refl _ | exact ext_d _ _ _ _ | exact ext_app _ _ _ _ _ | exact ext_app2 _ _ _ _ _ _ | exact ext_app3 _ _ _ _ _ _ _ | exact ext_app4 _ _ _ _ _ _ _ _ | exact ext_app5 _ _ _ _ _ _ _ _ _)) | ((with_reducible refine ext_suffix ⟨_, ?_⟩); (try simp only [Array.append_assoc]); rfl) | (with_reducible (first | apply Ext.drew | apply Ext.alloc | apply Ext.more_)) | apply Ext.drew | apply Ext.alloc | apply Ext.more_)))
  try simp only [Act.put, zqA, zqB, zqC]
  (refine wpPl_eff rfl ?_ (fun K hK => ?_); (first | with_reducible rfl | rfl | (go_simp; done)); go_simp; refine (refSame_any 1 1 1 1 _ _ 1 _ 1 _ [nV (2, 0)] [nV (2, 0)] _ (hA7u.ext (by repeat (first | (with_reducible (first | exact Ext.refl _ | exact ext_d _ _ _ _ | exact ext_app _ _ _ _ _ | exact ext_app2 _ _ _ _ _ _)) | ((with_reducible refine ext_suffix ⟨_, ?_⟩); (try simp only [Array.append_assoc]); rfl) | (with_reducible (first | apply Ext.drew | apply Ext.alloc | apply Ext.more_))))) (hA5.ext (by repeat (first | (with_reducible (first | exact Ext.refl _ | exact ext_d _ _ _ _ | exact ext_app _ _ _ _ _ | exact ext_app2 _ _ _ _ _ _)) | ((with_reducible refine ext_suffix ⟨_, ?_⟩); (try simp only [Array.append_assoc]); rfl) | (with_reducible (first | apply Ext.drew | apply Ext.alloc | apply Ext.more_)))))).mono ?_; rintro e w' ⟨rfl, hb⟩; rw [same_one]; obtain ⟨oss5, dss5, rfl⟩ := hb.more; clear hb; refine hK _ _ ?_ ?_; (repeat (first | (with_reducible (first | exact Ext.refl _ | exact ext_d _ _ _ _ | exact ext_app _ _ _ _ _ | exact ext_app2 _ _ _ _ _ _ | exact ext_app3 _ _ _ _ _ _ _ | exact ext_app4 _ _ _ _ _ _ _ _ | exact ext_app5 _ _ _ _ _ _ _ _ _)) | ((with_reducible refine ext_suffix ⟨_, ?_⟩); (try simp only [Array.append_assoc]); rfl) | (with_reducible (first | apply Ext.drew | apply Ext.alloc | apply Ext.more_)) | apply Ext.drew | apply Ext.alloc | apply Ext.more_)))
  try simp only [Act.put, zqA, zqB, zqC]
  first | (refine wpPl_pick_and rfl rfl rfl rfl rfl rfl ?_) | (refine wpPl_pick_or rfl rfl rfl rfl rfl rfl ?_) | (refine wpPl_read (v := ?_) rfl ?_ (fun w1 h1 => ?_) ?_; rotate_left 1; rfl; (obtain ⟨os1, d1, rfl⟩ := h1.more; go_simp; first | done | rfl))
  try simp only [Act.put, zqA, zqB, zqC]
  (refine wpPl_read (v := ?_) rfl ?_ (fun _ h => ?_) ?_; rotate_left 1; rfl; (obtain ⟨_, _, rfl⟩ := h.more; go_simp; try rfl))
  try simp only [Act.put, zqA, zqB, zqC]
  first | (refine wpPl_skip rfl rfl ?_) | (refine wpPl_read (v := ?_) rfl ?_ (fun w1 h1 => ?_) ?_; rotate_left 1; rfl; (obtain ⟨os1, d1, rfl⟩ := h1.more; go_simp; first | done | rfl)) | (refine wpPl_gread (v := ?_) (c := ?_) rfl rfl rfl rfl ?_ (fun hc w1 h1 => ?_) ?_; rotate_left 2; (first | exact gc_t _ | exact gc_f _ | exact gc_gt _ _ | exact gc_gf _ _); (obtain ⟨os1, d1, rfl⟩ := h1.more; (try simp only [gv_of hc]); (try (have hc1 := and_l hc; (try simp only [gv_of hc1]); (try (have hc2 := and_l hc1; (try simp only [gv_of hc2]))))); go_simp; first | done | rfl))
  try simp only [Act.put, zqA, zqB, zqC]
  (refine wpPl_eff rfl ?_ (fun K hK => ?_); (first | with_reducible rfl | rfl | (go_simp; done)); go_simp; refine (knumber_any 1 _).mono ?_; rintro e w' ⟨rfl, hb⟩; obtain ⟨osn6, dn6, rfl⟩ := hb.more; clear hb; refine hK _ _ ?_ ?_; (repeat (first | (with_reducible (first | exact Ext.refl _ | exact ext_d _ _ _ _ | exact ext_app _ _ _ _ _ | exact ext_app2 _ _ _ _ _ _ | exact ext_app3 _ _ _ _ _ _ _ | exact ext_app4 _ _ _ _ _ _ _ _ | exact ext_app5 _ _ _ _ _ _ _ _ _)) | ((with_reducible refine ext_suffix ⟨_, ?_⟩); (try simp only [Array.append_assoc]); rfl) | (with_reducible (first | apply Ext.drew | apply Ext.alloc | apply Ext.more_)) | apply Ext.drew | apply Ext.alloc | apply Ext.more_)))
  try simp only [Act.put, zqA, zqB, zqC]
  first | (refine wpPl_effskip rfl ?_ ?_ ?_; (first | with_reducible rfl | rfl | (go_simp; done)); (repeat (first | (with_reducible (first | exact Ext.refl _ | exact ext_d _ _ _ _ | exact ext_app _ _ _ _ _ | exact ext_app2 _ _ _ _ _ _ | exact ext_app3 _ _ _ _ _ _ _ | exact ext_app4 _ _ _ _ _ _ _ _ | exact ext_app5 _ _ _ _ _ _ _ _ _)) | ((with_reducible refine ext_suffix ⟨_, ?_⟩); (try simp only [Array.append_assoc]); rfl) | (with_reducible (first | apply Ext.drew | apply Ext.alloc | apply Ext.more_)) | apply Ext.drew | apply Ext.alloc | apply Ext.more_))) | (refine wpPl_eff rfl ?_ (fun K hK => ?_); (first | with_reducible rfl | rfl | (go_simp; done)); go_simp; refine hK _ _ ?_ ?_; (repeat (first | (with_reducible (first | exact Ext.refl _ | exact ext_d _ _ _ _ | exact ext_app _ _ _ _ _ | exact ext_app2 _ _ _ _ _ _ | exact ext_app3 _ _ _ _ _ _ _ | exact ext_app4 _ _ _ _ _ _ _ _ | exact ext_app5 _ _ _ _ _ _ _ _ _)) | ((with_reducible refine ext_suffix ⟨_, ?_⟩); (try simp only [Array.append_assoc]); rfl) | (with_reducible (first | apply Ext.drew | apply Ext.alloc | apply Ext.more_)) | apply Ext.drew | apply Ext.alloc | apply Ext.more_)))
  try simp only [Act.put, zqA, zqB, zqC]
  (refine wpPl_eff rfl ?_ (fun K hK => ?_); (first | with_reducible rfl | rfl | (go_simp; done)); go_simp; refine (krow_in (l := [nV (1, 0)]) (n := 1) _ ?_).mono ?_; refine karr1 (x := nV (1, 0)) ⟨?_, ?_, ?_, ?_, ?_, ?_⟩ r1.ok; (focus (go_simp; done)); (focus (go_simp; done)); (focus (go_simp; done)); (focus (go_simp; done)); (focus (go_simp; done)); (focus (go_simp; done)); rintro e w' ⟨rfl, hA6, hb⟩; obtain ⟨osr6, dr6, rfl⟩ := hb.more; clear hb; (try simp only [more_more, Array.append_assoc] at hA6); refine hK _ _ ?_ ?_; (repeat (first | (with_reducible (first | exact Ext.refl _ | exact ext_d _ _ _ _ | exact ext_app _ _ _ _ _ | exact ext_app2 _ _ _ _ _ _ | exact ext_app3 _ _ _ _ _ _ _ | exact ext_app4 _ _ _ _ _ _ _ _ | exact ext_app5 _ _ _ _ _ _ _ _ _)) | ((with_reducible refine ext_suffix ⟨_, ?_⟩); (try simp only [Array.append_assoc]); rfl) | (with_reducible (first | apply Ext.drew | apply Ext.alloc | apply Ext.more_)) | apply Ext.drew | apply Ext.alloc | apply Ext.more_)))
  try simp only [Act.put, zqA, zqB, zqC]
  (refine wpPl_eff rfl ?_ (fun K hK => ?_); (first | with_reducible rfl | rfl | (go_simp; done)); go_simp; refine (refSame_any 1 1 1 1 _ _ 1 _ 1 _ [nV (1, 0)] [nV (1, 0)] _ (hA8u.ext (by repeat (first | (with_reducible (first | exact Ext.refl _ | exact ext_d _ _ _ _ | exact ext_app _ _ _ _ _ | exact ext_app2 _ _ _ _ _ _)) | ((with_reducible refine ext_suffix ⟨_, ?_⟩); (try simp only [Array.append_assoc]); rfl) | (with_reducible (first | apply Ext.drew | apply Ext.alloc | apply Ext.more_))))) (hA6.ext (by repeat (first | (with_reducible (first | exact Ext.refl _ | exact ext_d _ _ _ _ | exact ext_app _ _ _ _ _ | exact ext_app2 _ _ _ _ _ _)) | ((with_reducible refine ext_suffix ⟨_, ?_⟩); (try simp only [Array.append_assoc]); rfl) | (with_reducible (first | apply Ext.drew | apply Ext.alloc | apply Ext.more_)))))).mono ?_; rintro e w' ⟨rfl, hb⟩; rw [same_one]; obtain ⟨oss6, dss6, rfl⟩ := hb.more; clear hb; refine hK _ _ ?_ ?_; (repeat (first | (with_reducible (first | exact Ext.refl _ | exact ext_d _ _ _ _ | exact ext_app _ _ _ _ _ | exact ext_app2 _ _ _ _ _ _ | exact ext_app3 _ _ _ _ _ _ _ | exact ext_app4 _ _ _ _ _ _ _ _ | exact ext_app5 _ _ _ _ _ _ _ _ _)) | ((with_reducible refine ext_suffix ⟨_, ?_⟩); (try simp only [Array.append_assoc]); rfl) | (with_reducible (first | apply Ext.drew | apply Ext.alloc | apply Ext.more_)) | apply Ext.drew | apply Ext.alloc | apply Ext.more_)))
  try simp only [Act.put, zqA, zqB, zqC]
  first | (refine wpPl_pick_and rfl rfl rfl rfl rfl rfl ?_) | (refine wpPl_pick_or rfl rfl rfl rfl rfl rfl ?_) | (refine wpPl_read (v := ?_) rfl ?_ (fun w1 h1 => ?_) ?_; rotate_left 1; rfl; (obtain ⟨os1, d1, rfl⟩ := h1.more; go_simp; first | done | rfl))
  try simp only [Act.put, zqA, zqB, zqC]
  (refine wpPl_read (v := ?_) rfl ?_ (fun _ h => ?_) ?_; rotate_left 1; rfl; (obtain ⟨_, _, rfl⟩ := h.more; go_simp; try rfl))
  try simp only [Act.put, zqA, zqB]
  refine wpPl_nil ?_
  go_wp2_with fail
  go_ret
  exact ⟨rfl, hx0.trans (by repeat (first | (with_reducible (first | exact Ext.refl _ | exact ext_d _ _ _ _ | exact ext_app _ _ _ _ _ | exact ext_app2 _ _ _ _ _ _)) | ((with_reducible refine ext_suffix ⟨_, ?_⟩); (try simp only [Array.append_assoc]); rfl) | (with_reducible (first | apply Ext.drew | apply Ext.alloc | apply Ext.more_))))⟩
end Go.Proofs.YteecmifjbeojeaaGreatDoor
namespace Go.Proofs.YteecmifjbeojeaaGreatDoor
open Go.RowKit NM
/-- What Go's % leaves, turned to the divisor's sign. -/
def modI (a b : Int) : Int := if a.tmod b ≠ 0 ∧ (decide (a.tmod b < 0) != decide (b < 0)) = true then a.tmod b + b else a.tmod b
theorem left_mod {a b : Int} (hb : b ≠ 0) : ∃ n, Left a b n (modI a b) := by
  have h1 := Int.mul_tdiv_add_tmod a b
  have h2 : (a.tmod b).natAbs < b.natAbs := by rw [Int.natAbs_tmod]; exact Nat.mod_lt _ (by omega)
  unfold modI
  split
  · rename_i h
    obtain ⟨h3, h4⟩ := h
    refine ⟨a.tdiv b - 1, ?_, ?_, ?_⟩
    · rw [Int.mul_sub]; omega
    · intro hp
      have : decide (b < 0) = false := decide_eq_false (by omega)
      rw [this] at h4
      have : a.tmod b < 0 := by simpa using h4
      omega
    · intro hp
      have : decide (b < 0) = true := decide_eq_true hp
      rw [this] at h4
      have : ¬ a.tmod b < 0 := by simpa using h4
      omega
  · rename_i h
    refine ⟨a.tdiv b, by omega, ?_, ?_⟩
    · intro hp
      by_cases h3 : a.tmod b = 0
      · omega
      · have h4 : ¬ (decide (a.tmod b < 0) != decide (b < 0)) = true := fun e => h ⟨h3, e⟩
        have : decide (b < 0) = false := decide_eq_false (by omega)
        rw [this] at h4
        have : ¬ a.tmod b < 0 := by simpa using h4
        omega
    · intro hp
      by_cases h3 : a.tmod b = 0
      · omega
      · have h4 : ¬ (decide (a.tmod b < 0) != decide (b < 0)) = true := fun e => h ⟨h3, e⟩
        have : decide (b < 0) = true := decide_eq_true hp
        rw [this] at h4
        have : a.tmod b < 0 := by simpa using h4
        omega
theorem quot_left {a b n m : Int} (h : Left a b n m) (hb : b ≠ 0) : (a - m).tdiv b = n := by
  rw [show a - m = b * n by have := h.1; omega]
  exact Int.mul_tdiv_cancel_left _ hb
set_option maxHeartbeats 4000000 in
theorem fmathMods_any (x y : Int) (w : World) (htab : Tab w) (hft : FTab w) (hx : -2147483648 ≤ x ∧ x ≤ 2147483647) (hy : -2147483648 ≤ y ∧ y ≤ 2147483647) :
    Calls Tryz.prog 4 #[.int .i32 x, .int .i32 y] w fun e w' => e = .returned (.bool true) ∧ Ext w w' := by
  have HT := Lib.hid htab
  have HF := Lib.hid hft
  clear htab hft
  by_cases hy0 : y = 0
  · subst hy0
    clear hx hy
    go_enter Tryz.func4, Tryz.ntmps4
    go_wp2_with (first | (go_at_call 16; (with_reducible refine (awake11_any _ (HT.out.ext (by with_reducible repeat (first | exact Ext.refl _ | apply Ext.drew | apply Ext.alloc | apply Ext.more_))) (HF.out.ext (by with_reducible repeat (first | exact Ext.refl _ | apply Ext.drew | apply Ext.alloc | apply Ext.more_)))).mono ?_); rintro e w' ⟨rfl, hb⟩; obtain ⟨osw1, dw1, rfl⟩ := hb.more; clear hb))
    go_ret
    exact ⟨rfl, by with_reducible repeat (first | exact Ext.refl _ | apply Ext.drew | apply Ext.alloc | apply Ext.more_)⟩
  · have hy0' : (y == 0) = false := by simpa using hy0
    obtain ⟨n, hL⟩ := left_mod (a := x) hy0
    have hq := quot_left hL hy0
    obtain ⟨b1, b2, b3⟩ := left_bd hL hy0 (by omega) (by omega)
    have hmo := modV_whole hL hy0 (by omega) (by omega)
    obtain ⟨q, hd1, hd2, hd3⟩ := quot_whole hL hy0 (by omega) (by omega)
    have hT15 : T 15 = 1000000000000000 := by decide
    have cx := fun W => kcount_any x W (by omega)
    have cy := fun W => kcount_any y W (by omega)
    obtain ⟨m, hm⟩ : ∃ m, modI x y = m := ⟨_, rfl⟩
    rw [hm] at hmo hq b2
    have cm := fun W => kcount_any m W (by omega)
    have cn := fun W => kcount_any n W (by omega)
    have hxr : (nV (wholeN x)).right := right_num (wholex (by omega)).2.1
    have hyr : (nV (wholeN y)).right := right_num (wholex (by omega)).2.1
    have hmr : (nV (wholeN m)).right := right_num (wholex (by omega)).2.1
    have hwx : IntKind.i64.wrap x = x := by rw [IntKind.wrap_i64]; omega
    have hwy : IntKind.i64.wrap y = y := by rw [IntKind.wrap_i64]; omega
    unfold modI at hm
    obtain ⟨t, ht⟩ : ∃ t, x.tmod y = t := ⟨_, rfl⟩
    rw [ht] at hm
    have hwt : IntKind.i64.wrap t = t := by
      have h2 : (x.tmod y).natAbs < y.natAbs := by rw [Int.natAbs_tmod]; exact Nat.mod_lt _ (by omega)
      rw [ht] at h2
      rw [IntKind.wrap_i64]; omega
    go_enter Tryz.func4, Tryz.ntmps4
    go_upto_region 5 with (first | (go_at_call 16; (with_reducible refine (awake11_any _ (HT.out.ext (by with_reducible repeat (first | exact Ext.refl _ | apply Ext.drew | apply Ext.alloc | apply Ext.more_))) (HF.out.ext (by with_reducible repeat (first | exact Ext.refl _ | apply Ext.drew | apply Ext.alloc | apply Ext.more_)))).mono ?_); rintro e w' ⟨rfl, hb⟩; obtain ⟨osw1, dw1, rfl⟩ := hb.more; clear hb))
    obtain ⟨g, hg⟩ : ∃ g, (decide (t ≠ 0) && (decide (t < 0) != decide (y < 0))) = g := ⟨_, rfl⟩
    have hmg : (if g = true then t + y else t) = m := by
      rw [← hm, ← hg]
      by_cases h0 : t = 0
      · simp [h0]
      · simp [h0]
    have HMG := Lib.hid hmg
    have hwm : g = true → IntKind.i64.wrap (t + y) = t + y := fun h => by
      rw [h, if_pos rfl] at hmg
      rw [IntKind.wrap_i64]; omega
    have HB := Lib.hid (And.intro b2 hwm)
    have HQ := Lib.hid hq
    have HP := Lib.hid (And.intro hmo (And.intro hd1 (And.intro hd2 hd3)))
    have HR := Lib.hid (And.intro hxr (And.intro hyr hmr))
    have HC := Lib.hid (And.intro cx (And.intro cy (And.intro cm cn)))
    have HN := Lib.hid b3
    clear hm hmg hL hq b1 b2 b3 hmo hd1 hd2 hd3 hxr hyr hmr cx cy cm cn hT15
    go_cut [33] (fun s wx => s = .bool g ∧ wx = more w osw1 dw1)
    case first =>
      by_cases h0 : t = 0
      · subst h0
        obtain rfl : false = g := by rw [← hg]; simp
        clear hg hwm ht
        go_wp2_with fail
        go_meet
        exact ⟨rfl, rfl⟩
      · have h0' : (t != 0) = true := by simpa using h0
        have hg' : (decide (t < 0) != decide (y < 0)) = g := by rw [← hg]; simp [h0]
        clear hg hwm ht h0
        go_wp2_with fail
        go_meet
        exact ⟨by rw [← hg']; rfl, rfl⟩
    case rest =>
    obtain ⟨rfl, rfl⟩ := hcut
    clear hg hwm ht hwt
    go_upto_if 33 with fail
    go_cut [7, 33] (fun s7 s33 wx => s7 = .int .i64 m ∧ s33 = .bool g ∧ wx = more w osw1 dw1)
    case first =>
      have hmg := HMG.out
      cases g with
      | true =>
        rw [if_pos rfl] at hmg
        have hwm := HB.out.2 rfl
        go_wp2_with fail
        go_meet
        exact ⟨congrArg _ (by have := HB.out.1; unfold wrap64; omega), rfl, rfl⟩
      | false =>
        rw [if_neg (by simp)] at hmg
        subst hmg
        go_wp2_with fail
        go_meet
        exact ⟨rfl, rfl, rfl⟩
    case rest =>
    obtain ⟨rfl, rfl, rfl⟩ := hcut
    obtain ⟨hmo, hd1, hd2, hd3⟩ := HP.out
    obtain ⟨hxr, hyr, hmr⟩ := HR.out
    obtain ⟨cx, cy, cm, cn⟩ := HC.out
    have hqr : (nV q).right := right_num hd2
    have hb0 : (wholeN y).1 ≠ 0 := fun e => hy0 ((wholex (by have := (show T 15 = 1000000000000000 by decide); omega)).2.2.2.1.1 e)
    have hqu : bothO (opV .div) [arAt (rowA [nV (wholeN x)]) none 1 1, arAt (rowA [nV (wholeN y)]) none 1 1] = oneA (nV q) := by
      have hq2 : opV .div (nV (wholeN x)) (nV (wholeN y)) = nV q := quot_nV hb0 hd1
      rw [both_oneV hxr hyr (by rw [hq2]; exact hqr), hq2]
    have hin : eachF intN (nV q) = nV (wholeN n) := by
      show nV (floorS q.1 q.2) = _
      rw [hd3]
    have hes := eql_same
    have HQU := Lib.hid hqu
    have HIN := Lib.hid hin
    have HMO := Lib.hid hmo
    have hqv := HQ.out
    have hwxm : IntKind.i64.wrap (x - m) = x - m := by have := HB.out.1; rw [IntKind.wrap_i64]; omega
    have hwn : IntKind.i64.wrap n = n := by have := HN.out; rw [IntKind.wrap_i64]; omega
    clear hmo hd1 hd2 hd3 hin hqu HP HR HC HQ HB HN HMG hb0 hx hy
    generalize wholeN m = M at *
    generalize wholeN n = NN at *
    generalize wholeN x = XX at *
    generalize wholeN y = YY at *
    go_upto_region 8 with (first | (go_at_call 19; (with_reducible refine (cx _).mono ?_); rintro e w' ⟨rfl, hb⟩; obtain ⟨osc1, dc1, rfl⟩ := hb.more; clear hb) | (go_at_call 18; (with_reducible refine (krow_in (l := [nV XX]) (n := 1) _ ?_).mono ?_); refine karr1 (x := nV XX) ⟨?_, ?_, ?_, ?_, ?_, ?_⟩ hxr.ok; (focus (go_simp; done)); (focus (go_simp; done)); (focus (go_simp; done)); (focus (go_simp; done)); (focus (go_simp; done)); (focus (go_simp; done)); rintro e w' ⟨rfl, hA1, hb⟩; obtain ⟨osr1, dr1, rfl⟩ := hb.more; clear hb) | (go_at_call 19; (with_reducible refine (cy _).mono ?_); rintro e w' ⟨rfl, hb⟩; obtain ⟨osc2, dc2, rfl⟩ := hb.more; clear hb) | (go_at_call 18; (with_reducible refine (krow_in (l := [nV YY]) (n := 1) _ ?_).mono ?_); refine karr1 (x := nV YY) ⟨?_, ?_, ?_, ?_, ?_, ?_⟩ hyr.ok; (focus (go_simp; done)); (focus (go_simp; done)); (focus (go_simp; done)); (focus (go_simp; done)); (focus (go_simp; done)); (focus (go_simp; done)); rintro e w' ⟨rfl, hA2, hb⟩; obtain ⟨osr2, dr2, rfl⟩ := hb.more; clear hb) | (go_at_call 17; (with_reducible refine (kone_in (krows2 (hA1.ext (by repeat (first | (with_reducible (first | exact Ext.refl _ | exact ext_d _ _ _ _ | exact ext_app _ _ _ _ _ | exact ext_app2 _ _ _ _ _ _)) | ((with_reducible refine ext_suffix ⟨_, ?_⟩); (try simp only [Array.append_assoc]); rfl) | (with_reducible (first | apply Ext.drew | apply Ext.alloc | apply Ext.more_))))) (one_row hxr) (hA2.ext (by repeat (first | (with_reducible (first | exact Ext.refl _ | exact ext_d _ _ _ _ | exact ext_app _ _ _ _ _ | exact ext_app2 _ _ _ _ _ _)) | ((with_reducible refine ext_suffix ⟨_, ?_⟩); (try simp only [Array.append_assoc]); rfl) | (with_reducible (first | apply Ext.drew | apply Ext.alloc | apply Ext.more_))))) (one_row hyr) (by (go_simp; done)) (by (go_simp; done)) (by (go_simp; done)) (by (go_simp; done)) (by (go_simp; done)) (by (go_simp; done)) ) (by decide) (by decide) (by rw [both_oneV hxr hyr right_modV, HMO.out]) (fun W hW g => mcall_mod _ _ _ _ _ ((HT.out.ext (by repeat (first | (with_reducible (first | exact Ext.refl _ | exact ext_d _ _ _ _ | exact ext_app _ _ _ _ _ | exact ext_app2 _ _ _ _ _ _)) | ((with_reducible refine ext_suffix ⟨_, ?_⟩); (try simp only [Array.append_assoc]); rfl) | (with_reducible (first | apply Ext.drew | apply Ext.alloc | apply Ext.more_))))).ext hW) g)).mono ?_); rintro e w' ⟨rfl, hb⟩; obtain ⟨oso1, do1, rfl⟩ := hb.more; clear hb))
    clear hA1 hA2
    go_upto_region 9 with (first | (go_at_call 19; (with_reducible refine (cx _).mono ?_); rintro e w' ⟨rfl, hb⟩; obtain ⟨osc3, dc3, rfl⟩ := hb.more; clear hb) | (go_at_call 18; (with_reducible refine (krow_in (l := [nV XX]) (n := 1) _ ?_).mono ?_); refine karr1 (x := nV XX) ⟨?_, ?_, ?_, ?_, ?_, ?_⟩ hxr.ok; (focus (go_simp; done)); (focus (go_simp; done)); (focus (go_simp; done)); (focus (go_simp; done)); (focus (go_simp; done)); (focus (go_simp; done)); rintro e w' ⟨rfl, hA3, hb⟩; obtain ⟨osr3, dr3, rfl⟩ := hb.more; clear hb) | (go_at_call 19; (with_reducible refine (cy _).mono ?_); rintro e w' ⟨rfl, hb⟩; obtain ⟨osc4, dc4, rfl⟩ := hb.more; clear hb) | (go_at_call 18; (with_reducible refine (krow_in (l := [nV YY]) (n := 1) _ ?_).mono ?_); refine karr1 (x := nV YY) ⟨?_, ?_, ?_, ?_, ?_, ?_⟩ hyr.ok; (focus (go_simp; done)); (focus (go_simp; done)); (focus (go_simp; done)); (focus (go_simp; done)); (focus (go_simp; done)); (focus (go_simp; done)); rintro e w' ⟨rfl, hA4, hb⟩; obtain ⟨osr4, dr4, rfl⟩ := hb.more; clear hb) | (go_at_call 20; (refine (binary_yes .div ⟨#[47]⟩ 1 1 1 1 _ _ 1 1 1 1 [nV XX] [nV YY] _ (HT.out.ext (by repeat (first | (with_reducible (first | exact Ext.refl _ | exact ext_d _ _ _ _ | exact ext_app _ _ _ _ _ | exact ext_app2 _ _ _ _ _ _)) | ((with_reducible refine ext_suffix ⟨_, ?_⟩); (try simp only [Array.append_assoc]); rfl) | (with_reducible (first | apply Ext.drew | apply Ext.alloc | apply Ext.more_))))) (by decide) rfl (hA3.ext (by repeat (first | (with_reducible (first | exact Ext.refl _ | exact ext_d _ _ _ _ | exact ext_app _ _ _ _ _ | exact ext_app2 _ _ _ _ _ _)) | ((with_reducible refine ext_suffix ⟨_, ?_⟩); (try simp only [Array.append_assoc]); rfl) | (with_reducible (first | apply Ext.drew | apply Ext.alloc | apply Ext.more_))))) (hA4.ext (by repeat (first | (with_reducible (first | exact Ext.refl _ | exact ext_d _ _ _ _ | exact ext_app _ _ _ _ _ | exact ext_app2 _ _ _ _ _ _)) | ((with_reducible refine ext_suffix ⟨_, ?_⟩); (try simp only [Array.append_assoc]); rfl) | (with_reducible (first | apply Ext.drew | apply Ext.alloc | apply Ext.more_))))) _ HQU.out).mono ?_); rintro e w' hc; obtain ⟨Dq, cq, rfl, hAq, hb⟩ := CallG.here hc; obtain ⟨oso2, do2, rfl⟩ := hb.more; clear hb hc hA3 hA4; (try simp only [more_more, Array.append_assoc] at hAq)))
    refine wp_world fun U hU => ?_
    have hx0 : Ext w U := by rw [hU]; exact (by repeat (first | (with_reducible (first | exact Ext.refl _ | exact ext_d _ _ _ _ | exact ext_app _ _ _ _ _ | exact ext_app2 _ _ _ _ _ _)) | ((with_reducible refine ext_suffix ⟨_, ?_⟩); (try simp only [Array.append_assoc]); rfl) | (with_reducible (first | apply Ext.drew | apply Ext.alloc | apply Ext.more_))))
    have hAu : ArrIn U Dq 1 cq [nV q] := hAq.ext (by rw [hU]; exact (by repeat (first | (with_reducible (first | exact Ext.refl _ | exact ext_d _ _ _ _ | exact ext_app _ _ _ _ _ | exact ext_app2 _ _ _ _ _ _)) | ((with_reducible refine ext_suffix ⟨_, ?_⟩); (try simp only [Array.append_assoc]); rfl) | (with_reducible (first | apply Ext.drew | apply Ext.alloc | apply Ext.more_)))))
    have a0 : U.cell? ⟨w.heap.size + (osw1.size + osc1.size) + 1 + (osr1.size + osc2.size) + 1 + osr2.size + 1 + oso1.size, 0, none⟩ = some (.int .i64 1) := by rw [hU]; go_simp
    have a1 : U.cell? ⟨w.heap.size + (osw1.size + osc1.size) + 1 + (osr1.size + osc2.size) + 1 + osr2.size + 1 + oso1.size, 1, none⟩ = some (.int .i64 M.1) := by rw [hU]; go_simp
    have a2 : U.cell? ⟨w.heap.size + (osw1.size + osc1.size) + 1 + (osr1.size + osc2.size) + 1 + osr2.size + 1 + oso1.size, 2, none⟩ = some (.int .i64 M.2) := by rw [hU]; go_simp
    have a3 : U.cell? ⟨w.heap.size + (osw1.size + osc1.size) + 1 + (osr1.size + osc2.size) + 1 + osr2.size + 1 + oso1.size, 3, none⟩ = some (.string ⟨#[]⟩) := by rw [hU]; go_simp
    have a4 : U.cell? ⟨w.heap.size + (osw1.size + osc1.size) + 1 + (osr1.size + osc2.size) + 1 + osr2.size + 1 + oso1.size, 4, none⟩ = some (.bool false) := by rw [hU]; go_simp
    have a5 : U.cell? ⟨w.heap.size + (osw1.size + osc1.size) + 1 + (osr1.size + osc2.size) + 1 + osr2.size + 1 + oso1.size, 5, none⟩ = some (.int .i64 0) := by rw [hU]; go_simp
    have b0 : U.cell? ⟨w.heap.size + (osw1.size + osc1.size) + 1 + (osr1.size + osc2.size) + 1 + osr2.size + 1 + oso1.size + 1 + osc3.size + 1 + (osr3.size + osc4.size) + 1 + (osr4.size + oso2.size), 0, none⟩ = some (.int .i64 1) := by rw [hU]; go_simp
    have b1 : U.cell? ⟨w.heap.size + (osw1.size + osc1.size) + 1 + (osr1.size + osc2.size) + 1 + osr2.size + 1 + oso1.size + 1 + osc3.size + 1 + (osr3.size + osc4.size) + 1 + (osr4.size + oso2.size), 1, none⟩ = some (.int .i64 1) := by rw [hU]; go_simp
    have b2 : U.cell? ⟨w.heap.size + (osw1.size + osc1.size) + 1 + (osr1.size + osc2.size) + 1 + osr2.size + 1 + oso1.size + 1 + osc3.size + 1 + (osr3.size + osc4.size) + 1 + (osr4.size + oso2.size), 2, none⟩ = some (.slice Dq 1 cq) := by rw [hU]; go_simp
    have la := lt_of_cell a0
    have lb := lt_of_cell b0
    have HTU := Lib.hid (HT.out.ext hx0)
    have HX0 := Lib.hid hx0
    clear hU hAq hx0
    generalize w.heap.size + (osw1.size + osc1.size) + 1 + (osr1.size + osc2.size) + 1 + osr2.size + 1 + oso1.size + 1 + osc3.size + 1 + (osr3.size + osc4.size) + 1 + (osr4.size + oso2.size) = pb at *
    generalize w.heap.size + (osw1.size + osc1.size) + 1 + (osr1.size + osc2.size) + 1 + osr2.size + 1 + oso1.size = pa at *
    refine wp_plan (S := Ext _) [(0, 0), (1, 0), (2, 0), (3, 0), (4, 1), (5, 0), (6, 0), (7, 0), (8, 0), (11, 0), (12, 0), (13, 0), (14, 0), (15, 0), (9, 1), (10, 1), (16, 1), (17, 0), (18, 0), (19, 0)] [] (by kernel_rfl) (by kernel_rfl) (by kernel_rfl) (fun _ _ d _ _ h => by cases d <;> exact h) (Ext.drew (Ext.refl _)) ?_
    iterate 2 ((refine wpPl_read (v := ?_) rfl ?_ (fun _ h => ?_) ?_; rotate_left 1; rfl; (obtain ⟨_, _, rfl⟩ := h.more; go_simp; try rfl)); try simp only [Act.put, zqA, zqB, zqC])
    iterate 2 ((first | (refine wpPl_skip rfl rfl ?_) | (refine wpPl_read (v := ?_) rfl ?_ (fun w1 h1 => ?_) ?_; rotate_left 1; rfl; (obtain ⟨os1, d1, rfl⟩ := h1.more; go_simp; first | done | rfl)) | (refine wpPl_gread (v := ?_) (c := ?_) rfl rfl rfl rfl ?_ (fun hc w1 h1 => ?_) ?_; rotate_left 2; (first | exact gc_t _ | exact gc_f _ | exact gc_gt _ _ | exact gc_gf _ _); (obtain ⟨os1, d1, rfl⟩ := h1.more; (try simp only [gv_of hc]); (try (have hc1 := and_l hc; (try simp only [gv_of hc1]); (try (have hc2 := and_l hc1; (try simp only [gv_of hc2]))))); go_simp; first | done | rfl))); try simp only [Act.put, zqA, zqB, zqC])
    (refine wpPl_eff rfl ?_ (fun K hK => ?_); (first | with_reducible rfl | rfl | (go_simp; done)); go_simp; refine (cm _).mono ?_; rintro e w' ⟨rfl, hb⟩; obtain ⟨osm, dm, rfl⟩ := hb.more; clear hb; refine hK _ _ ?_ ?_; (repeat (first | (with_reducible (first | exact Ext.refl _ | exact ext_d _ _ _ _ | exact ext_app _ _ _ _ _ | exact ext_app2 _ _ _ _ _ _ | exact ext_app3 _ _ _ _ _ _ _ | exact ext_app4 _ _ _ _ _ _ _ _ | exact ext_app5 _ _ _ _ _ _ _ _ _)) | ((with_reducible refine ext_suffix ⟨_, ?_⟩); (try simp only [Array.append_assoc]); rfl) | (with_reducible (first | apply Ext.drew | apply Ext.alloc | apply Ext.more_)) | apply Ext.drew | apply Ext.alloc | apply Ext.more_)))
    try simp only [Act.put, zqA, zqB, zqC]
    first | (refine wpPl_skip rfl rfl ?_) | (refine wpPl_read (v := ?_) rfl ?_ (fun w1 h1 => ?_) ?_; rotate_left 1; rfl; (obtain ⟨os1, d1, rfl⟩ := h1.more; go_simp; first | done | rfl)) | (refine wpPl_gread (v := ?_) (c := ?_) rfl rfl rfl rfl ?_ (fun hc w1 h1 => ?_) ?_; rotate_left 2; (first | exact gc_t _ | exact gc_f _ | exact gc_gt _ _ | exact gc_gf _ _); (obtain ⟨os1, d1, rfl⟩ := h1.more; (try simp only [gv_of hc]); (try (have hc1 := and_l hc; (try simp only [gv_of hc1]); (try (have hc2 := and_l hc1; (try simp only [gv_of hc2]))))); go_simp; first | done | rfl))
    try simp only [Act.put, zqA, zqB, zqC]
    first | (refine wpPl_pick_and rfl rfl rfl rfl rfl rfl ?_) | (refine wpPl_pick_or rfl rfl rfl rfl rfl rfl ?_) | (refine wpPl_read (v := ?_) rfl ?_ (fun w1 h1 => ?_) ?_; rotate_left 1; rfl; (obtain ⟨os1, d1, rfl⟩ := h1.more; go_simp; first | done | rfl))
    try simp only [Act.put, zqA, zqB, zqC]
    (refine wpPl_read (v := ?_) rfl ?_ (fun _ h => ?_) ?_; rotate_left 1; rfl; (obtain ⟨_, _, rfl⟩ := h.more; go_simp; try rfl))
    try simp only [Act.put, zqA, zqB, zqC]
    iterate 6 ((first | (refine wpPl_skip rfl rfl ?_) | (refine wpPl_read (v := ?_) rfl ?_ (fun w1 h1 => ?_) ?_; rotate_left 1; rfl; (obtain ⟨os1, d1, rfl⟩ := h1.more; go_simp; first | done | rfl)) | (refine wpPl_gread (v := ?_) (c := ?_) rfl rfl rfl rfl ?_ (fun hc w1 h1 => ?_) ?_; rotate_left 2; (first | exact gc_t _ | exact gc_f _ | exact gc_gt _ _ | exact gc_gf _ _); (obtain ⟨os1, d1, rfl⟩ := h1.more; (try simp only [gv_of hc]); (try (have hc1 := and_l hc; (try simp only [gv_of hc1]); (try (have hc2 := and_l hc1; (try simp only [gv_of hc2]))))); go_simp; first | done | rfl))); try simp only [Act.put, zqA, zqB, zqC])
    first | (refine wpPl_effskip rfl ?_ ?_ ?_; (first | with_reducible rfl | rfl | (go_simp; done)); (repeat (first | (with_reducible (first | exact Ext.refl _ | exact ext_d _ _ _ _ | exact ext_app _ _ _ _ _ | exact ext_app2 _ _ _ _ _ _ | exact ext_app3 _ _ _ _ _ _ _ | exact ext_app4 _ _ _ _ _ _ _ _ | exact ext_app5 _ _ _ _ _ _ _ _ _)) | ((with_reducible refine ext_suffix ⟨_, ?_⟩); (try simp only [Array.append_assoc]); rfl) | (with_reducible (first | apply Ext.drew | apply Ext.alloc | apply Ext.more_)) | apply Ext.drew | apply Ext.alloc | apply Ext.more_))) | (refine wpPl_eff rfl ?_ (fun K hK => ?_); (first | with_reducible rfl | rfl | (go_simp; done)); go_simp; refine hK _ _ ?_ ?_; (repeat (first | (with_reducible (first | exact Ext.refl _ | exact ext_d _ _ _ _ | exact ext_app _ _ _ _ _ | exact ext_app2 _ _ _ _ _ _ | exact ext_app3 _ _ _ _ _ _ _ | exact ext_app4 _ _ _ _ _ _ _ _ | exact ext_app5 _ _ _ _ _ _ _ _ _)) | ((with_reducible refine ext_suffix ⟨_, ?_⟩); (try simp only [Array.append_assoc]); rfl) | (with_reducible (first | apply Ext.drew | apply Ext.alloc | apply Ext.more_)) | apply Ext.drew | apply Ext.alloc | apply Ext.more_)))
    try simp only [Act.put, zqA, zqB, zqC]
    (refine wpPl_eff rfl ?_ (fun K hK => ?_); (first | with_reducible rfl | rfl | (go_simp; done)); go_simp; refine (kone_in (krows1 (hAu.ext (by repeat (first | (with_reducible (first | exact Ext.refl _ | exact ext_d _ _ _ _ | exact ext_app _ _ _ _ _ | exact ext_app2 _ _ _ _ _ _)) | ((with_reducible refine ext_suffix ⟨_, ?_⟩); (try simp only [Array.append_assoc]); rfl) | (with_reducible (first | apply Ext.drew | apply Ext.alloc | apply Ext.more_))))) (one_row hqr) (by (go_simp; done)) (by (go_simp; done)) (by (go_simp; done)) ) (by decide) (by decide) (by rw [each_oneV, HIN.out]) (fun W hW g => mcall_int _ _ _ _ _ ((HTU.out.ext (by repeat (first | (with_reducible (first | exact Ext.refl _ | exact ext_d _ _ _ _ | exact ext_app _ _ _ _ _ | exact ext_app2 _ _ _ _ _ _)) | ((with_reducible refine ext_suffix ⟨_, ?_⟩); (try simp only [Array.append_assoc]); rfl) | (with_reducible (first | apply Ext.drew | apply Ext.alloc | apply Ext.more_))))).ext hW) g)).mono ?_; rintro e w' ⟨rfl, hb⟩; obtain ⟨osi, di, rfl⟩ := hb.more; clear hb; refine hK _ _ ?_ ?_; (repeat (first | (with_reducible (first | exact Ext.refl _ | exact ext_d _ _ _ _ | exact ext_app _ _ _ _ _ | exact ext_app2 _ _ _ _ _ _ | exact ext_app3 _ _ _ _ _ _ _ | exact ext_app4 _ _ _ _ _ _ _ _ | exact ext_app5 _ _ _ _ _ _ _ _ _)) | ((with_reducible refine ext_suffix ⟨_, ?_⟩); (try simp only [Array.append_assoc]); rfl) | (with_reducible (first | apply Ext.drew | apply Ext.alloc | apply Ext.more_)) | apply Ext.drew | apply Ext.alloc | apply Ext.more_)))
    try simp only [Act.put, zqA, zqB, zqC]
    (refine wpPl_eff rfl ?_ (fun K hK => ?_); (first | with_reducible rfl | rfl | (go_simp; done)); go_simp; refine (cn _).mono ?_; rintro e w' ⟨rfl, hb⟩; obtain ⟨osn, dn, rfl⟩ := hb.more; clear hb; refine hK _ _ ?_ ?_; (repeat (first | (with_reducible (first | exact Ext.refl _ | exact ext_d _ _ _ _ | exact ext_app _ _ _ _ _ | exact ext_app2 _ _ _ _ _ _ | exact ext_app3 _ _ _ _ _ _ _ | exact ext_app4 _ _ _ _ _ _ _ _ | exact ext_app5 _ _ _ _ _ _ _ _ _)) | ((with_reducible refine ext_suffix ⟨_, ?_⟩); (try simp only [Array.append_assoc]); rfl) | (with_reducible (first | apply Ext.drew | apply Ext.alloc | apply Ext.more_)) | apply Ext.drew | apply Ext.alloc | apply Ext.more_)))
    try simp only [Act.put, zqA, zqB, zqC]
    first | (refine wpPl_skip rfl rfl ?_) | (refine wpPl_read (v := ?_) rfl ?_ (fun w1 h1 => ?_) ?_; rotate_left 1; rfl; (obtain ⟨os1, d1, rfl⟩ := h1.more; go_simp; first | done | rfl)) | (refine wpPl_gread (v := ?_) (c := ?_) rfl rfl rfl rfl ?_ (fun hc w1 h1 => ?_) ?_; rotate_left 2; (first | exact gc_t _ | exact gc_f _ | exact gc_gt _ _ | exact gc_gf _ _); (obtain ⟨os1, d1, rfl⟩ := h1.more; (try simp only [gv_of hc]); (try (have hc1 := and_l hc; (try simp only [gv_of hc1]); (try (have hc2 := and_l hc1; (try simp only [gv_of hc2]))))); go_simp; first | done | rfl))
    try simp only [Act.put, zqA, zqB, zqC]
    first | (refine wpPl_pick_and rfl rfl rfl rfl rfl rfl ?_) | (refine wpPl_pick_or rfl rfl rfl rfl rfl rfl ?_) | (refine wpPl_read (v := ?_) rfl ?_ (fun w1 h1 => ?_) ?_; rotate_left 1; rfl; (obtain ⟨os1, d1, rfl⟩ := h1.more; go_simp; first | done | rfl))
    try simp only [Act.put, zqA, zqB, zqC]
    (refine wpPl_read (v := ?_) rfl ?_ (fun _ h => ?_) ?_; rotate_left 1; rfl; (obtain ⟨_, _, rfl⟩ := h.more; go_simp; try rfl))
    try simp only [Act.put, zqA, zqB, zqC]
    refine wpPl_nil ?_
    go_wp2_with fail
    go_ret
    exact ⟨rfl, HX0.out.trans (by repeat (first | (with_reducible (first | exact Ext.refl _ | exact ext_d _ _ _ _ | exact ext_app _ _ _ _ _ | exact ext_app2 _ _ _ _ _ _)) | ((with_reducible refine ext_suffix ⟨_, ?_⟩); (try simp only [Array.append_assoc]); rfl) | (with_reducible (first | apply Ext.drew | apply Ext.alloc | apply Ext.more_))))⟩
end Go.Proofs.YteecmifjbeojeaaGreatDoor
namespace Go.Proofs.YteecmifjbeojeaaGreatDoor
open Go.ChangeShapes Go.WideShapes Go.ChangeAt Go.RowKit Go.Deep
theorem own : ownKnob Tryz.prog.godebug = none := by kernel_rfl
theorem laidOut : laidOutB Tryz.prog = true := by kernel_rfl
theorem pow10_data : (Rows.laid_internal_strconv_uint64pow10 : DataW Unit) = Lib.tabData .u64 Lib.pow10Tab := by
  unfold Rows.laid_internal_strconv_uint64pow10 Lib.tabData Lib.pow10Tab
  simp [List.range_succ]
theorem gPow : Tryz.prog.globalNamed "internal/strconv.uint64pow10" = some 4 := by kernel_rfl
theorem tPow : (Tryz.prog.globals[4]?).map (·.type) = some 280 := by kernel_rfl
set_option maxRecDepth 100000
section
variable {H : Type} {enc : TypeId × Value → H} {w : World} {base : Nat} {spare : Nat → Bool} {held : Bool}
theorem trod_blocks_ {t : TypeId} {v : Value} {d : DataW H} {p : List MemPlace} (h : DataW.Trod enc Tryz.prog w base spare held t v d p) : ∀ x ∈ p, x.block < w.heap.size := by
  obtain ⟨m, hm⟩ := h
  exact DataW.trod_lt m _ _ _ hm
end
end Go.Proofs.YteecmifjbeojeaaGreatDoor
namespace Go.Proofs.YteecmifjbeojeaaGreatDoor
open Go.ChangeShapes Go.WideShapes Go.ChangeAt Go.RowKit
theorem joined_parts {P : Program} {f : FuncId} {fn : Func} {s : ChangeSpec} {c : OpenClaim} (h1 : laidOutB P = true) (h2 : mapsRowed P = true)
    (h3 : (c.inPlace == P.inPlace f) = true) (h4 : (c.unfollowed == P.unfollowed f) = true) (h5 : (c.recurses == P.recurses f) = true) (h6 : (c.named == P.varsNamed f) = true)
    (h7 : (c.plainKeys == P.plainKeys) = true) (h8 : P.stopsHeard = true) (h9 : P.mayEnter = true) (h10 : (c.lifted == P.liftsFinal) = true) (h11 : (P.make == some c.make) = true)
    (hr : (c.wf (OpenSpec.ofChange s) && fn.params.all (P.readableRec ·) && namedTie P c.named s.vars &&
      (c.stops == []) && (P.stops == []) && (c.knobs == []) && (P.stopKnobs == []) &&
      (c.maps == (fn.params.toList ++ s.plain.varTypes P).any (P.mapsRec ·)) && (c.ifaces == (fn.params.toList ++ s.plain.varTypes P).any (P.ifacesRec ·)) && (c.mapsOut == P.mapsAmong fn.resultTypes.toList) &&
      (c.loops == (fn.params.toList ++ s.plain.varTypes P).any (P.loopsFrom ·)) && (c.wideKeys == (fn.params.toList ++ s.plain.varTypes P ++ fn.resultTypes.toList).any (P.wideKeysFrom ·)) &&
      s.vars.all (P.varReadable ·) && fn.resultTypes.all (fun t => P.readableRec t && decide (t < P.types.size)) && (c.ifacesOut == fn.resultTypes.toList.any (P.ifacesRec ·)) && (c.loopsOut == fn.resultTypes.toList.any (P.loopsFrom ·)) && c.shortTexts.isNone && (c.kinds == (if c.domain.isEmpty then [] else fn.params.toList.map fun t => match P.underlying t with | some (.int k) => some k | _ => none)) && (c.pinned == c.pinnedBy) &&
      (c.veiled == (fn.params.toList ++ s.plain.varTypes P ++ fn.resultTypes.toList).any (P.veiledRec ·)) && c.veiledFits P fn.params.toList (fn.params.toList ++ s.plain.varTypes P ++ fn.resultTypes.toList)) = true) :
    joinedFacts P f fn s c = true := by
  simp only [joinedFacts, h1, h2, h3, h4, h5, h6, h7, h8, h9, h10, h11, Bool.and_true]
  exact hr
theorem seat_maps : mapsRowed Tryz.prog = true := by kernel_rfl
theorem seat_heard : Program.stopsHeard Tryz.prog = true := by kernel_rfl
theorem seat_may : Program.mayEnter Tryz.prog = true := by kernel_rfl
end Go.Proofs.YteecmifjbeojeaaGreatDoor
namespace Go.Proofs.YteecmifjbeojeaaGreatDoor
open Go.ChangeShapes Go.WideShapes Go.ChangeAt Go.RowKit Go.Deep
def laid4 : List (String × DataW Unit) := [("math/bits.deBruijn32tab", Rows.laid_math_bits_deBruijn32tab), ("math/bits.deBruijn64tab", Rows.laid_math_bits_deBruijn64tab), ("internal/strconv.uint64pow10", Rows.laid_internal_strconv_uint64pow10), ("counterpane/value.faultTexts", Rows.laid_counterpane_value_faultTexts)]
def strData {H : Type} (ss : List (List UInt8)) : DataW H := .agg (ss.map fun s => .lit (.string s))
theorem cells_of_strs {H : Type} {enc : TypeId × Value → H} {P : Program} {w : World} {base : Nat} {sp : Nat → Bool} {held : Bool} {fuel : Nat} {t e : TypeId} {n : Nat} {cs : List Value} {ss : List (List UInt8)} {p : List MemPlace}
    (ht : P.underlying t = some (.array n e)) (he : P.underlying e = some .string) (hce : P.cellsOf e = 1) (hct : P.cellsOf t = n)
    (h : DataW.trod enc P w base sp held fuel t cs = some (strData ss, p)) : cs = ss.map fun s => Value.string ⟨s.toArray⟩ := by
  cases fuel with
  | zero => simp [DataW.trod] at h
  | succ fuel =>
    simp only [DataW.trod, ht, hce, hct, Nat.mul_one] at h
    split at h
    · rename_i hl
      obtain ⟨xs, hm, hx⟩ := Option.map_eq_some_iff.1 h
      have hxs : xs.map (·.1) = ss.map fun s => (DataW.lit (.string s) : DataW H) := by
        have := congrArg Prod.fst hx
        simpa [strData] using this
      have hxl : xs.length = n := by simpa using Lib.mapM_length hm
      have hzl : ss.length = n := by
        have := congrArg List.length hxs
        simp at this
        omega
      apply List.ext_getElem?
      intro i
      by_cases hi : i < n
      · obtain ⟨b, hb, hf⟩ := Lib.mapM_at hm i i (by simp [hi])
        obtain ⟨z, hc, rfl, _⟩ := DataW.trod_string he hf
        have h1 : cs[i]? = some (.string z) := by
          have := congrArg (·[0]?) hc
          simpa [List.getElem?_take, List.getElem?_drop] using this
        have h2 : (xs.map (·.1))[i]? = some (DataW.lit (.string z.data.toList) : DataW H) := by simp [hb]
        rw [hxs] at h2
        simp only [List.getElem?_map, Option.map_eq_some_iff, DataW.lit.injEq, Lit.string.injEq] at h2
        obtain ⟨z', hz', e⟩ := h2
        have e2 : z = ⟨z'.toArray⟩ := by cases z with | mk d => simp only at e; rw [e]
        simp [h1, hz', e2]
      · rw [List.getElem?_eq_none (by omega), List.getElem?_eq_none (by simp; omega)]
    · cases h
theorem faults_data : (Rows.laid_counterpane_value_faultTexts : DataW Unit) = strData (faultTs.map fun s => s.data.toList) := by
  unfold Rows.laid_counterpane_value_faultTexts strData faultTs
  rfl
theorem tFaults : (Tryz.prog.globals[3]?).map (·.type) = some 276 := by kernel_rfl
theorem tabs_of_laid4 {W : World} (h : laidMetH Tryz.prog laid4 W) : Tab W ∧ FTab W := by
  rw [MakeChecks.laidMetH_plain _ _ _ (by kernel_rfl)] at h
  obtain ⟨ps, ⟨g0, t0, cs0, f0, p0, q0, hg0, ht0, hv0, hd0, ⟨g1, t1, cs1, f1, p1, q1, hg1, ht1, hv1, hd1, ⟨g2, t2, cs2, f2, p2, q2, hg2, ht2, hv2, hd2, ⟨g3, t3, cs3, f3, p3, q3, hg3, ht3, hv3, hd3, _, _⟩, _⟩, _⟩, _⟩, _, _⟩ := h
  obtain rfl := Option.some.inj (gPow.symm.trans hg2)
  obtain rfl := Option.some.inj (tPow.symm.trans ht2)
  obtain rfl := Option.some.inj (gFaults.symm.trans hg3)
  obtain rfl := Option.some.inj (tFaults.symm.trans ht3)
  constructor
  · rw [pow10_data] at hd2
    unfold Tab Lib.TabIs
    rw [hv2, ← Lib.cells_of_tab Tryz.underlying280 Tryz.underlying180 (by kernel_rfl) (by kernel_rfl) hd2]
  · rw [faults_data] at hd3
    unfold FTab
    rw [hv3, show faultTs.map Value.string = cs3.toList from ?_]
    have := cells_of_strs Tryz.underlying276 Tryz.underlying9 (by kernel_rfl) (by kernel_rfl) hd3
    rw [this]
    rfl
theorem door_met4 (os : Os) (args : Array Value) : laidMetH Tryz.prog laid4 ((World.doorLaid Tryz.prog 400 os).forCall (fun _ _ => 0) ⟨#[], args, []⟩).memory :=
  laidMetH_of_parts3 (fuel := 8) (laidMet_of_run' 8 (by kernel_rfl) (by kernel_rfl)) (by kernel_rfl) (by kernel_rfl)
set_option maxRecDepth 100000
section
variable {H : Type} {enc : TypeId × Value → H} {w : World} {base : Nat} {spare : Nat → Bool} {held : Bool}
theorem open_i32 {r : Reach} {b0 : Nat} {v : Value} {d : DataW H} {p : List MemPlace} (hv : Value.okWide Tryz.prog w r b0 21 v) (h : DataW.Trod enc Tryz.prog w base spare held 21 v d p) :
    ∃ b : Int, v = .int .i32 b ∧ (-2147483648 ≤ b ∧ b ≤ 2147483647) := by
  obtain ⟨b, rfl⟩ := okWide_int Tryz.underlying21 hv
  obtain ⟨fuel, hf⟩ := h
  obtain ⟨m, e0, _, w0⟩ := DataW.trod_int Tryz.underlying21 hf
  have e1 : b = m := by simpa [Value.cells] using e0
  subst e1
  have : -2147483648 ≤ b ∧ b ≤ 2147483647 := by simpa [Lit.wf, IntKind.min, IntKind.max, IntKind.signed, IntKind.bits] using w0
  exact ⟨b, rfl, this⟩
end
end Go.Proofs.YteecmifjbeojeaaGreatDoor
