/- What the rows' proofs lean on: the contracts of the functions that they reach, and plain facts (part F5). -/
import Derived.WalkKit
import Derived.WalkLawsBesides
import Derived.WalkSpells
import Derived.Outline
import Derived.Below
import Derived.Deep.RegionHeld3
import Derived.Deep.DeepCutAuto
import Derived.Deep.AppendLies
import Derived.Maps.AppendAt
import Derived.Lib.Hide
import Derived.OrdersHeld
import Derived.Test.YteigcfflljoioaaGreatDoorProg
import Derived.Shelf.Strings.Builder1
import Derived.Shelf.Strings.Builder2
import Derived.Shelf.Small.Bits
import Derived.Shelf.Small.Strs
import Derived.Shelf.Strings.BuilderF
import Derived.Shelf.Strconv.Itoa0
import Derived.Shelf.Strconv.Itoa1
import Derived.Shelf.LaysM
import Derived.Shelf.Strconv.Itoa2
import Derived.Shelf.Strings.Prefix
import Derived.Shelf.Bits.Mul64
import Derived.Shelf.Strings.Repeat
import Derived.Lib.ItoaMem
import Derived.Lib.OthersKept
import Derived.Deep.CutBlock
import Derived.Laws.Bits64b
import Derived.Lib.AppendZeros
import Derived.Lib.Bytealg
import Derived.Laws.RangeAny
import Derived.Lib.ConvBytes
import Derived.Lib.SlBytesRow
import Derived.Lib.SmallJoins
import Derived.RegionTactic
import Derived.Maps.OwnSet
import Derived.Maps.Own
import Derived.Laws.EntriesVeiled
import Derived.Test.YteigcfflljoioaaGreatDoorRows
import Derived.Test.YteigcfflljoioaaGreatDoorCards
import Derived.Test.YteigcfflljoioaaGreatDoorTie
import Derived.ProofKit
import Derived.LaidMore
import Derived.OpenShut
import Derived.ShutString
import Derived.ChangeOld
import Derived.Stop.Joined
import Derived.Deep.Slices
import Derived.SevenTiedAt
import Derived.Test.YteigcfflljoioaaGreatDoorF4
set_option linter.unusedSimpArgs false
set_option linter.unusedVariables false
set_option maxRecDepth 100000
namespace Go.Proofs.YteigcfflljoioaaGreatDoor
open Go.RowKit NM
theorem two_at (w : World) (o1 o2 : Obj) (os : Array Obj) (d : Nat) {W : World} (hW : W = more ((w.alloc o1).alloc o2) os d) : W.heap[w.heap.size]? = some o1 ∧ W.heap[w.heap.size + 1]? = some o2 ∧ Ext w W := by
  subst hW
  have x0 : Ext (w.alloc o1) (more ((w.alloc o1).alloc o2) os d) := by repeat (first | (with_reducible (first | exact Ext.refl _ | exact ext_d _ _ _ _ | exact ext_app _ _ _ _ _ | exact ext_app2 _ _ _ _ _ _ | exact ext_app3 _ _ _ _ _ _ _)) | ((with_reducible refine ext_suffix ⟨_, ?_⟩); (try simp only [Array.append_assoc]); rfl) | (with_reducible (first | apply Ext.drew | apply Ext.alloc | apply Ext.more_)))
  have x1 : Ext ((w.alloc o1).alloc o2) (more ((w.alloc o1).alloc o2) os d) := by repeat (first | (with_reducible (first | exact Ext.refl _ | exact ext_d _ _ _ _ | exact ext_app _ _ _ _ _ | exact ext_app2 _ _ _ _ _ _ | exact ext_app3 _ _ _ _ _ _ _)) | ((with_reducible refine ext_suffix ⟨_, ?_⟩); (try simp only [Array.append_assoc]); rfl) | (with_reducible (first | apply Ext.drew | apply Ext.alloc | apply Ext.more_)))
  refine ⟨(x0.block (by simp)).trans (heap_alloc_new _ _), ?_, by repeat (first | (with_reducible (first | exact Ext.refl _ | exact ext_d _ _ _ _ | exact ext_app _ _ _ _ _ | exact ext_app2 _ _ _ _ _ _ | exact ext_app3 _ _ _ _ _ _ _)) | ((with_reducible refine ext_suffix ⟨_, ?_⟩); (try simp only [Array.append_assoc]); rfl) | (with_reducible (first | apply Ext.drew | apply Ext.alloc | apply Ext.more_)))⟩
  rw [x1.block (b := w.heap.size + 1) (by simp)]
  have h := heap_alloc_new (w.alloc o1) o2
  rw [show (w.alloc o1).heap.size = w.heap.size + 1 by simp] at h
  exact h
theorem one_at (w : World) (o : Obj) (osa osb : Array Obj) (da db : Nat) {W : World} (hW : W = more ((more w osa da).alloc o) osb db) : W.heap[w.heap.size + osa.size]? = some o ∧ Ext w W := by
  subst hW
  have x0 : Ext ((more w osa da).alloc o) (more ((more w osa da).alloc o) osb db) := by repeat (first | (with_reducible (first | exact Ext.refl _ | exact ext_d _ _ _ _ | exact ext_app _ _ _ _ _ | exact ext_app2 _ _ _ _ _ _ | exact ext_app3 _ _ _ _ _ _ _)) | ((with_reducible refine ext_suffix ⟨_, ?_⟩); (try simp only [Array.append_assoc]); rfl) | (with_reducible (first | apply Ext.drew | apply Ext.alloc | apply Ext.more_)))
  refine ⟨?_, by repeat (first | (with_reducible (first | exact Ext.refl _ | exact ext_d _ _ _ _ | exact ext_app _ _ _ _ _ | exact ext_app2 _ _ _ _ _ _ | exact ext_app3 _ _ _ _ _ _ _)) | ((with_reducible refine ext_suffix ⟨_, ?_⟩); (try simp only [Array.append_assoc]); rfl) | (with_reducible (first | apply Ext.drew | apply Ext.alloc | apply Ext.more_)))⟩
  have h := heap_alloc_new (more w osa da) o
  rw [show (more w osa da).heap.size = w.heap.size + osa.size by simp] at h
  rw [x0.block (b := w.heap.size + osa.size) (by simp)]
  exact h
theorem bad_form {x : Val} (h : x.right) (h4 : x.kind = 4) : x = bad_ x.fault ∧ tnF x = x.fault ∧ ttF x = x.fault ∧ x.fault ≠ 0 := by
  rcases h.form with rfl | ⟨m, e, rfl, hr⟩ | ⟨t, rfl, ht⟩ | ⟨b, rfl⟩ | ⟨f, rfl, hf⟩
  · cases h4
  · cases h4
  · cases h4
  · cases h4
  · have hb : badF f = f := by unfold badF; rw [if_neg (by omega)]
    refine ⟨?_, rfl, rfl, by show f ≠ 0; omega⟩
    show badV f = badV (badF f)
    rw [hb]
theorem op_left (g : Sg) {x y : Val} (hx : x.right) (h : x.kind = 4) : opV g x y = x := by
  obtain ⟨e, h1, h2, h3⟩ := bad_form hx h
  have n1 : tnF x ≠ 0 := by rw [h1]; exact h3
  have n2 : ttF x ≠ 0 := by rw [h2]; exact h3
  have hb1 : bad_ (tnF x) = x := by rw [h1]; exact e.symm
  have hb2 : bad_ (ttF x) = x := by rw [h2]; exact e.symm
  cases g
  · show reckV _ _ _ = _; unfold reckV; rw [if_pos n1]; exact hb1
  · show reckV _ _ _ = _; unfold reckV; rw [if_pos n1]; exact hb1
  · show reckV _ _ _ = _; unfold reckV; rw [if_pos n1]; exact hb1
  · show quotV _ _ = _; unfold quotV; rw [if_pos n1]; exact hb1
  · show powV _ _ = _; unfold powV; rw [if_pos n1]; exact hb1
  · show joinV _ _ = _; unfold joinV; rw [if_pos n2]; exact hb2
  all_goals (show holdV _ _ _ = _; unfold holdV; rw [if_pos h])
theorem op_right (g : Sg) {x y : Val} (hy : y.right) (h : x.kind ≠ 4) (h' : y.kind = 4) : opV g x y = if tnF x ≠ 0 ∧ 2 < g.level then bad_ (tnF x) else y := by
  obtain ⟨e, h1, h2, h3⟩ := bad_form hy h'
  have n1 : tnF y ≠ 0 := by rw [h1]; exact h3
  have n2 : ttF y ≠ 0 := by rw [h2]; exact h3
  have hb1 : bad_ (tnF y) = y := by rw [h1]; exact e.symm
  have hb2 : bad_ (ttF y) = y := by rw [h2]; exact e.symm
  have hx0 : ttF x = 0 := by unfold ttF; rw [if_neg h]
  by_cases hx : tnF x = 0
  · rw [if_neg (fun q => q.1 hx)]
    cases g
    · show reckV _ _ _ = _; unfold reckV; rw [if_neg (fun q => q hx), if_pos n1]; exact hb1
    · show reckV _ _ _ = _; unfold reckV; rw [if_neg (fun q => q hx), if_pos n1]; exact hb1
    · show reckV _ _ _ = _; unfold reckV; rw [if_neg (fun q => q hx), if_pos n1]; exact hb1
    · show quotV _ _ = _; unfold quotV; rw [if_neg (fun q => q hx), if_pos n1]; exact hb1
    · show powV _ _ = _; unfold powV; rw [if_neg (fun q => q hx), if_pos n1]; exact hb1
    · show joinV _ _ = _; unfold joinV; rw [if_neg (fun q => q hx0), if_pos n2]; exact hb2
    all_goals (show holdV _ _ _ = _; unfold holdV; rw [if_neg h, if_pos h'])
  · cases g
    · rw [if_pos ⟨hx, by decide⟩]; show reckV _ _ _ = _; unfold reckV; rw [if_pos hx]
    · rw [if_pos ⟨hx, by decide⟩]; show reckV _ _ _ = _; unfold reckV; rw [if_pos hx]
    · rw [if_pos ⟨hx, by decide⟩]; show reckV _ _ _ = _; unfold reckV; rw [if_pos hx]
    · rw [if_pos ⟨hx, by decide⟩]; show quotV _ _ = _; unfold quotV; rw [if_pos hx]
    · rw [if_pos ⟨hx, by decide⟩]; show powV _ _ = _; unfold powV; rw [if_pos hx]
    · rw [if_neg (fun q => absurd q.2 (by decide))]; show joinV _ _ = _; unfold joinV; rw [if_neg (fun q => q hx0), if_pos n2]; exact hb2
    all_goals (rw [if_neg (fun q => absurd q.2 (by decide))]; show holdV _ _ _ = _; unfold holdV; rw [if_neg h, if_pos h'])
theorem op_swap {g : Sg} (hg : g = .add ∨ g = .mul) {x y : Val} (hx : tnF x = 0) (hy : tnF y = 0) : opV g y x = opV g x y := by
  rcases hg with rfl | rfl
  · show reckV _ _ _ = reckV _ _ _
    unfold reckV
    rw [if_neg (fun q => q hy), if_neg (fun q => q hx), if_neg (fun q => q hx), if_neg (fun q => q hy), addx_comm]
  · show reckV _ _ _ = reckV _ _ _
    unfold reckV
    rw [if_neg (fun q => q hy), if_neg (fun q => q hx), if_neg (fun q => q hx), if_neg (fun q => q hy), mulx_comm]
set_option maxHeartbeats 2000000 in
theorem faults_left (g : Sg) (sb : ByteArray) (x y : Val) (w : World) (htab : Tab w) (hx : x.ok) (hy : y.ok) (rx : x.right) (ry : y.right) (hg : sgOf sb.data.toList = some g) (k1 : x.kind = 4) :
    Calls Tryz.prog 6 #[.string sb, VV x.kind x.mant x.exp x.text x.truth x.fault, VV y.kind y.mant y.exp y.text y.truth y.fault] w fun e w' => e = .returned (.bool true) ∧ Ext w w' := by
  have g1 := fun W => refRight_any x.kind x.mant x.exp x.fault x.text x.truth W hx.2.1 hx.2.2.2.1; have g2 := fun W => refRight_any y.kind y.mant y.exp y.fault y.text y.truth W hy.2.1 hy.2.2.2.1; rw [show refRight ⟨x.kind, x.mant, x.exp, x.text, x.truth, x.fault⟩ = true from (right_eq x hx).symm.trans rx] at g1; rw [show refRight ⟨y.kind, y.mant, y.exp, y.text, y.truth, y.fault⟩ = true from (right_eq y hy).symm.trans ry] at g2
  have hA := both_one g rx ry
  rw [op_left g rx k1] at hA
  have h1 := fun W => one10_any x W hx
  have h2 := fun W => one10_any y W hy
  have hlv := fun W => rlevel_yes g W
  rw [← sg_lit hg] at hlv
  have q := level_ne g
  generalize g.level = lv at *
  have hsm : sb.size ≤ maxLen := by rw [sg_lit hg]; cases g <;> decide
  have HG2 := Lib.hid hg
  have HT := Lib.hid htab
  have qk : (x.kind == 4) = true := by simpa using k1
  obtain ⟨lx, hlx⟩ : ∃ l, l = [x] := ⟨_, rfl⟩
  obtain ⟨ly, hly⟩ : ∃ l, l = [y] := ⟨_, rfl⟩
  rw [← hlx] at h1
  rw [← hly] at h2
  have hA' : bothRes (opV g) 1 1 lx 1 1 ly = ⟨1, 1, [x]⟩ := by rw [hlx, hly]; exact hA
  obtain ⟨z, hz⟩ : ∃ z, z = x := ⟨_, rfl⟩
  rw [← hz] at hA'
  have HG := Lib.hid hA'
  have hzk : z.kind = x.kind ∧ z.mant = x.mant ∧ z.exp = x.exp ∧ z.text = x.text ∧ z.truth = x.truth ∧ z.fault = x.fault := by subst hz; exact ⟨rfl, rfl, rfl, rfl, rfl, rfl⟩
  have HZ := Lib.hid hzk
  clear hA hA' hlx hly hx hy rx ry k1 htab hg hz hzk
  generalize x.kind = xk at *; generalize x.mant = xm at *; generalize x.exp = xe at *; generalize x.text = xt at *; generalize x.truth = xb at *; generalize x.fault = xf at *
  generalize y.kind = yk at *; generalize y.mant = ym at *; generalize y.exp = ye at *; generalize y.text = yt at *; generalize y.truth = yb at *; generalize y.fault = yf at *
  go_enter Tryz.func6, Tryz.ntmps6; go_wp2_with fail; refine (awake10_any _ (HT.out.ext (by repeat (first | (with_reducible (first | exact Ext.refl _ | exact ext_d _ _ _ _ | exact ext_app _ _ _ _ _ | exact ext_app2 _ _ _ _ _ _ | exact ext_app3 _ _ _ _ _ _ _)) | ((with_reducible refine ext_suffix ⟨_, ?_⟩); (try simp only [Array.append_assoc]); rfl) | (with_reducible (first | apply Ext.drew | apply Ext.alloc | apply Ext.more_)))))).mono ?_; rintro e w' ⟨rfl, hb⟩; obtain ⟨os1, d1, rfl⟩ := hb.more; clear hb; go_wp2_with fail; refine (g1 _).mono ?_; rintro e w' ⟨rfl, hb⟩; obtain ⟨os2, d2, rfl⟩ := hb.more; clear hb; go_wp2_with fail; refine (g2 _).mono ?_; rintro e w' ⟨rfl, hb⟩; obtain ⟨os3, d3, rfl⟩ := hb.more; clear hb; go_wp2_with fail; refine (hlv _).mono ?_; rintro e w' ⟨rfl, hb⟩; obtain ⟨os4, d4, rfl⟩ := hb.more; clear hb
  go_upto_region 5 with fail
  refine wp_world fun W0 hW0 => ?_; obtain ⟨r1, r2, hw0⟩ := two_at _ _ _ _ _ hW0; clear hW0; have b1 := lt_of_block r1; have b2 := lt_of_block r2; have a0 := cell_of_row _ _ 0 _ _ _ r1; have a1 := cell_of_row _ _ 1 _ _ _ r1; have a2 := cell_of_row _ _ 2 _ _ _ r1; have a3 := cell_of_row _ _ 3 _ _ _ r1; have a4 := cell_of_row _ _ 4 _ _ _ r1; have a5 := cell_of_row _ _ 5 _ _ _ r1; have e_0 := cell_of_row _ _ 0 _ _ _ r2; have e_1 := cell_of_row _ _ 1 _ _ _ r2; have e_2 := cell_of_row _ _ 2 _ _ _ r2; have e_3 := cell_of_row _ _ 3 _ _ _ r2; have e_4 := cell_of_row _ _ 4 _ _ _ r2; have e_5 := cell_of_row _ _ 5 _ _ _ r2
  refine wp_float [(9, 7, (.cells #[.int .i64 0, .int .i64 0, .slice none 0 0] 34))] [(0, 0), (1, 0), (3, 0), (2, 1), (4, 1), (5, 1), (6, 0), (7, 0), (8, 2)] [10, 11] [10, 11] [8] (by kernel_rfl) (by kernel_rfl) (by kernel_rfl) (fun _ _ d _ _ h => by cases d <;> exact h) (fun _ _ d _ _ h => by cases d <;> exact h) (fun x hx o ho a w => by (obtain rfl := List.mem_singleton.1 hx); (obtain rfl := Option.some.inj ho); (first | rfl | (simp [go_sem, ptrB]; done) | (go_simp; rfl))) ?_
  iterate 3 ((refine wpFp_read (v := ?_) rfl ?_ (fun w1 h1 => ?_) ?_; rotate_left 1; rfl; (obtain ⟨os1, d1, rfl⟩ := h1.more; go_simp; first | done | rfl)); try simp only [Act.put, zqA, zqB, zqC])
  (refine wpFp_eff rfl ?_ (fun wf hXf hE K hK => ?_); rfl; obtain ⟨osf, df, rfl⟩ := hXf.more; go_simp; refine (h1 _).mono ?_; rintro e w' ⟨D1, c1, rfl, hN1, hb⟩; refine hK _ _ (fun W => ArrIn W D1 1 c1 lx) (by (try simp only [more_drew, more_more]); exact hb) (fun _ _ hx h => h.ext hx) hN1.arr ?_)
  try simp only [Act.put, zqA, zqB, zqC]
  (refine wpFp_eff rfl ?_ (fun wf hXf hE K hK => ?_); rfl; obtain ⟨osf, df, rfl⟩ := hXf.more; go_simp; refine (h2 _).mono ?_; rintro e w' ⟨D2, c2, rfl, hN2, hb⟩; refine hK _ _ (fun W => ArrIn W D1 1 c1 lx ∧ ArrIn W D2 1 c2 ly) (by (try simp only [more_drew, more_more]); exact hb) (fun _ _ hx h => ⟨h.1.ext hx, h.2.ext hx⟩) ⟨hE.ext (by (try simp only [more_drew, more_more]); exact hb), hN2.arr⟩ ?_)
  try simp only [Act.put, zqA, zqB, zqC]
  (refine wpFp_eff rfl ?_ (fun wf hXf hE K hK => ?_); rfl; obtain ⟨osf, df, rfl⟩ := hXf.more; go_simp; refine (binary_yes g sb 1 1 1 1 D1 D2 1 c1 1 c2 lx ly _ (HT.out.ext (hw0.trans (by repeat (first | (with_reducible (first | exact Ext.refl _ | exact ext_d _ _ _ _ | exact ext_app _ _ _ _ _ | exact ext_app2 _ _ _ _ _ _ | exact ext_app3 _ _ _ _ _ _ _)) | ((with_reducible refine ext_suffix ⟨_, ?_⟩); (try simp only [Array.append_assoc]); rfl) | (with_reducible (first | apply Ext.drew | apply Ext.alloc | apply Ext.more_)))))) hsm HG2.out hE.1 hE.2 ⟨1, 1, [z]⟩ HG.out).mono ?_; rintro e w' ⟨D3, m3, c3, rfl, hN3, hb⟩; refine hK _ _ (fun W => ArrIn W D3 m3 c3 [z]) (by (try simp only [more_drew, more_more]); exact hb) (fun _ _ hx h => h.ext hx) hN3.arr ?_)
  try simp only [Act.put, zqA, zqB, zqC]
  iterate 2 ((refine wpFp_read (v := ?_) rfl ?_ (fun w1 h1 => ?_) ?_; rotate_left 1; rfl; (obtain ⟨os1, d1, rfl⟩ := h1.more; go_simp; first | done | rfl)); try simp only [Act.put, zqA, zqB, zqC])
  (refine wpFp_pure (v := ?_) rfl ?_ (fun w1 => ?_) ?_; rotate_left 1; rfl; (go_simp; first | done | rfl))
  try simp only [Act.put, zqA, zqB, zqC]
  refine wpFp_one fun osa da osb db hE => ?_
  try simp only [Act.put, zqA, zqB, zqC]
  iterate 2 ((refine wpTl_op rfl ?_ (fun K hK => ?_); rfl; go_simp; refine hK _ _ ?_); try simp only [Act.put, zqA, zqB, zqC])
  refine wpTl_nil ?_
  have hR := hE.box #[.int .i64 1, .int .i64 1, .slice D3 m3 c3] 34 db
  clear hE
  (try simp only [more_more, drew_more, more_drew, Array.append_assoc] at hR)
  obtain rfl : m3 = 1 := by have := hR.len; simpa using this.symm
  go_upto_region 8 with fail
  refine wp_world fun W1 hW1 => ?_; have hR1 : ArrIn W1 D3 1 c3 [z] := (by rw [hW1]; exact hR); obtain ⟨r3, hx1⟩ := one_at _ _ _ _ _ _ hW1; clear hW1 hR; have r1 := row_ext r1 hx1; have r2 := row_ext r2 hx1; have hwW := hw0.trans hx1; clear hw0 hx1; have b1 := lt_of_block r1; have b2 := lt_of_block r2; have b3 := lt_of_block r3; have a0 := cell_of_row _ _ 0 _ _ _ r1; have a1 := cell_of_row _ _ 1 _ _ _ r1; have a2 := cell_of_row _ _ 2 _ _ _ r1; have a3 := cell_of_row _ _ 3 _ _ _ r1; have a4 := cell_of_row _ _ 4 _ _ _ r1; have a5 := cell_of_row _ _ 5 _ _ _ r1; have e_0 := cell_of_row _ _ 0 _ _ _ r2; have e_1 := cell_of_row _ _ 1 _ _ _ r2; have e_2 := cell_of_row _ _ 2 _ _ _ r2; have e_3 := cell_of_row _ _ 3 _ _ _ r2; have e_4 := cell_of_row _ _ 4 _ _ _ r2; have e_5 := cell_of_row _ _ 5 _ _ _ r2; have u0 := cell_of_row _ _ 0 _ _ _ r3; have u1 := cell_of_row _ _ 1 _ _ _ r3; have u2 := cell_of_row _ _ 2 _ _ _ r3
  obtain ⟨b0, off, rfl, hv, _⟩ := hR1.get (k := 0) (by omega)
  obtain ⟨v0, v1, v2, v3, v4, v5⟩ := hv
  have hb0 := lt_of_cell v0
  simp only [Nat.zero_mul, Nat.add_zero, Nat.zero_add, getV, List.getElem?_cons_zero, Option.getD_some] at v0 v1 v2 v3 v4 v5
  obtain ⟨z0, z1, z2, z3, z4, z5⟩ := HZ.out
  rw [z0] at v0
  rw [z1] at v1
  rw [z2] at v2
  rw [z3] at v3
  rw [z4] at v4
  rw [z5] at v5
  clear z0 z1 z2 z3 z4 z5
  go_upto_region 9 with fail
  refine wp_plan (S := Ext _) [(0, 0), (1, 0), (2, 0), (3, 0), (4, 0), (5, 0), (6, 0)] [] (by kernel_rfl) (by kernel_rfl) (by kernel_rfl) (fun _ _ d _ _ h => by cases d <;> exact h) (Ext.drew (Ext.refl _)) ?_
  iterate 7 ((refine wpPl_read (v := ?_) rfl ?_ (fun _ h => ?_) ?_; rotate_left 1; rfl; (obtain ⟨_, _, rfl⟩ := h.more; go_simp; try rfl)); try simp only [Act.put, zqA, zqB, zqC])
  refine wpPl_nil ?_
  go_wp2_with fail
  go_ret
  exact ⟨rfl, hwW.trans (by repeat (first | (with_reducible (first | exact Ext.refl _ | exact ext_d _ _ _ _ | exact ext_app _ _ _ _ _ | exact ext_app2 _ _ _ _ _ _ | exact ext_app3 _ _ _ _ _ _ _)) | ((with_reducible refine ext_suffix ⟨_, ?_⟩); (try simp only [Array.append_assoc]); rfl) | (with_reducible (first | apply Ext.drew | apply Ext.alloc | apply Ext.more_))))⟩
set_option maxHeartbeats 2000000 in
theorem faults_rightL (g : Sg) (sb : ByteArray) (x y : Val) (w : World) (htab : Tab w) (hx : x.ok) (hy : y.ok) (rx : x.right) (ry : y.right) (hg : sgOf sb.data.toList = some g) (k1 : x.kind ≠ 4) (k2 : y.kind = 4) (hc : tnF x ≠ 0 ∧ 2 < g.level) :
    Calls Tryz.prog 6 #[.string sb, VV x.kind x.mant x.exp x.text x.truth x.fault, VV y.kind y.mant y.exp y.text y.truth y.fault] w fun e w' => e = .returned (.bool true) ∧ Ext w w' := by
  have g1 := fun W => refRight_any x.kind x.mant x.exp x.fault x.text x.truth W hx.2.1 hx.2.2.2.1; have g2 := fun W => refRight_any y.kind y.mant y.exp y.fault y.text y.truth W hy.2.1 hy.2.2.2.1; rw [show refRight ⟨x.kind, x.mant, x.exp, x.text, x.truth, x.fault⟩ = true from (right_eq x hx).symm.trans rx] at g1; rw [show refRight ⟨y.kind, y.mant, y.exp, y.text, y.truth, y.fault⟩ = true from (right_eq y hy).symm.trans ry] at g2
  have hA := both_one g rx ry
  have h1 := fun W => one10_any x W hx
  have h2 := fun W => one10_any y W hy
  have hlv := fun W => rlevel_yes g W
  rw [← sg_lit hg] at hlv
  have q := level_ne g
  have hsm : sb.size ≤ maxLen := by rw [sg_lit hg]; cases g <;> decide
  have HG2 := Lib.hid hg
  have HT := Lib.hid htab
  have qx : (x.kind == 4) = false := by simpa using k1
  have ht1 := fun W => rtoNum_any x W rx
  simp only [tnV] at ht1
  obtain ⟨lx, hlx⟩ : ∃ l, l = [x] := ⟨_, rfl⟩
  obtain ⟨ly, hly⟩ : ∃ l, l = [y] := ⟨_, rfl⟩
  rw [← hlx] at h1
  rw [← hly] at h2
  have qy : (y.kind == 4) = true := by simpa using k2
  rw [op_right g ry k1 k2, if_pos hc] at hA
  have hA' : bothRes (opV g) 1 1 lx 1 1 ly = ⟨1, 1, [bad_ (tnF x)]⟩ := by rw [hlx, hly]; exact hA
  have hbad := fun W => rbad2_any (tnF x) W
  have qf : (tnF x != 0) = true := by simpa using hc.1
  have ql : decide (2 < g.level) = true := decide_eq_true hc.2
  have ql2 := hc.2
  obtain ⟨z, hz⟩ : ∃ z, z = bad_ (tnF x) := ⟨_, rfl⟩
  rw [← hz] at hA'
  have HG := Lib.hid hA'
  have hzk : z.kind = 4 ∧ z.mant = 0 ∧ z.exp = 0 ∧ z.text = ⟨#[]⟩ ∧ z.truth = false ∧ z.fault = badF (tnF x) := by subst hz; exact ⟨rfl, rfl, rfl, rfl, rfl, rfl⟩
  have HZ := Lib.hid hzk
  generalize g.level = lv at *
  clear hA hA' hlx hly hx hy rx ry k1 k2 htab hg hz hzk hc
  generalize tnF x = f at *
  generalize (tnP x).1 = tm at *
  generalize (tnP x).2 = te at *
  generalize x.kind = xk at *; generalize x.mant = xm at *; generalize x.exp = xe at *; generalize x.text = xt at *; generalize x.truth = xb at *; generalize x.fault = xf at *
  generalize y.kind = yk at *; generalize y.mant = ym at *; generalize y.exp = ye at *; generalize y.text = yt at *; generalize y.truth = yb at *; generalize y.fault = yf at *
  go_enter Tryz.func6, Tryz.ntmps6; go_wp2_with fail; refine (awake10_any _ (HT.out.ext (by repeat (first | (with_reducible (first | exact Ext.refl _ | exact ext_d _ _ _ _ | exact ext_app _ _ _ _ _ | exact ext_app2 _ _ _ _ _ _ | exact ext_app3 _ _ _ _ _ _ _)) | ((with_reducible refine ext_suffix ⟨_, ?_⟩); (try simp only [Array.append_assoc]); rfl) | (with_reducible (first | apply Ext.drew | apply Ext.alloc | apply Ext.more_)))))).mono ?_; rintro e w' ⟨rfl, hb⟩; obtain ⟨os1, d1, rfl⟩ := hb.more; clear hb; go_wp2_with fail; refine (g1 _).mono ?_; rintro e w' ⟨rfl, hb⟩; obtain ⟨os2, d2, rfl⟩ := hb.more; clear hb; go_wp2_with fail; refine (g2 _).mono ?_; rintro e w' ⟨rfl, hb⟩; obtain ⟨os3, d3, rfl⟩ := hb.more; clear hb; go_wp2_with fail; refine (hlv _).mono ?_; rintro e w' ⟨rfl, hb⟩; obtain ⟨os4, d4, rfl⟩ := hb.more; clear hb
  go_upto_region 5 with fail
  refine wp_world fun W0 hW0 => ?_; obtain ⟨r1, r2, hw0⟩ := two_at _ _ _ _ _ hW0; clear hW0; have b1 := lt_of_block r1; have b2 := lt_of_block r2; have a0 := cell_of_row _ _ 0 _ _ _ r1; have a1 := cell_of_row _ _ 1 _ _ _ r1; have a2 := cell_of_row _ _ 2 _ _ _ r1; have a3 := cell_of_row _ _ 3 _ _ _ r1; have a4 := cell_of_row _ _ 4 _ _ _ r1; have a5 := cell_of_row _ _ 5 _ _ _ r1; have e_0 := cell_of_row _ _ 0 _ _ _ r2; have e_1 := cell_of_row _ _ 1 _ _ _ r2; have e_2 := cell_of_row _ _ 2 _ _ _ r2; have e_3 := cell_of_row _ _ 3 _ _ _ r2; have e_4 := cell_of_row _ _ 4 _ _ _ r2; have e_5 := cell_of_row _ _ 5 _ _ _ r2
  refine wp_float [(9, 7, (.cells #[.int .i64 0, .int .i64 0, .slice none 0 0] 34))] [(0, 0), (1, 0), (3, 0), (2, 1), (4, 1), (5, 1), (6, 0), (7, 0), (8, 2)] [10, 11] [10, 11] [8] (by kernel_rfl) (by kernel_rfl) (by kernel_rfl) (fun _ _ d _ _ h => by cases d <;> exact h) (fun _ _ d _ _ h => by cases d <;> exact h) (fun x hx o ho a w => by (obtain rfl := List.mem_singleton.1 hx); (obtain rfl := Option.some.inj ho); (first | rfl | (simp [go_sem, ptrB]; done) | (go_simp; rfl))) ?_
  iterate 3 ((refine wpFp_read (v := ?_) rfl ?_ (fun w1 h1 => ?_) ?_; rotate_left 1; rfl; (obtain ⟨os1, d1, rfl⟩ := h1.more; go_simp; first | done | rfl)); try simp only [Act.put, zqA, zqB, zqC])
  (refine wpFp_eff rfl ?_ (fun wf hXf hE K hK => ?_); rfl; obtain ⟨osf, df, rfl⟩ := hXf.more; go_simp; refine (h1 _).mono ?_; rintro e w' ⟨D1, c1, rfl, hN1, hb⟩; refine hK _ _ (fun W => ArrIn W D1 1 c1 lx) (by (try simp only [more_drew, more_more]); exact hb) (fun _ _ hx h => h.ext hx) hN1.arr ?_)
  try simp only [Act.put, zqA, zqB, zqC]
  (refine wpFp_eff rfl ?_ (fun wf hXf hE K hK => ?_); rfl; obtain ⟨osf, df, rfl⟩ := hXf.more; go_simp; refine (h2 _).mono ?_; rintro e w' ⟨D2, c2, rfl, hN2, hb⟩; refine hK _ _ (fun W => ArrIn W D1 1 c1 lx ∧ ArrIn W D2 1 c2 ly) (by (try simp only [more_drew, more_more]); exact hb) (fun _ _ hx h => ⟨h.1.ext hx, h.2.ext hx⟩) ⟨hE.ext (by (try simp only [more_drew, more_more]); exact hb), hN2.arr⟩ ?_)
  try simp only [Act.put, zqA, zqB, zqC]
  (refine wpFp_eff rfl ?_ (fun wf hXf hE K hK => ?_); rfl; obtain ⟨osf, df, rfl⟩ := hXf.more; go_simp; refine (binary_yes g sb 1 1 1 1 D1 D2 1 c1 1 c2 lx ly _ (HT.out.ext (hw0.trans (by repeat (first | (with_reducible (first | exact Ext.refl _ | exact ext_d _ _ _ _ | exact ext_app _ _ _ _ _ | exact ext_app2 _ _ _ _ _ _ | exact ext_app3 _ _ _ _ _ _ _)) | ((with_reducible refine ext_suffix ⟨_, ?_⟩); (try simp only [Array.append_assoc]); rfl) | (with_reducible (first | apply Ext.drew | apply Ext.alloc | apply Ext.more_)))))) hsm HG2.out hE.1 hE.2 ⟨1, 1, [z]⟩ HG.out).mono ?_; rintro e w' ⟨D3, m3, c3, rfl, hN3, hb⟩; refine hK _ _ (fun W => ArrIn W D3 m3 c3 [z]) (by (try simp only [more_drew, more_more]); exact hb) (fun _ _ hx h => h.ext hx) hN3.arr ?_)
  try simp only [Act.put, zqA, zqB, zqC]
  iterate 2 ((refine wpFp_read (v := ?_) rfl ?_ (fun w1 h1 => ?_) ?_; rotate_left 1; rfl; (obtain ⟨os1, d1, rfl⟩ := h1.more; go_simp; first | done | rfl)); try simp only [Act.put, zqA, zqB, zqC])
  (refine wpFp_pure (v := ?_) rfl ?_ (fun w1 => ?_) ?_; rotate_left 1; rfl; (go_simp; first | done | rfl))
  try simp only [Act.put, zqA, zqB, zqC]
  refine wpFp_one fun osa da osb db hE => ?_
  try simp only [Act.put, zqA, zqB, zqC]
  iterate 2 ((refine wpTl_op rfl ?_ (fun K hK => ?_); rfl; go_simp; refine hK _ _ ?_); try simp only [Act.put, zqA, zqB, zqC])
  refine wpTl_nil ?_
  have hR := hE.box #[.int .i64 1, .int .i64 1, .slice D3 m3 c3] 34 db
  clear hE
  (try simp only [more_more, drew_more, more_drew, Array.append_assoc] at hR)
  obtain rfl : m3 = 1 := by have := hR.len; simpa using this.symm
  go_upto_region 8 with fail
  refine wp_world fun W1 hW1 => ?_; have hR1 : ArrIn W1 D3 1 c3 [z] := (by rw [hW1]; exact hR); obtain ⟨r3, hx1⟩ := one_at _ _ _ _ _ _ hW1; clear hW1 hR; have r1 := row_ext r1 hx1; have r2 := row_ext r2 hx1; have hwW := hw0.trans hx1; clear hw0 hx1; have b1 := lt_of_block r1; have b2 := lt_of_block r2; have b3 := lt_of_block r3; have a0 := cell_of_row _ _ 0 _ _ _ r1; have a1 := cell_of_row _ _ 1 _ _ _ r1; have a2 := cell_of_row _ _ 2 _ _ _ r1; have a3 := cell_of_row _ _ 3 _ _ _ r1; have a4 := cell_of_row _ _ 4 _ _ _ r1; have a5 := cell_of_row _ _ 5 _ _ _ r1; have e_0 := cell_of_row _ _ 0 _ _ _ r2; have e_1 := cell_of_row _ _ 1 _ _ _ r2; have e_2 := cell_of_row _ _ 2 _ _ _ r2; have e_3 := cell_of_row _ _ 3 _ _ _ r2; have e_4 := cell_of_row _ _ 4 _ _ _ r2; have e_5 := cell_of_row _ _ 5 _ _ _ r2; have u0 := cell_of_row _ _ 0 _ _ _ r3; have u1 := cell_of_row _ _ 1 _ _ _ r3; have u2 := cell_of_row _ _ 2 _ _ _ r3
  obtain ⟨b0, off, rfl, hv, _⟩ := hR1.get (k := 0) (by omega)
  obtain ⟨v0, v1, v2, v3, v4, v5⟩ := hv
  have hb0 := lt_of_cell v0
  simp only [Nat.zero_mul, Nat.add_zero, Nat.zero_add, getV, List.getElem?_cons_zero, Option.getD_some] at v0 v1 v2 v3 v4 v5
  obtain ⟨z0, z1, z2, z3, z4, z5⟩ := HZ.out
  rw [z0] at v0
  rw [z1] at v1
  rw [z2] at v2
  rw [z3] at v3
  rw [z4] at v4
  rw [z5] at v5
  clear z0 z1 z2 z3 z4 z5
  go_wp2_with fail
  refine (ht1 _).mono ?_; rintro e w' ⟨rfl, hb⟩; obtain ⟨os11, d11, rfl⟩ := hb.more; clear hb
  go_wp2_with fail
  refine (hlv _).mono ?_; rintro e w' ⟨rfl, hb⟩; obtain ⟨os12, d12, rfl⟩ := hb.more; clear hb
  go_upto_region 13 with fail
  refine wp_plan (S := Ext _) [(0, 0), (1, 0), (2, 0), (3, 0), (4, 0), (5, 1), (6, 0), (7, 0)] [] (by kernel_rfl) (by kernel_rfl) (by kernel_rfl) (fun _ _ d _ _ h => by cases d <;> exact h) (Ext.drew (Ext.refl _)) ?_
  iterate 5 ((refine wpPl_read (v := ?_) rfl ?_ (fun _ h => ?_) ?_; rotate_left 1; rfl; (obtain ⟨_, _, rfl⟩ := h.more; go_simp; try rfl)); try simp only [Act.put, zqA, zqB, zqC])
  (refine wpPl_eff rfl ?_ (fun K hK => ?_); rfl; go_simp; refine (hbad _).mono ?_; rintro e w' ⟨rfl, hb⟩; obtain ⟨os13, d13, rfl⟩ := hb.more; clear hb; refine hK _ _ ?_ ?_; (repeat (first | (with_reducible (first | exact Ext.refl _ | exact ext_d _ _ _ _ | exact ext_app _ _ _ _ _ | exact ext_app2 _ _ _ _ _ _ | exact ext_app3 _ _ _ _ _ _ _ | exact ext_app4 _ _ _ _ _ _ _ _ | exact ext_app5 _ _ _ _ _ _ _ _ _)) | ((with_reducible refine ext_suffix ⟨_, ?_⟩); (try simp only [Array.append_assoc]); rfl) | (with_reducible (first | apply Ext.drew | apply Ext.alloc | apply Ext.more_)) | apply Ext.drew | apply Ext.alloc | apply Ext.more_)))
  try simp only [Act.put, zqA, zqB, zqC]
  iterate 2 ((refine wpPl_read (v := ?_) rfl ?_ (fun _ h => ?_) ?_; rotate_left 1; rfl; (obtain ⟨_, _, rfl⟩ := h.more; go_simp; try rfl)); try simp only [Act.put, zqA, zqB, zqC])
  refine wpPl_nil ?_
  go_wp2_with fail
  go_ret
  exact ⟨rfl, hwW.trans (by repeat (first | (with_reducible (first | exact Ext.refl _ | exact ext_d _ _ _ _ | exact ext_app _ _ _ _ _ | exact ext_app2 _ _ _ _ _ _ | exact ext_app3 _ _ _ _ _ _ _)) | ((with_reducible refine ext_suffix ⟨_, ?_⟩); (try simp only [Array.append_assoc]); rfl) | (with_reducible (first | apply Ext.drew | apply Ext.alloc | apply Ext.more_))))⟩
set_option maxHeartbeats 2000000 in
theorem faults_rightY (g : Sg) (sb : ByteArray) (x y : Val) (w : World) (htab : Tab w) (hx : x.ok) (hy : y.ok) (rx : x.right) (ry : y.right) (hg : sgOf sb.data.toList = some g) (k1 : x.kind ≠ 4) (k2 : y.kind = 4) (hc : tnF x = 0) :
    Calls Tryz.prog 6 #[.string sb, VV x.kind x.mant x.exp x.text x.truth x.fault, VV y.kind y.mant y.exp y.text y.truth y.fault] w fun e w' => e = .returned (.bool true) ∧ Ext w w' := by
  have g1 := fun W => refRight_any x.kind x.mant x.exp x.fault x.text x.truth W hx.2.1 hx.2.2.2.1; have g2 := fun W => refRight_any y.kind y.mant y.exp y.fault y.text y.truth W hy.2.1 hy.2.2.2.1; rw [show refRight ⟨x.kind, x.mant, x.exp, x.text, x.truth, x.fault⟩ = true from (right_eq x hx).symm.trans rx] at g1; rw [show refRight ⟨y.kind, y.mant, y.exp, y.text, y.truth, y.fault⟩ = true from (right_eq y hy).symm.trans ry] at g2
  have hA := both_one g rx ry
  have h1 := fun W => one10_any x W hx
  have h2 := fun W => one10_any y W hy
  have hlv := fun W => rlevel_yes g W
  rw [← sg_lit hg] at hlv
  have q := level_ne g
  have hsm : sb.size ≤ maxLen := by rw [sg_lit hg]; cases g <;> decide
  have HG2 := Lib.hid hg
  have HT := Lib.hid htab
  have qx : (x.kind == 4) = false := by simpa using k1
  have ht1 := fun W => rtoNum_any x W rx
  simp only [tnV] at ht1
  obtain ⟨lx, hlx⟩ : ∃ l, l = [x] := ⟨_, rfl⟩
  obtain ⟨ly, hly⟩ : ∃ l, l = [y] := ⟨_, rfl⟩
  rw [← hlx] at h1
  rw [← hly] at h2
  have qy : (y.kind == 4) = true := by simpa using k2
  rw [op_right g ry k1 k2, if_neg (fun h => h.1 hc)] at hA
  have hA' : bothRes (opV g) 1 1 lx 1 1 ly = ⟨1, 1, [y]⟩ := by rw [hlx, hly]; exact hA
  have qf : (tnF x != 0) = false := by simp [hc]
  obtain ⟨z, hz⟩ : ∃ z, z = y := ⟨_, rfl⟩
  rw [← hz] at hA'
  have HG := Lib.hid hA'
  have hzk : z.kind = y.kind ∧ z.mant = y.mant ∧ z.exp = y.exp ∧ z.text = y.text ∧ z.truth = y.truth ∧ z.fault = y.fault := by subst hz; exact ⟨rfl, rfl, rfl, rfl, rfl, rfl⟩
  have HZ := Lib.hid hzk
  generalize g.level = lv at *
  clear hA hA' hlx hly hx hy rx ry k1 k2 htab hg hz hzk hc
  generalize tnF x = f at *
  generalize (tnP x).1 = tm at *
  generalize (tnP x).2 = te at *
  generalize x.kind = xk at *; generalize x.mant = xm at *; generalize x.exp = xe at *; generalize x.text = xt at *; generalize x.truth = xb at *; generalize x.fault = xf at *
  generalize y.kind = yk at *; generalize y.mant = ym at *; generalize y.exp = ye at *; generalize y.text = yt at *; generalize y.truth = yb at *; generalize y.fault = yf at *
  go_enter Tryz.func6, Tryz.ntmps6; go_wp2_with fail; refine (awake10_any _ (HT.out.ext (by repeat (first | (with_reducible (first | exact Ext.refl _ | exact ext_d _ _ _ _ | exact ext_app _ _ _ _ _ | exact ext_app2 _ _ _ _ _ _ | exact ext_app3 _ _ _ _ _ _ _)) | ((with_reducible refine ext_suffix ⟨_, ?_⟩); (try simp only [Array.append_assoc]); rfl) | (with_reducible (first | apply Ext.drew | apply Ext.alloc | apply Ext.more_)))))).mono ?_; rintro e w' ⟨rfl, hb⟩; obtain ⟨os1, d1, rfl⟩ := hb.more; clear hb; go_wp2_with fail; refine (g1 _).mono ?_; rintro e w' ⟨rfl, hb⟩; obtain ⟨os2, d2, rfl⟩ := hb.more; clear hb; go_wp2_with fail; refine (g2 _).mono ?_; rintro e w' ⟨rfl, hb⟩; obtain ⟨os3, d3, rfl⟩ := hb.more; clear hb; go_wp2_with fail; refine (hlv _).mono ?_; rintro e w' ⟨rfl, hb⟩; obtain ⟨os4, d4, rfl⟩ := hb.more; clear hb
  go_upto_region 5 with fail
  refine wp_world fun W0 hW0 => ?_; obtain ⟨r1, r2, hw0⟩ := two_at _ _ _ _ _ hW0; clear hW0; have b1 := lt_of_block r1; have b2 := lt_of_block r2; have a0 := cell_of_row _ _ 0 _ _ _ r1; have a1 := cell_of_row _ _ 1 _ _ _ r1; have a2 := cell_of_row _ _ 2 _ _ _ r1; have a3 := cell_of_row _ _ 3 _ _ _ r1; have a4 := cell_of_row _ _ 4 _ _ _ r1; have a5 := cell_of_row _ _ 5 _ _ _ r1; have e_0 := cell_of_row _ _ 0 _ _ _ r2; have e_1 := cell_of_row _ _ 1 _ _ _ r2; have e_2 := cell_of_row _ _ 2 _ _ _ r2; have e_3 := cell_of_row _ _ 3 _ _ _ r2; have e_4 := cell_of_row _ _ 4 _ _ _ r2; have e_5 := cell_of_row _ _ 5 _ _ _ r2
  refine wp_float [(9, 7, (.cells #[.int .i64 0, .int .i64 0, .slice none 0 0] 34))] [(0, 0), (1, 0), (3, 0), (2, 1), (4, 1), (5, 1), (6, 0), (7, 0), (8, 2)] [10, 11] [10, 11] [8] (by kernel_rfl) (by kernel_rfl) (by kernel_rfl) (fun _ _ d _ _ h => by cases d <;> exact h) (fun _ _ d _ _ h => by cases d <;> exact h) (fun x hx o ho a w => by (obtain rfl := List.mem_singleton.1 hx); (obtain rfl := Option.some.inj ho); (first | rfl | (simp [go_sem, ptrB]; done) | (go_simp; rfl))) ?_
  iterate 3 ((refine wpFp_read (v := ?_) rfl ?_ (fun w1 h1 => ?_) ?_; rotate_left 1; rfl; (obtain ⟨os1, d1, rfl⟩ := h1.more; go_simp; first | done | rfl)); try simp only [Act.put, zqA, zqB, zqC])
  (refine wpFp_eff rfl ?_ (fun wf hXf hE K hK => ?_); rfl; obtain ⟨osf, df, rfl⟩ := hXf.more; go_simp; refine (h1 _).mono ?_; rintro e w' ⟨D1, c1, rfl, hN1, hb⟩; refine hK _ _ (fun W => ArrIn W D1 1 c1 lx) (by (try simp only [more_drew, more_more]); exact hb) (fun _ _ hx h => h.ext hx) hN1.arr ?_)
  try simp only [Act.put, zqA, zqB, zqC]
  (refine wpFp_eff rfl ?_ (fun wf hXf hE K hK => ?_); rfl; obtain ⟨osf, df, rfl⟩ := hXf.more; go_simp; refine (h2 _).mono ?_; rintro e w' ⟨D2, c2, rfl, hN2, hb⟩; refine hK _ _ (fun W => ArrIn W D1 1 c1 lx ∧ ArrIn W D2 1 c2 ly) (by (try simp only [more_drew, more_more]); exact hb) (fun _ _ hx h => ⟨h.1.ext hx, h.2.ext hx⟩) ⟨hE.ext (by (try simp only [more_drew, more_more]); exact hb), hN2.arr⟩ ?_)
  try simp only [Act.put, zqA, zqB, zqC]
  (refine wpFp_eff rfl ?_ (fun wf hXf hE K hK => ?_); rfl; obtain ⟨osf, df, rfl⟩ := hXf.more; go_simp; refine (binary_yes g sb 1 1 1 1 D1 D2 1 c1 1 c2 lx ly _ (HT.out.ext (hw0.trans (by repeat (first | (with_reducible (first | exact Ext.refl _ | exact ext_d _ _ _ _ | exact ext_app _ _ _ _ _ | exact ext_app2 _ _ _ _ _ _ | exact ext_app3 _ _ _ _ _ _ _)) | ((with_reducible refine ext_suffix ⟨_, ?_⟩); (try simp only [Array.append_assoc]); rfl) | (with_reducible (first | apply Ext.drew | apply Ext.alloc | apply Ext.more_)))))) hsm HG2.out hE.1 hE.2 ⟨1, 1, [z]⟩ HG.out).mono ?_; rintro e w' ⟨D3, m3, c3, rfl, hN3, hb⟩; refine hK _ _ (fun W => ArrIn W D3 m3 c3 [z]) (by (try simp only [more_drew, more_more]); exact hb) (fun _ _ hx h => h.ext hx) hN3.arr ?_)
  try simp only [Act.put, zqA, zqB, zqC]
  iterate 2 ((refine wpFp_read (v := ?_) rfl ?_ (fun w1 h1 => ?_) ?_; rotate_left 1; rfl; (obtain ⟨os1, d1, rfl⟩ := h1.more; go_simp; first | done | rfl)); try simp only [Act.put, zqA, zqB, zqC])
  (refine wpFp_pure (v := ?_) rfl ?_ (fun w1 => ?_) ?_; rotate_left 1; rfl; (go_simp; first | done | rfl))
  try simp only [Act.put, zqA, zqB, zqC]
  refine wpFp_one fun osa da osb db hE => ?_
  try simp only [Act.put, zqA, zqB, zqC]
  iterate 2 ((refine wpTl_op rfl ?_ (fun K hK => ?_); rfl; go_simp; refine hK _ _ ?_); try simp only [Act.put, zqA, zqB, zqC])
  refine wpTl_nil ?_
  have hR := hE.box #[.int .i64 1, .int .i64 1, .slice D3 m3 c3] 34 db
  clear hE
  (try simp only [more_more, drew_more, more_drew, Array.append_assoc] at hR)
  obtain rfl : m3 = 1 := by have := hR.len; simpa using this.symm
  go_upto_region 8 with fail
  refine wp_world fun W1 hW1 => ?_; have hR1 : ArrIn W1 D3 1 c3 [z] := (by rw [hW1]; exact hR); obtain ⟨r3, hx1⟩ := one_at _ _ _ _ _ _ hW1; clear hW1 hR; have r1 := row_ext r1 hx1; have r2 := row_ext r2 hx1; have hwW := hw0.trans hx1; clear hw0 hx1; have b1 := lt_of_block r1; have b2 := lt_of_block r2; have b3 := lt_of_block r3; have a0 := cell_of_row _ _ 0 _ _ _ r1; have a1 := cell_of_row _ _ 1 _ _ _ r1; have a2 := cell_of_row _ _ 2 _ _ _ r1; have a3 := cell_of_row _ _ 3 _ _ _ r1; have a4 := cell_of_row _ _ 4 _ _ _ r1; have a5 := cell_of_row _ _ 5 _ _ _ r1; have e_0 := cell_of_row _ _ 0 _ _ _ r2; have e_1 := cell_of_row _ _ 1 _ _ _ r2; have e_2 := cell_of_row _ _ 2 _ _ _ r2; have e_3 := cell_of_row _ _ 3 _ _ _ r2; have e_4 := cell_of_row _ _ 4 _ _ _ r2; have e_5 := cell_of_row _ _ 5 _ _ _ r2; have u0 := cell_of_row _ _ 0 _ _ _ r3; have u1 := cell_of_row _ _ 1 _ _ _ r3; have u2 := cell_of_row _ _ 2 _ _ _ r3
  obtain ⟨b0, off, rfl, hv, _⟩ := hR1.get (k := 0) (by omega)
  obtain ⟨v0, v1, v2, v3, v4, v5⟩ := hv
  have hb0 := lt_of_cell v0
  simp only [Nat.zero_mul, Nat.add_zero, Nat.zero_add, getV, List.getElem?_cons_zero, Option.getD_some] at v0 v1 v2 v3 v4 v5
  obtain ⟨z0, z1, z2, z3, z4, z5⟩ := HZ.out
  rw [z0] at v0
  rw [z1] at v1
  rw [z2] at v2
  rw [z3] at v3
  rw [z4] at v4
  rw [z5] at v5
  clear z0 z1 z2 z3 z4 z5
  go_wp2_with fail
  refine (ht1 _).mono ?_; rintro e w' ⟨rfl, hb⟩; obtain ⟨os11, d11, rfl⟩ := hb.more; clear hb
  go_upto_region 14 with fail
  refine wp_plan (S := Ext _) [(0, 0), (1, 0), (2, 0), (3, 0), (4, 0), (5, 0), (6, 0)] [] (by kernel_rfl) (by kernel_rfl) (by kernel_rfl) (fun _ _ d _ _ h => by cases d <;> exact h) (Ext.drew (Ext.refl _)) ?_
  iterate 7 ((refine wpPl_read (v := ?_) rfl ?_ (fun _ h => ?_) ?_; rotate_left 1; rfl; (obtain ⟨_, _, rfl⟩ := h.more; go_simp; try rfl)); try simp only [Act.put, zqA, zqB, zqC])
  refine wpPl_nil ?_
  go_wp2_with fail
  go_ret
  exact ⟨rfl, hwW.trans (by repeat (first | (with_reducible (first | exact Ext.refl _ | exact ext_d _ _ _ _ | exact ext_app _ _ _ _ _ | exact ext_app2 _ _ _ _ _ _ | exact ext_app3 _ _ _ _ _ _ _)) | ((with_reducible refine ext_suffix ⟨_, ?_⟩); (try simp only [Array.append_assoc]); rfl) | (with_reducible (first | apply Ext.drew | apply Ext.alloc | apply Ext.more_))))⟩
set_option maxHeartbeats 2000000 in
theorem faults_rightZ (g : Sg) (sb : ByteArray) (x y : Val) (w : World) (htab : Tab w) (hx : x.ok) (hy : y.ok) (rx : x.right) (ry : y.right) (hg : sgOf sb.data.toList = some g) (k1 : x.kind ≠ 4) (k2 : y.kind = 4) (hc0 : tnF x ≠ 0) (hc : ¬ 2 < g.level) :
    Calls Tryz.prog 6 #[.string sb, VV x.kind x.mant x.exp x.text x.truth x.fault, VV y.kind y.mant y.exp y.text y.truth y.fault] w fun e w' => e = .returned (.bool true) ∧ Ext w w' := by
  have g1 := fun W => refRight_any x.kind x.mant x.exp x.fault x.text x.truth W hx.2.1 hx.2.2.2.1; have g2 := fun W => refRight_any y.kind y.mant y.exp y.fault y.text y.truth W hy.2.1 hy.2.2.2.1; rw [show refRight ⟨x.kind, x.mant, x.exp, x.text, x.truth, x.fault⟩ = true from (right_eq x hx).symm.trans rx] at g1; rw [show refRight ⟨y.kind, y.mant, y.exp, y.text, y.truth, y.fault⟩ = true from (right_eq y hy).symm.trans ry] at g2
  have hA := both_one g rx ry
  have h1 := fun W => one10_any x W hx
  have h2 := fun W => one10_any y W hy
  have hlv := fun W => rlevel_yes g W
  rw [← sg_lit hg] at hlv
  have q := level_ne g
  have hsm : sb.size ≤ maxLen := by rw [sg_lit hg]; cases g <;> decide
  have HG2 := Lib.hid hg
  have HT := Lib.hid htab
  have qx : (x.kind == 4) = false := by simpa using k1
  have ht1 := fun W => rtoNum_any x W rx
  simp only [tnV] at ht1
  obtain ⟨lx, hlx⟩ : ∃ l, l = [x] := ⟨_, rfl⟩
  obtain ⟨ly, hly⟩ : ∃ l, l = [y] := ⟨_, rfl⟩
  rw [← hlx] at h1
  rw [← hly] at h2
  have qy : (y.kind == 4) = true := by simpa using k2
  rw [op_right g ry k1 k2, if_neg (fun h => hc h.2)] at hA
  have hA' : bothRes (opV g) 1 1 lx 1 1 ly = ⟨1, 1, [y]⟩ := by rw [hlx, hly]; exact hA
  have qf : (tnF x != 0) = true := by simpa using hc0
  have ql : decide (2 < g.level) = false := decide_eq_false hc
  have ql2 : ¬ 2 < g.level := hc
  obtain ⟨z, hz⟩ : ∃ z, z = y := ⟨_, rfl⟩
  rw [← hz] at hA'
  have HG := Lib.hid hA'
  have hzk : z.kind = y.kind ∧ z.mant = y.mant ∧ z.exp = y.exp ∧ z.text = y.text ∧ z.truth = y.truth ∧ z.fault = y.fault := by subst hz; exact ⟨rfl, rfl, rfl, rfl, rfl, rfl⟩
  have HZ := Lib.hid hzk
  generalize g.level = lv at *
  clear hA hA' hlx hly hx hy rx ry k1 k2 htab hg hz hzk hc hc0
  generalize tnF x = f at *
  generalize (tnP x).1 = tm at *
  generalize (tnP x).2 = te at *
  generalize x.kind = xk at *; generalize x.mant = xm at *; generalize x.exp = xe at *; generalize x.text = xt at *; generalize x.truth = xb at *; generalize x.fault = xf at *
  generalize y.kind = yk at *; generalize y.mant = ym at *; generalize y.exp = ye at *; generalize y.text = yt at *; generalize y.truth = yb at *; generalize y.fault = yf at *
  go_enter Tryz.func6, Tryz.ntmps6; go_wp2_with fail; refine (awake10_any _ (HT.out.ext (by repeat (first | (with_reducible (first | exact Ext.refl _ | exact ext_d _ _ _ _ | exact ext_app _ _ _ _ _ | exact ext_app2 _ _ _ _ _ _ | exact ext_app3 _ _ _ _ _ _ _)) | ((with_reducible refine ext_suffix ⟨_, ?_⟩); (try simp only [Array.append_assoc]); rfl) | (with_reducible (first | apply Ext.drew | apply Ext.alloc | apply Ext.more_)))))).mono ?_; rintro e w' ⟨rfl, hb⟩; obtain ⟨os1, d1, rfl⟩ := hb.more; clear hb; go_wp2_with fail; refine (g1 _).mono ?_; rintro e w' ⟨rfl, hb⟩; obtain ⟨os2, d2, rfl⟩ := hb.more; clear hb; go_wp2_with fail; refine (g2 _).mono ?_; rintro e w' ⟨rfl, hb⟩; obtain ⟨os3, d3, rfl⟩ := hb.more; clear hb; go_wp2_with fail; refine (hlv _).mono ?_; rintro e w' ⟨rfl, hb⟩; obtain ⟨os4, d4, rfl⟩ := hb.more; clear hb
  go_upto_region 5 with fail
  refine wp_world fun W0 hW0 => ?_; obtain ⟨r1, r2, hw0⟩ := two_at _ _ _ _ _ hW0; clear hW0; have b1 := lt_of_block r1; have b2 := lt_of_block r2; have a0 := cell_of_row _ _ 0 _ _ _ r1; have a1 := cell_of_row _ _ 1 _ _ _ r1; have a2 := cell_of_row _ _ 2 _ _ _ r1; have a3 := cell_of_row _ _ 3 _ _ _ r1; have a4 := cell_of_row _ _ 4 _ _ _ r1; have a5 := cell_of_row _ _ 5 _ _ _ r1; have e_0 := cell_of_row _ _ 0 _ _ _ r2; have e_1 := cell_of_row _ _ 1 _ _ _ r2; have e_2 := cell_of_row _ _ 2 _ _ _ r2; have e_3 := cell_of_row _ _ 3 _ _ _ r2; have e_4 := cell_of_row _ _ 4 _ _ _ r2; have e_5 := cell_of_row _ _ 5 _ _ _ r2
  refine wp_float [(9, 7, (.cells #[.int .i64 0, .int .i64 0, .slice none 0 0] 34))] [(0, 0), (1, 0), (3, 0), (2, 1), (4, 1), (5, 1), (6, 0), (7, 0), (8, 2)] [10, 11] [10, 11] [8] (by kernel_rfl) (by kernel_rfl) (by kernel_rfl) (fun _ _ d _ _ h => by cases d <;> exact h) (fun _ _ d _ _ h => by cases d <;> exact h) (fun x hx o ho a w => by (obtain rfl := List.mem_singleton.1 hx); (obtain rfl := Option.some.inj ho); (first | rfl | (simp [go_sem, ptrB]; done) | (go_simp; rfl))) ?_
  iterate 3 ((refine wpFp_read (v := ?_) rfl ?_ (fun w1 h1 => ?_) ?_; rotate_left 1; rfl; (obtain ⟨os1, d1, rfl⟩ := h1.more; go_simp; first | done | rfl)); try simp only [Act.put, zqA, zqB, zqC])
  (refine wpFp_eff rfl ?_ (fun wf hXf hE K hK => ?_); rfl; obtain ⟨osf, df, rfl⟩ := hXf.more; go_simp; refine (h1 _).mono ?_; rintro e w' ⟨D1, c1, rfl, hN1, hb⟩; refine hK _ _ (fun W => ArrIn W D1 1 c1 lx) (by (try simp only [more_drew, more_more]); exact hb) (fun _ _ hx h => h.ext hx) hN1.arr ?_)
  try simp only [Act.put, zqA, zqB, zqC]
  (refine wpFp_eff rfl ?_ (fun wf hXf hE K hK => ?_); rfl; obtain ⟨osf, df, rfl⟩ := hXf.more; go_simp; refine (h2 _).mono ?_; rintro e w' ⟨D2, c2, rfl, hN2, hb⟩; refine hK _ _ (fun W => ArrIn W D1 1 c1 lx ∧ ArrIn W D2 1 c2 ly) (by (try simp only [more_drew, more_more]); exact hb) (fun _ _ hx h => ⟨h.1.ext hx, h.2.ext hx⟩) ⟨hE.ext (by (try simp only [more_drew, more_more]); exact hb), hN2.arr⟩ ?_)
  try simp only [Act.put, zqA, zqB, zqC]
  (refine wpFp_eff rfl ?_ (fun wf hXf hE K hK => ?_); rfl; obtain ⟨osf, df, rfl⟩ := hXf.more; go_simp; refine (binary_yes g sb 1 1 1 1 D1 D2 1 c1 1 c2 lx ly _ (HT.out.ext (hw0.trans (by repeat (first | (with_reducible (first | exact Ext.refl _ | exact ext_d _ _ _ _ | exact ext_app _ _ _ _ _ | exact ext_app2 _ _ _ _ _ _ | exact ext_app3 _ _ _ _ _ _ _)) | ((with_reducible refine ext_suffix ⟨_, ?_⟩); (try simp only [Array.append_assoc]); rfl) | (with_reducible (first | apply Ext.drew | apply Ext.alloc | apply Ext.more_)))))) hsm HG2.out hE.1 hE.2 ⟨1, 1, [z]⟩ HG.out).mono ?_; rintro e w' ⟨D3, m3, c3, rfl, hN3, hb⟩; refine hK _ _ (fun W => ArrIn W D3 m3 c3 [z]) (by (try simp only [more_drew, more_more]); exact hb) (fun _ _ hx h => h.ext hx) hN3.arr ?_)
  try simp only [Act.put, zqA, zqB, zqC]
  iterate 2 ((refine wpFp_read (v := ?_) rfl ?_ (fun w1 h1 => ?_) ?_; rotate_left 1; rfl; (obtain ⟨os1, d1, rfl⟩ := h1.more; go_simp; first | done | rfl)); try simp only [Act.put, zqA, zqB, zqC])
  (refine wpFp_pure (v := ?_) rfl ?_ (fun w1 => ?_) ?_; rotate_left 1; rfl; (go_simp; first | done | rfl))
  try simp only [Act.put, zqA, zqB, zqC]
  refine wpFp_one fun osa da osb db hE => ?_
  try simp only [Act.put, zqA, zqB, zqC]
  iterate 2 ((refine wpTl_op rfl ?_ (fun K hK => ?_); rfl; go_simp; refine hK _ _ ?_); try simp only [Act.put, zqA, zqB, zqC])
  refine wpTl_nil ?_
  have hR := hE.box #[.int .i64 1, .int .i64 1, .slice D3 m3 c3] 34 db
  clear hE
  (try simp only [more_more, drew_more, more_drew, Array.append_assoc] at hR)
  obtain rfl : m3 = 1 := by have := hR.len; simpa using this.symm
  go_upto_region 8 with fail
  refine wp_world fun W1 hW1 => ?_; have hR1 : ArrIn W1 D3 1 c3 [z] := (by rw [hW1]; exact hR); obtain ⟨r3, hx1⟩ := one_at _ _ _ _ _ _ hW1; clear hW1 hR; have r1 := row_ext r1 hx1; have r2 := row_ext r2 hx1; have hwW := hw0.trans hx1; clear hw0 hx1; have b1 := lt_of_block r1; have b2 := lt_of_block r2; have b3 := lt_of_block r3; have a0 := cell_of_row _ _ 0 _ _ _ r1; have a1 := cell_of_row _ _ 1 _ _ _ r1; have a2 := cell_of_row _ _ 2 _ _ _ r1; have a3 := cell_of_row _ _ 3 _ _ _ r1; have a4 := cell_of_row _ _ 4 _ _ _ r1; have a5 := cell_of_row _ _ 5 _ _ _ r1; have e_0 := cell_of_row _ _ 0 _ _ _ r2; have e_1 := cell_of_row _ _ 1 _ _ _ r2; have e_2 := cell_of_row _ _ 2 _ _ _ r2; have e_3 := cell_of_row _ _ 3 _ _ _ r2; have e_4 := cell_of_row _ _ 4 _ _ _ r2; have e_5 := cell_of_row _ _ 5 _ _ _ r2; have u0 := cell_of_row _ _ 0 _ _ _ r3; have u1 := cell_of_row _ _ 1 _ _ _ r3; have u2 := cell_of_row _ _ 2 _ _ _ r3
  obtain ⟨b0, off, rfl, hv, _⟩ := hR1.get (k := 0) (by omega)
  obtain ⟨v0, v1, v2, v3, v4, v5⟩ := hv
  have hb0 := lt_of_cell v0
  simp only [Nat.zero_mul, Nat.add_zero, Nat.zero_add, getV, List.getElem?_cons_zero, Option.getD_some] at v0 v1 v2 v3 v4 v5
  obtain ⟨z0, z1, z2, z3, z4, z5⟩ := HZ.out
  rw [z0] at v0
  rw [z1] at v1
  rw [z2] at v2
  rw [z3] at v3
  rw [z4] at v4
  rw [z5] at v5
  clear z0 z1 z2 z3 z4 z5
  go_wp2_with fail
  refine (ht1 _).mono ?_; rintro e w' ⟨rfl, hb⟩; obtain ⟨os11, d11, rfl⟩ := hb.more; clear hb
  go_wp2_with fail
  refine (hlv _).mono ?_; rintro e w' ⟨rfl, hb⟩; obtain ⟨os12, d12, rfl⟩ := hb.more; clear hb
  go_upto_region 14 with fail
  refine wp_plan (S := Ext _) [(0, 0), (1, 0), (2, 0), (3, 0), (4, 0), (5, 0), (6, 0)] [] (by kernel_rfl) (by kernel_rfl) (by kernel_rfl) (fun _ _ d _ _ h => by cases d <;> exact h) (Ext.drew (Ext.refl _)) ?_
  iterate 7 ((refine wpPl_read (v := ?_) rfl ?_ (fun _ h => ?_) ?_; rotate_left 1; rfl; (obtain ⟨_, _, rfl⟩ := h.more; go_simp; try rfl)); try simp only [Act.put, zqA, zqB, zqC])
  refine wpPl_nil ?_
  go_wp2_with fail
  go_ret
  exact ⟨rfl, hwW.trans (by repeat (first | (with_reducible (first | exact Ext.refl _ | exact ext_d _ _ _ _ | exact ext_app _ _ _ _ _ | exact ext_app2 _ _ _ _ _ _ | exact ext_app3 _ _ _ _ _ _ _)) | ((with_reducible refine ext_suffix ⟨_, ?_⟩); (try simp only [Array.append_assoc]); rfl) | (with_reducible (first | apply Ext.drew | apply Ext.alloc | apply Ext.more_))))⟩
set_option maxHeartbeats 2000000 in
theorem faults_other (g : Sg) (sb : ByteArray) (x y : Val) (w : World) (htab : Tab w) (hx : x.ok) (hy : y.ok) (rx : x.right) (ry : y.right) (hg : sgOf sb.data.toList = some g) (k1 : x.kind ≠ 4) (k2 : y.kind ≠ 4) (e1 : (sb.toList == [43]) = false) (e2 : (sb.toList == [42]) = false) :
    Calls Tryz.prog 6 #[.string sb, VV x.kind x.mant x.exp x.text x.truth x.fault, VV y.kind y.mant y.exp y.text y.truth y.fault] w fun e w' => e = .returned (.bool true) ∧ Ext w w' := by
  have g1 := fun W => refRight_any x.kind x.mant x.exp x.fault x.text x.truth W hx.2.1 hx.2.2.2.1; have g2 := fun W => refRight_any y.kind y.mant y.exp y.fault y.text y.truth W hy.2.1 hy.2.2.2.1; rw [show refRight ⟨x.kind, x.mant, x.exp, x.text, x.truth, x.fault⟩ = true from (right_eq x hx).symm.trans rx] at g1; rw [show refRight ⟨y.kind, y.mant, y.exp, y.text, y.truth, y.fault⟩ = true from (right_eq y hy).symm.trans ry] at g2
  have hA := both_one g rx ry
  have h1 := fun W => one10_any x W hx
  have h2 := fun W => one10_any y W hy
  have hlv := fun W => rlevel_yes g W
  rw [← sg_lit hg] at hlv
  have q := level_ne g
  have hsm : sb.size ≤ maxLen := by rw [sg_lit hg]; cases g <;> decide
  have HG2 := Lib.hid hg
  have HT := Lib.hid htab
  have qx : (x.kind == 4) = false := by simpa using k1
  have ht1 := fun W => rtoNum_any x W rx
  simp only [tnV] at ht1
  obtain ⟨lx, hlx⟩ : ∃ l, l = [x] := ⟨_, rfl⟩
  obtain ⟨ly, hly⟩ : ∃ l, l = [y] := ⟨_, rfl⟩
  rw [← hlx] at h1
  rw [← hly] at h2
  have qy : (y.kind == 4) = false := by simpa using k2
  have ht2 := fun W => rtoNum_any y W ry
  simp only [tnV] at ht2
  have hA' : bothRes (opV g) 1 1 lx 1 1 ly = ⟨1, 1, [opV g x y]⟩ := by rw [hlx, hly]; exact hA
  generalize hzz : opV g x y = z at *
  have HG := Lib.hid hA'
  generalize g.level = lv at *
  clear hA hA' hlx hly hx hy rx ry k1 k2 htab hg hzz
  generalize tnF x = f at *
  generalize (tnP x).1 = tm at *
  generalize (tnP x).2 = te at *
  generalize tnF y = f2 at *
  generalize (tnP y).1 = tm2 at *
  generalize (tnP y).2 = te2 at *
  generalize x.kind = xk at *; generalize x.mant = xm at *; generalize x.exp = xe at *; generalize x.text = xt at *; generalize x.truth = xb at *; generalize x.fault = xf at *
  generalize y.kind = yk at *; generalize y.mant = ym at *; generalize y.exp = ye at *; generalize y.text = yt at *; generalize y.truth = yb at *; generalize y.fault = yf at *
  go_enter Tryz.func6, Tryz.ntmps6; go_wp2_with fail; refine (awake10_any _ (HT.out.ext (by repeat (first | (with_reducible (first | exact Ext.refl _ | exact ext_d _ _ _ _ | exact ext_app _ _ _ _ _ | exact ext_app2 _ _ _ _ _ _ | exact ext_app3 _ _ _ _ _ _ _)) | ((with_reducible refine ext_suffix ⟨_, ?_⟩); (try simp only [Array.append_assoc]); rfl) | (with_reducible (first | apply Ext.drew | apply Ext.alloc | apply Ext.more_)))))).mono ?_; rintro e w' ⟨rfl, hb⟩; obtain ⟨os1, d1, rfl⟩ := hb.more; clear hb; go_wp2_with fail; refine (g1 _).mono ?_; rintro e w' ⟨rfl, hb⟩; obtain ⟨os2, d2, rfl⟩ := hb.more; clear hb; go_wp2_with fail; refine (g2 _).mono ?_; rintro e w' ⟨rfl, hb⟩; obtain ⟨os3, d3, rfl⟩ := hb.more; clear hb; go_wp2_with fail; refine (hlv _).mono ?_; rintro e w' ⟨rfl, hb⟩; obtain ⟨os4, d4, rfl⟩ := hb.more; clear hb
  go_upto_region 5 with fail
  refine wp_world fun W0 hW0 => ?_; obtain ⟨r1, r2, hw0⟩ := two_at _ _ _ _ _ hW0; clear hW0; have b1 := lt_of_block r1; have b2 := lt_of_block r2; have a0 := cell_of_row _ _ 0 _ _ _ r1; have a1 := cell_of_row _ _ 1 _ _ _ r1; have a2 := cell_of_row _ _ 2 _ _ _ r1; have a3 := cell_of_row _ _ 3 _ _ _ r1; have a4 := cell_of_row _ _ 4 _ _ _ r1; have a5 := cell_of_row _ _ 5 _ _ _ r1; have e_0 := cell_of_row _ _ 0 _ _ _ r2; have e_1 := cell_of_row _ _ 1 _ _ _ r2; have e_2 := cell_of_row _ _ 2 _ _ _ r2; have e_3 := cell_of_row _ _ 3 _ _ _ r2; have e_4 := cell_of_row _ _ 4 _ _ _ r2; have e_5 := cell_of_row _ _ 5 _ _ _ r2
  refine wp_float [(9, 7, (.cells #[.int .i64 0, .int .i64 0, .slice none 0 0] 34))] [(0, 0), (1, 0), (3, 0), (2, 1), (4, 1), (5, 1), (6, 0), (7, 0), (8, 2)] [10, 11] [10, 11] [8] (by kernel_rfl) (by kernel_rfl) (by kernel_rfl) (fun _ _ d _ _ h => by cases d <;> exact h) (fun _ _ d _ _ h => by cases d <;> exact h) (fun x hx o ho a w => by (obtain rfl := List.mem_singleton.1 hx); (obtain rfl := Option.some.inj ho); (first | rfl | (simp [go_sem, ptrB]; done) | (go_simp; rfl))) ?_
  iterate 3 ((refine wpFp_read (v := ?_) rfl ?_ (fun w1 h1 => ?_) ?_; rotate_left 1; rfl; (obtain ⟨os1, d1, rfl⟩ := h1.more; go_simp; first | done | rfl)); try simp only [Act.put, zqA, zqB, zqC])
  (refine wpFp_eff rfl ?_ (fun wf hXf hE K hK => ?_); rfl; obtain ⟨osf, df, rfl⟩ := hXf.more; go_simp; refine (h1 _).mono ?_; rintro e w' ⟨D1, c1, rfl, hN1, hb⟩; refine hK _ _ (fun W => ArrIn W D1 1 c1 lx) (by (try simp only [more_drew, more_more]); exact hb) (fun _ _ hx h => h.ext hx) hN1.arr ?_)
  try simp only [Act.put, zqA, zqB, zqC]
  (refine wpFp_eff rfl ?_ (fun wf hXf hE K hK => ?_); rfl; obtain ⟨osf, df, rfl⟩ := hXf.more; go_simp; refine (h2 _).mono ?_; rintro e w' ⟨D2, c2, rfl, hN2, hb⟩; refine hK _ _ (fun W => ArrIn W D1 1 c1 lx ∧ ArrIn W D2 1 c2 ly) (by (try simp only [more_drew, more_more]); exact hb) (fun _ _ hx h => ⟨h.1.ext hx, h.2.ext hx⟩) ⟨hE.ext (by (try simp only [more_drew, more_more]); exact hb), hN2.arr⟩ ?_)
  try simp only [Act.put, zqA, zqB, zqC]
  (refine wpFp_eff rfl ?_ (fun wf hXf hE K hK => ?_); rfl; obtain ⟨osf, df, rfl⟩ := hXf.more; go_simp; refine (binary_yes g sb 1 1 1 1 D1 D2 1 c1 1 c2 lx ly _ (HT.out.ext (hw0.trans (by repeat (first | (with_reducible (first | exact Ext.refl _ | exact ext_d _ _ _ _ | exact ext_app _ _ _ _ _ | exact ext_app2 _ _ _ _ _ _ | exact ext_app3 _ _ _ _ _ _ _)) | ((with_reducible refine ext_suffix ⟨_, ?_⟩); (try simp only [Array.append_assoc]); rfl) | (with_reducible (first | apply Ext.drew | apply Ext.alloc | apply Ext.more_)))))) hsm HG2.out hE.1 hE.2 ⟨1, 1, [z]⟩ HG.out).mono ?_; rintro e w' ⟨D3, m3, c3, rfl, hN3, hb⟩; refine hK _ _ (fun W => ArrIn W D3 m3 c3 [z]) (by (try simp only [more_drew, more_more]); exact hb) (fun _ _ hx h => h.ext hx) hN3.arr ?_)
  try simp only [Act.put, zqA, zqB, zqC]
  iterate 2 ((refine wpFp_read (v := ?_) rfl ?_ (fun w1 h1 => ?_) ?_; rotate_left 1; rfl; (obtain ⟨os1, d1, rfl⟩ := h1.more; go_simp; first | done | rfl)); try simp only [Act.put, zqA, zqB, zqC])
  (refine wpFp_pure (v := ?_) rfl ?_ (fun w1 => ?_) ?_; rotate_left 1; rfl; (go_simp; first | done | rfl))
  try simp only [Act.put, zqA, zqB, zqC]
  refine wpFp_one fun osa da osb db hE => ?_
  try simp only [Act.put, zqA, zqB, zqC]
  iterate 2 ((refine wpTl_op rfl ?_ (fun K hK => ?_); rfl; go_simp; refine hK _ _ ?_); try simp only [Act.put, zqA, zqB, zqC])
  refine wpTl_nil ?_
  have hR := hE.box #[.int .i64 1, .int .i64 1, .slice D3 m3 c3] 34 db
  clear hE
  (try simp only [more_more, drew_more, more_drew, Array.append_assoc] at hR)
  obtain rfl : m3 = 1 := by have := hR.len; simpa using this.symm
  go_upto_region 8 with fail
  refine wp_world fun W1 hW1 => ?_; have hR1 : ArrIn W1 D3 1 c3 [z] := (by rw [hW1]; exact hR); obtain ⟨r3, hx1⟩ := one_at _ _ _ _ _ _ hW1; clear hW1 hR; have r1 := row_ext r1 hx1; have r2 := row_ext r2 hx1; have hwW := hw0.trans hx1; clear hw0 hx1; have b1 := lt_of_block r1; have b2 := lt_of_block r2; have b3 := lt_of_block r3; have a0 := cell_of_row _ _ 0 _ _ _ r1; have a1 := cell_of_row _ _ 1 _ _ _ r1; have a2 := cell_of_row _ _ 2 _ _ _ r1; have a3 := cell_of_row _ _ 3 _ _ _ r1; have a4 := cell_of_row _ _ 4 _ _ _ r1; have a5 := cell_of_row _ _ 5 _ _ _ r1; have e_0 := cell_of_row _ _ 0 _ _ _ r2; have e_1 := cell_of_row _ _ 1 _ _ _ r2; have e_2 := cell_of_row _ _ 2 _ _ _ r2; have e_3 := cell_of_row _ _ 3 _ _ _ r2; have e_4 := cell_of_row _ _ 4 _ _ _ r2; have e_5 := cell_of_row _ _ 5 _ _ _ r2; have u0 := cell_of_row _ _ 0 _ _ _ r3; have u1 := cell_of_row _ _ 1 _ _ _ r3; have u2 := cell_of_row _ _ 2 _ _ _ r3
  go_wp2_with fail
  refine (ht1 _).mono ?_; rintro e w' ⟨rfl, hb⟩; obtain ⟨os11, d11, rfl⟩ := hb.more; clear hb
  go_wp2_with fail
  refine (ht2 _).mono ?_; rintro e w' ⟨rfl, hb⟩; obtain ⟨os12, d12, rfl⟩ := hb.more; clear hb
  go_wp2_with fail
  go_ret
  exact ⟨rfl, hwW.trans (by repeat (first | (with_reducible (first | exact Ext.refl _ | exact ext_d _ _ _ _ | exact ext_app _ _ _ _ _ | exact ext_app2 _ _ _ _ _ _ | exact ext_app3 _ _ _ _ _ _ _)) | ((with_reducible refine ext_suffix ⟨_, ?_⟩); (try simp only [Array.append_assoc]); rfl) | (with_reducible (first | apply Ext.drew | apply Ext.alloc | apply Ext.more_))))⟩
set_option maxHeartbeats 2000000 in
theorem faults_n1A (g : Sg) (sb : ByteArray) (x y : Val) (w : World) (htab : Tab w) (hx : x.ok) (hy : y.ok) (rx : x.right) (ry : y.right) (hg : sgOf sb.data.toList = some g) (k1 : x.kind ≠ 4) (k2 : y.kind ≠ 4) (e1 : (sb.toList == [43]) = true) (hf : tnF x ≠ 0) :
    Calls Tryz.prog 6 #[.string sb, VV x.kind x.mant x.exp x.text x.truth x.fault, VV y.kind y.mant y.exp y.text y.truth y.fault] w fun e w' => e = .returned (.bool true) ∧ Ext w w' := by
  have g1 := fun W => refRight_any x.kind x.mant x.exp x.fault x.text x.truth W hx.2.1 hx.2.2.2.1; have g2 := fun W => refRight_any y.kind y.mant y.exp y.fault y.text y.truth W hy.2.1 hy.2.2.2.1; rw [show refRight ⟨x.kind, x.mant, x.exp, x.text, x.truth, x.fault⟩ = true from (right_eq x hx).symm.trans rx] at g1; rw [show refRight ⟨y.kind, y.mant, y.exp, y.text, y.truth, y.fault⟩ = true from (right_eq y hy).symm.trans ry] at g2
  have hA := both_one g rx ry
  have h1 := fun W => one10_any x W hx
  have h2 := fun W => one10_any y W hy
  have hlv := fun W => rlevel_yes g W
  rw [← sg_lit hg] at hlv
  have q := level_ne g
  have hsm : sb.size ≤ maxLen := by rw [sg_lit hg]; cases g <;> decide
  have HG2 := Lib.hid hg
  have HT := Lib.hid htab
  have qx : (x.kind == 4) = false := by simpa using k1
  have ht1 := fun W => rtoNum_any x W rx
  simp only [tnV] at ht1
  obtain ⟨lx, hlx⟩ : ∃ l, l = [x] := ⟨_, rfl⟩
  obtain ⟨ly, hly⟩ : ∃ l, l = [y] := ⟨_, rfl⟩
  rw [← hlx] at h1
  rw [← hly] at h2
  have qy : (y.kind == 4) = false := by simpa using k2
  have ht2 := fun W => rtoNum_any y W ry
  simp only [tnV] at ht2
  have qf : (tnF x == 0) = false := by simpa using hf
  have hA' : bothRes (opV g) 1 1 lx 1 1 ly = ⟨1, 1, [opV g x y]⟩ := by rw [hlx, hly]; exact hA
  generalize hzz : opV g x y = z at *
  have HG := Lib.hid hA'
  generalize g.level = lv at *
  clear hA hA' hlx hly hx hy rx ry k1 k2 htab hg hzz hf
  generalize tnF x = f at *
  generalize (tnP x).1 = tm at *
  generalize (tnP x).2 = te at *
  generalize tnF y = f2 at *
  generalize (tnP y).1 = tm2 at *
  generalize (tnP y).2 = te2 at *
  generalize x.kind = xk at *; generalize x.mant = xm at *; generalize x.exp = xe at *; generalize x.text = xt at *; generalize x.truth = xb at *; generalize x.fault = xf at *
  generalize y.kind = yk at *; generalize y.mant = ym at *; generalize y.exp = ye at *; generalize y.text = yt at *; generalize y.truth = yb at *; generalize y.fault = yf at *
  go_enter Tryz.func6, Tryz.ntmps6; go_wp2_with fail; refine (awake10_any _ (HT.out.ext (by repeat (first | (with_reducible (first | exact Ext.refl _ | exact ext_d _ _ _ _ | exact ext_app _ _ _ _ _ | exact ext_app2 _ _ _ _ _ _ | exact ext_app3 _ _ _ _ _ _ _)) | ((with_reducible refine ext_suffix ⟨_, ?_⟩); (try simp only [Array.append_assoc]); rfl) | (with_reducible (first | apply Ext.drew | apply Ext.alloc | apply Ext.more_)))))).mono ?_; rintro e w' ⟨rfl, hb⟩; obtain ⟨os1, d1, rfl⟩ := hb.more; clear hb; go_wp2_with fail; refine (g1 _).mono ?_; rintro e w' ⟨rfl, hb⟩; obtain ⟨os2, d2, rfl⟩ := hb.more; clear hb; go_wp2_with fail; refine (g2 _).mono ?_; rintro e w' ⟨rfl, hb⟩; obtain ⟨os3, d3, rfl⟩ := hb.more; clear hb; go_wp2_with fail; refine (hlv _).mono ?_; rintro e w' ⟨rfl, hb⟩; obtain ⟨os4, d4, rfl⟩ := hb.more; clear hb
  go_upto_region 5 with fail
  refine wp_world fun W0 hW0 => ?_; obtain ⟨r1, r2, hw0⟩ := two_at _ _ _ _ _ hW0; clear hW0; have b1 := lt_of_block r1; have b2 := lt_of_block r2; have a0 := cell_of_row _ _ 0 _ _ _ r1; have a1 := cell_of_row _ _ 1 _ _ _ r1; have a2 := cell_of_row _ _ 2 _ _ _ r1; have a3 := cell_of_row _ _ 3 _ _ _ r1; have a4 := cell_of_row _ _ 4 _ _ _ r1; have a5 := cell_of_row _ _ 5 _ _ _ r1; have e_0 := cell_of_row _ _ 0 _ _ _ r2; have e_1 := cell_of_row _ _ 1 _ _ _ r2; have e_2 := cell_of_row _ _ 2 _ _ _ r2; have e_3 := cell_of_row _ _ 3 _ _ _ r2; have e_4 := cell_of_row _ _ 4 _ _ _ r2; have e_5 := cell_of_row _ _ 5 _ _ _ r2
  refine wp_float [(9, 7, (.cells #[.int .i64 0, .int .i64 0, .slice none 0 0] 34))] [(0, 0), (1, 0), (3, 0), (2, 1), (4, 1), (5, 1), (6, 0), (7, 0), (8, 2)] [10, 11] [10, 11] [8] (by kernel_rfl) (by kernel_rfl) (by kernel_rfl) (fun _ _ d _ _ h => by cases d <;> exact h) (fun _ _ d _ _ h => by cases d <;> exact h) (fun x hx o ho a w => by (obtain rfl := List.mem_singleton.1 hx); (obtain rfl := Option.some.inj ho); (first | rfl | (simp [go_sem, ptrB]; done) | (go_simp; rfl))) ?_
  iterate 3 ((refine wpFp_read (v := ?_) rfl ?_ (fun w1 h1 => ?_) ?_; rotate_left 1; rfl; (obtain ⟨os1, d1, rfl⟩ := h1.more; go_simp; first | done | rfl)); try simp only [Act.put, zqA, zqB, zqC])
  (refine wpFp_eff rfl ?_ (fun wf hXf hE K hK => ?_); rfl; obtain ⟨osf, df, rfl⟩ := hXf.more; go_simp; refine (h1 _).mono ?_; rintro e w' ⟨D1, c1, rfl, hN1, hb⟩; refine hK _ _ (fun W => ArrIn W D1 1 c1 lx) (by (try simp only [more_drew, more_more]); exact hb) (fun _ _ hx h => h.ext hx) hN1.arr ?_)
  try simp only [Act.put, zqA, zqB, zqC]
  (refine wpFp_eff rfl ?_ (fun wf hXf hE K hK => ?_); rfl; obtain ⟨osf, df, rfl⟩ := hXf.more; go_simp; refine (h2 _).mono ?_; rintro e w' ⟨D2, c2, rfl, hN2, hb⟩; refine hK _ _ (fun W => ArrIn W D1 1 c1 lx ∧ ArrIn W D2 1 c2 ly) (by (try simp only [more_drew, more_more]); exact hb) (fun _ _ hx h => ⟨h.1.ext hx, h.2.ext hx⟩) ⟨hE.ext (by (try simp only [more_drew, more_more]); exact hb), hN2.arr⟩ ?_)
  try simp only [Act.put, zqA, zqB, zqC]
  (refine wpFp_eff rfl ?_ (fun wf hXf hE K hK => ?_); rfl; obtain ⟨osf, df, rfl⟩ := hXf.more; go_simp; refine (binary_yes g sb 1 1 1 1 D1 D2 1 c1 1 c2 lx ly _ (HT.out.ext (hw0.trans (by repeat (first | (with_reducible (first | exact Ext.refl _ | exact ext_d _ _ _ _ | exact ext_app _ _ _ _ _ | exact ext_app2 _ _ _ _ _ _ | exact ext_app3 _ _ _ _ _ _ _)) | ((with_reducible refine ext_suffix ⟨_, ?_⟩); (try simp only [Array.append_assoc]); rfl) | (with_reducible (first | apply Ext.drew | apply Ext.alloc | apply Ext.more_)))))) hsm HG2.out hE.1 hE.2 ⟨1, 1, [z]⟩ HG.out).mono ?_; rintro e w' ⟨D3, m3, c3, rfl, hN3, hb⟩; refine hK _ _ (fun W => ArrIn W D3 m3 c3 [z]) (by (try simp only [more_drew, more_more]); exact hb) (fun _ _ hx h => h.ext hx) hN3.arr ?_)
  try simp only [Act.put, zqA, zqB, zqC]
  iterate 2 ((refine wpFp_read (v := ?_) rfl ?_ (fun w1 h1 => ?_) ?_; rotate_left 1; rfl; (obtain ⟨os1, d1, rfl⟩ := h1.more; go_simp; first | done | rfl)); try simp only [Act.put, zqA, zqB, zqC])
  (refine wpFp_pure (v := ?_) rfl ?_ (fun w1 => ?_) ?_; rotate_left 1; rfl; (go_simp; first | done | rfl))
  try simp only [Act.put, zqA, zqB, zqC]
  refine wpFp_one fun osa da osb db hE => ?_
  try simp only [Act.put, zqA, zqB, zqC]
  iterate 2 ((refine wpTl_op rfl ?_ (fun K hK => ?_); rfl; go_simp; refine hK _ _ ?_); try simp only [Act.put, zqA, zqB, zqC])
  refine wpTl_nil ?_
  have hR := hE.box #[.int .i64 1, .int .i64 1, .slice D3 m3 c3] 34 db
  clear hE
  (try simp only [more_more, drew_more, more_drew, Array.append_assoc] at hR)
  obtain rfl : m3 = 1 := by have := hR.len; simpa using this.symm
  go_upto_region 8 with fail
  refine wp_world fun W1 hW1 => ?_; have hR1 : ArrIn W1 D3 1 c3 [z] := (by rw [hW1]; exact hR); obtain ⟨r3, hx1⟩ := one_at _ _ _ _ _ _ hW1; clear hW1 hR; have r1 := row_ext r1 hx1; have r2 := row_ext r2 hx1; have hwW := hw0.trans hx1; clear hw0 hx1; have b1 := lt_of_block r1; have b2 := lt_of_block r2; have b3 := lt_of_block r3; have a0 := cell_of_row _ _ 0 _ _ _ r1; have a1 := cell_of_row _ _ 1 _ _ _ r1; have a2 := cell_of_row _ _ 2 _ _ _ r1; have a3 := cell_of_row _ _ 3 _ _ _ r1; have a4 := cell_of_row _ _ 4 _ _ _ r1; have a5 := cell_of_row _ _ 5 _ _ _ r1; have e_0 := cell_of_row _ _ 0 _ _ _ r2; have e_1 := cell_of_row _ _ 1 _ _ _ r2; have e_2 := cell_of_row _ _ 2 _ _ _ r2; have e_3 := cell_of_row _ _ 3 _ _ _ r2; have e_4 := cell_of_row _ _ 4 _ _ _ r2; have e_5 := cell_of_row _ _ 5 _ _ _ r2; have u0 := cell_of_row _ _ 0 _ _ _ r3; have u1 := cell_of_row _ _ 1 _ _ _ r3; have u2 := cell_of_row _ _ 2 _ _ _ r3
  go_wp2_with fail
  refine (ht1 _).mono ?_; rintro e w' ⟨rfl, hb⟩; obtain ⟨os11, d11, rfl⟩ := hb.more; clear hb
  go_wp2_with fail
  refine (ht2 _).mono ?_; rintro e w' ⟨rfl, hb⟩; obtain ⟨os12, d12, rfl⟩ := hb.more; clear hb
  go_wp2_with fail
  go_ret
  exact ⟨rfl, hwW.trans (by repeat (first | (with_reducible (first | exact Ext.refl _ | exact ext_d _ _ _ _ | exact ext_app _ _ _ _ _ | exact ext_app2 _ _ _ _ _ _ | exact ext_app3 _ _ _ _ _ _ _)) | ((with_reducible refine ext_suffix ⟨_, ?_⟩); (try simp only [Array.append_assoc]); rfl) | (with_reducible (first | apply Ext.drew | apply Ext.alloc | apply Ext.more_))))⟩
set_option maxHeartbeats 2000000 in
theorem faults_n2A (g : Sg) (sb : ByteArray) (x y : Val) (w : World) (htab : Tab w) (hx : x.ok) (hy : y.ok) (rx : x.right) (ry : y.right) (hg : sgOf sb.data.toList = some g) (k1 : x.kind ≠ 4) (k2 : y.kind ≠ 4) (e1 : (sb.toList == [43]) = true) (hf : tnF x = 0) (hf2 : tnF y ≠ 0) :
    Calls Tryz.prog 6 #[.string sb, VV x.kind x.mant x.exp x.text x.truth x.fault, VV y.kind y.mant y.exp y.text y.truth y.fault] w fun e w' => e = .returned (.bool true) ∧ Ext w w' := by
  have g1 := fun W => refRight_any x.kind x.mant x.exp x.fault x.text x.truth W hx.2.1 hx.2.2.2.1; have g2 := fun W => refRight_any y.kind y.mant y.exp y.fault y.text y.truth W hy.2.1 hy.2.2.2.1; rw [show refRight ⟨x.kind, x.mant, x.exp, x.text, x.truth, x.fault⟩ = true from (right_eq x hx).symm.trans rx] at g1; rw [show refRight ⟨y.kind, y.mant, y.exp, y.text, y.truth, y.fault⟩ = true from (right_eq y hy).symm.trans ry] at g2
  have hA := both_one g rx ry
  have h1 := fun W => one10_any x W hx
  have h2 := fun W => one10_any y W hy
  have hlv := fun W => rlevel_yes g W
  rw [← sg_lit hg] at hlv
  have q := level_ne g
  have hsm : sb.size ≤ maxLen := by rw [sg_lit hg]; cases g <;> decide
  have HG2 := Lib.hid hg
  have HT := Lib.hid htab
  have qx : (x.kind == 4) = false := by simpa using k1
  have ht1 := fun W => rtoNum_any x W rx
  simp only [tnV] at ht1
  obtain ⟨lx, hlx⟩ : ∃ l, l = [x] := ⟨_, rfl⟩
  obtain ⟨ly, hly⟩ : ∃ l, l = [y] := ⟨_, rfl⟩
  rw [← hlx] at h1
  rw [← hly] at h2
  have qy : (y.kind == 4) = false := by simpa using k2
  have ht2 := fun W => rtoNum_any y W ry
  simp only [tnV] at ht2
  have qf : (tnF x == 0) = true := by simpa using hf
  have qf2 : (tnF y == 0) = false := by simpa using hf2
  have hA' : bothRes (opV g) 1 1 lx 1 1 ly = ⟨1, 1, [opV g x y]⟩ := by rw [hlx, hly]; exact hA
  generalize hzz : opV g x y = z at *
  have HG := Lib.hid hA'
  generalize g.level = lv at *
  clear hA hA' hlx hly hx hy rx ry k1 k2 htab hg hzz hf hf2
  generalize tnF x = f at *
  generalize (tnP x).1 = tm at *
  generalize (tnP x).2 = te at *
  generalize tnF y = f2 at *
  generalize (tnP y).1 = tm2 at *
  generalize (tnP y).2 = te2 at *
  generalize x.kind = xk at *; generalize x.mant = xm at *; generalize x.exp = xe at *; generalize x.text = xt at *; generalize x.truth = xb at *; generalize x.fault = xf at *
  generalize y.kind = yk at *; generalize y.mant = ym at *; generalize y.exp = ye at *; generalize y.text = yt at *; generalize y.truth = yb at *; generalize y.fault = yf at *
  go_enter Tryz.func6, Tryz.ntmps6; go_wp2_with fail; refine (awake10_any _ (HT.out.ext (by repeat (first | (with_reducible (first | exact Ext.refl _ | exact ext_d _ _ _ _ | exact ext_app _ _ _ _ _ | exact ext_app2 _ _ _ _ _ _ | exact ext_app3 _ _ _ _ _ _ _)) | ((with_reducible refine ext_suffix ⟨_, ?_⟩); (try simp only [Array.append_assoc]); rfl) | (with_reducible (first | apply Ext.drew | apply Ext.alloc | apply Ext.more_)))))).mono ?_; rintro e w' ⟨rfl, hb⟩; obtain ⟨os1, d1, rfl⟩ := hb.more; clear hb; go_wp2_with fail; refine (g1 _).mono ?_; rintro e w' ⟨rfl, hb⟩; obtain ⟨os2, d2, rfl⟩ := hb.more; clear hb; go_wp2_with fail; refine (g2 _).mono ?_; rintro e w' ⟨rfl, hb⟩; obtain ⟨os3, d3, rfl⟩ := hb.more; clear hb; go_wp2_with fail; refine (hlv _).mono ?_; rintro e w' ⟨rfl, hb⟩; obtain ⟨os4, d4, rfl⟩ := hb.more; clear hb
  go_upto_region 5 with fail
  refine wp_world fun W0 hW0 => ?_; obtain ⟨r1, r2, hw0⟩ := two_at _ _ _ _ _ hW0; clear hW0; have b1 := lt_of_block r1; have b2 := lt_of_block r2; have a0 := cell_of_row _ _ 0 _ _ _ r1; have a1 := cell_of_row _ _ 1 _ _ _ r1; have a2 := cell_of_row _ _ 2 _ _ _ r1; have a3 := cell_of_row _ _ 3 _ _ _ r1; have a4 := cell_of_row _ _ 4 _ _ _ r1; have a5 := cell_of_row _ _ 5 _ _ _ r1; have e_0 := cell_of_row _ _ 0 _ _ _ r2; have e_1 := cell_of_row _ _ 1 _ _ _ r2; have e_2 := cell_of_row _ _ 2 _ _ _ r2; have e_3 := cell_of_row _ _ 3 _ _ _ r2; have e_4 := cell_of_row _ _ 4 _ _ _ r2; have e_5 := cell_of_row _ _ 5 _ _ _ r2
  refine wp_float [(9, 7, (.cells #[.int .i64 0, .int .i64 0, .slice none 0 0] 34))] [(0, 0), (1, 0), (3, 0), (2, 1), (4, 1), (5, 1), (6, 0), (7, 0), (8, 2)] [10, 11] [10, 11] [8] (by kernel_rfl) (by kernel_rfl) (by kernel_rfl) (fun _ _ d _ _ h => by cases d <;> exact h) (fun _ _ d _ _ h => by cases d <;> exact h) (fun x hx o ho a w => by (obtain rfl := List.mem_singleton.1 hx); (obtain rfl := Option.some.inj ho); (first | rfl | (simp [go_sem, ptrB]; done) | (go_simp; rfl))) ?_
  iterate 3 ((refine wpFp_read (v := ?_) rfl ?_ (fun w1 h1 => ?_) ?_; rotate_left 1; rfl; (obtain ⟨os1, d1, rfl⟩ := h1.more; go_simp; first | done | rfl)); try simp only [Act.put, zqA, zqB, zqC])
  (refine wpFp_eff rfl ?_ (fun wf hXf hE K hK => ?_); rfl; obtain ⟨osf, df, rfl⟩ := hXf.more; go_simp; refine (h1 _).mono ?_; rintro e w' ⟨D1, c1, rfl, hN1, hb⟩; refine hK _ _ (fun W => ArrIn W D1 1 c1 lx) (by (try simp only [more_drew, more_more]); exact hb) (fun _ _ hx h => h.ext hx) hN1.arr ?_)
  try simp only [Act.put, zqA, zqB, zqC]
  (refine wpFp_eff rfl ?_ (fun wf hXf hE K hK => ?_); rfl; obtain ⟨osf, df, rfl⟩ := hXf.more; go_simp; refine (h2 _).mono ?_; rintro e w' ⟨D2, c2, rfl, hN2, hb⟩; refine hK _ _ (fun W => ArrIn W D1 1 c1 lx ∧ ArrIn W D2 1 c2 ly) (by (try simp only [more_drew, more_more]); exact hb) (fun _ _ hx h => ⟨h.1.ext hx, h.2.ext hx⟩) ⟨hE.ext (by (try simp only [more_drew, more_more]); exact hb), hN2.arr⟩ ?_)
  try simp only [Act.put, zqA, zqB, zqC]
  (refine wpFp_eff rfl ?_ (fun wf hXf hE K hK => ?_); rfl; obtain ⟨osf, df, rfl⟩ := hXf.more; go_simp; refine (binary_yes g sb 1 1 1 1 D1 D2 1 c1 1 c2 lx ly _ (HT.out.ext (hw0.trans (by repeat (first | (with_reducible (first | exact Ext.refl _ | exact ext_d _ _ _ _ | exact ext_app _ _ _ _ _ | exact ext_app2 _ _ _ _ _ _ | exact ext_app3 _ _ _ _ _ _ _)) | ((with_reducible refine ext_suffix ⟨_, ?_⟩); (try simp only [Array.append_assoc]); rfl) | (with_reducible (first | apply Ext.drew | apply Ext.alloc | apply Ext.more_)))))) hsm HG2.out hE.1 hE.2 ⟨1, 1, [z]⟩ HG.out).mono ?_; rintro e w' ⟨D3, m3, c3, rfl, hN3, hb⟩; refine hK _ _ (fun W => ArrIn W D3 m3 c3 [z]) (by (try simp only [more_drew, more_more]); exact hb) (fun _ _ hx h => h.ext hx) hN3.arr ?_)
  try simp only [Act.put, zqA, zqB, zqC]
  iterate 2 ((refine wpFp_read (v := ?_) rfl ?_ (fun w1 h1 => ?_) ?_; rotate_left 1; rfl; (obtain ⟨os1, d1, rfl⟩ := h1.more; go_simp; first | done | rfl)); try simp only [Act.put, zqA, zqB, zqC])
  (refine wpFp_pure (v := ?_) rfl ?_ (fun w1 => ?_) ?_; rotate_left 1; rfl; (go_simp; first | done | rfl))
  try simp only [Act.put, zqA, zqB, zqC]
  refine wpFp_one fun osa da osb db hE => ?_
  try simp only [Act.put, zqA, zqB, zqC]
  iterate 2 ((refine wpTl_op rfl ?_ (fun K hK => ?_); rfl; go_simp; refine hK _ _ ?_); try simp only [Act.put, zqA, zqB, zqC])
  refine wpTl_nil ?_
  have hR := hE.box #[.int .i64 1, .int .i64 1, .slice D3 m3 c3] 34 db
  clear hE
  (try simp only [more_more, drew_more, more_drew, Array.append_assoc] at hR)
  obtain rfl : m3 = 1 := by have := hR.len; simpa using this.symm
  go_upto_region 8 with fail
  refine wp_world fun W1 hW1 => ?_; have hR1 : ArrIn W1 D3 1 c3 [z] := (by rw [hW1]; exact hR); obtain ⟨r3, hx1⟩ := one_at _ _ _ _ _ _ hW1; clear hW1 hR; have r1 := row_ext r1 hx1; have r2 := row_ext r2 hx1; have hwW := hw0.trans hx1; clear hw0 hx1; have b1 := lt_of_block r1; have b2 := lt_of_block r2; have b3 := lt_of_block r3; have a0 := cell_of_row _ _ 0 _ _ _ r1; have a1 := cell_of_row _ _ 1 _ _ _ r1; have a2 := cell_of_row _ _ 2 _ _ _ r1; have a3 := cell_of_row _ _ 3 _ _ _ r1; have a4 := cell_of_row _ _ 4 _ _ _ r1; have a5 := cell_of_row _ _ 5 _ _ _ r1; have e_0 := cell_of_row _ _ 0 _ _ _ r2; have e_1 := cell_of_row _ _ 1 _ _ _ r2; have e_2 := cell_of_row _ _ 2 _ _ _ r2; have e_3 := cell_of_row _ _ 3 _ _ _ r2; have e_4 := cell_of_row _ _ 4 _ _ _ r2; have e_5 := cell_of_row _ _ 5 _ _ _ r2; have u0 := cell_of_row _ _ 0 _ _ _ r3; have u1 := cell_of_row _ _ 1 _ _ _ r3; have u2 := cell_of_row _ _ 2 _ _ _ r3
  go_wp2_with fail
  refine (ht1 _).mono ?_; rintro e w' ⟨rfl, hb⟩; obtain ⟨os11, d11, rfl⟩ := hb.more; clear hb
  go_wp2_with fail
  refine (ht2 _).mono ?_; rintro e w' ⟨rfl, hb⟩; obtain ⟨os12, d12, rfl⟩ := hb.more; clear hb
  go_wp2_with fail
  go_ret
  exact ⟨rfl, hwW.trans (by repeat (first | (with_reducible (first | exact Ext.refl _ | exact ext_d _ _ _ _ | exact ext_app _ _ _ _ _ | exact ext_app2 _ _ _ _ _ _ | exact ext_app3 _ _ _ _ _ _ _)) | ((with_reducible refine ext_suffix ⟨_, ?_⟩); (try simp only [Array.append_assoc]); rfl) | (with_reducible (first | apply Ext.drew | apply Ext.alloc | apply Ext.more_))))⟩
set_option maxHeartbeats 2000000 in
theorem faults_n3A (g : Sg) (sb : ByteArray) (x y : Val) (w : World) (htab : Tab w) (hx : x.ok) (hy : y.ok) (rx : x.right) (ry : y.right) (hg : sgOf sb.data.toList = some g) (k1 : x.kind ≠ 4) (k2 : y.kind ≠ 4) (e1 : (sb.toList == [43]) = true) (hsw : g = .add ∨ g = .mul) (hf : tnF x = 0) (hf2 : tnF y = 0) :
    Calls Tryz.prog 6 #[.string sb, VV x.kind x.mant x.exp x.text x.truth x.fault, VV y.kind y.mant y.exp y.text y.truth y.fault] w fun e w' => e = .returned (.bool true) ∧ Ext w w' := by
  have g1 := fun W => refRight_any x.kind x.mant x.exp x.fault x.text x.truth W hx.2.1 hx.2.2.2.1; have g2 := fun W => refRight_any y.kind y.mant y.exp y.fault y.text y.truth W hy.2.1 hy.2.2.2.1; rw [show refRight ⟨x.kind, x.mant, x.exp, x.text, x.truth, x.fault⟩ = true from (right_eq x hx).symm.trans rx] at g1; rw [show refRight ⟨y.kind, y.mant, y.exp, y.text, y.truth, y.fault⟩ = true from (right_eq y hy).symm.trans ry] at g2
  have hA := both_one g rx ry
  have h1 := fun W => one10_any x W hx
  have h2 := fun W => one10_any y W hy
  have hlv := fun W => rlevel_yes g W
  rw [← sg_lit hg] at hlv
  have q := level_ne g
  have hsm : sb.size ≤ maxLen := by rw [sg_lit hg]; cases g <;> decide
  have HG2 := Lib.hid hg
  have HT := Lib.hid htab
  have qx : (x.kind == 4) = false := by simpa using k1
  have ht1 := fun W => rtoNum_any x W rx
  simp only [tnV] at ht1
  obtain ⟨lx, hlx⟩ : ∃ l, l = [x] := ⟨_, rfl⟩
  obtain ⟨ly, hly⟩ : ∃ l, l = [y] := ⟨_, rfl⟩
  rw [← hlx] at h1
  rw [← hly] at h2
  have qy : (y.kind == 4) = false := by simpa using k2
  have ht2 := fun W => rtoNum_any y W ry
  simp only [tnV] at ht2
  have qf : (tnF x == 0) = true := by simpa using hf
  have qf2 : (tnF y == 0) = true := by simpa using hf2
  have hB : bothRes (opV g) 1 1 ly 1 1 lx = ⟨1, 1, [opV g x y]⟩ := by rw [hlx, hly, both_one g ry rx, op_swap hsw hf hf2]
  have hA' : bothRes (opV g) 1 1 lx 1 1 ly = ⟨1, 1, [opV g x y]⟩ := by rw [hlx, hly]; exact hA
  generalize hzz : opV g x y = z at *
  have HG := Lib.hid hA'
  have HG3 := Lib.hid hB
  generalize g.level = lv at *
  clear hA hA' hlx hly hx hy rx ry k1 k2 htab hg hzz hB hf hf2 hsw
  generalize tnF x = f at *
  generalize (tnP x).1 = tm at *
  generalize (tnP x).2 = te at *
  generalize tnF y = f2 at *
  generalize (tnP y).1 = tm2 at *
  generalize (tnP y).2 = te2 at *
  generalize x.kind = xk at *; generalize x.mant = xm at *; generalize x.exp = xe at *; generalize x.text = xt at *; generalize x.truth = xb at *; generalize x.fault = xf at *
  generalize y.kind = yk at *; generalize y.mant = ym at *; generalize y.exp = ye at *; generalize y.text = yt at *; generalize y.truth = yb at *; generalize y.fault = yf at *
  go_enter Tryz.func6, Tryz.ntmps6; go_wp2_with fail; refine (awake10_any _ (HT.out.ext (by repeat (first | (with_reducible (first | exact Ext.refl _ | exact ext_d _ _ _ _ | exact ext_app _ _ _ _ _ | exact ext_app2 _ _ _ _ _ _ | exact ext_app3 _ _ _ _ _ _ _)) | ((with_reducible refine ext_suffix ⟨_, ?_⟩); (try simp only [Array.append_assoc]); rfl) | (with_reducible (first | apply Ext.drew | apply Ext.alloc | apply Ext.more_)))))).mono ?_; rintro e w' ⟨rfl, hb⟩; obtain ⟨os1, d1, rfl⟩ := hb.more; clear hb; go_wp2_with fail; refine (g1 _).mono ?_; rintro e w' ⟨rfl, hb⟩; obtain ⟨os2, d2, rfl⟩ := hb.more; clear hb; go_wp2_with fail; refine (g2 _).mono ?_; rintro e w' ⟨rfl, hb⟩; obtain ⟨os3, d3, rfl⟩ := hb.more; clear hb; go_wp2_with fail; refine (hlv _).mono ?_; rintro e w' ⟨rfl, hb⟩; obtain ⟨os4, d4, rfl⟩ := hb.more; clear hb
  go_upto_region 5 with fail
  refine wp_world fun W0 hW0 => ?_; obtain ⟨r1, r2, hw0⟩ := two_at _ _ _ _ _ hW0; clear hW0; have b1 := lt_of_block r1; have b2 := lt_of_block r2; have a0 := cell_of_row _ _ 0 _ _ _ r1; have a1 := cell_of_row _ _ 1 _ _ _ r1; have a2 := cell_of_row _ _ 2 _ _ _ r1; have a3 := cell_of_row _ _ 3 _ _ _ r1; have a4 := cell_of_row _ _ 4 _ _ _ r1; have a5 := cell_of_row _ _ 5 _ _ _ r1; have e_0 := cell_of_row _ _ 0 _ _ _ r2; have e_1 := cell_of_row _ _ 1 _ _ _ r2; have e_2 := cell_of_row _ _ 2 _ _ _ r2; have e_3 := cell_of_row _ _ 3 _ _ _ r2; have e_4 := cell_of_row _ _ 4 _ _ _ r2; have e_5 := cell_of_row _ _ 5 _ _ _ r2
  refine wp_float [(9, 7, (.cells #[.int .i64 0, .int .i64 0, .slice none 0 0] 34))] [(0, 0), (1, 0), (3, 0), (2, 1), (4, 1), (5, 1), (6, 0), (7, 0), (8, 2)] [10, 11] [10, 11] [8] (by kernel_rfl) (by kernel_rfl) (by kernel_rfl) (fun _ _ d _ _ h => by cases d <;> exact h) (fun _ _ d _ _ h => by cases d <;> exact h) (fun x hx o ho a w => by (obtain rfl := List.mem_singleton.1 hx); (obtain rfl := Option.some.inj ho); (first | rfl | (simp [go_sem, ptrB]; done) | (go_simp; rfl))) ?_
  iterate 3 ((refine wpFp_read (v := ?_) rfl ?_ (fun w1 h1 => ?_) ?_; rotate_left 1; rfl; (obtain ⟨os1, d1, rfl⟩ := h1.more; go_simp; first | done | rfl)); try simp only [Act.put, zqA, zqB, zqC])
  (refine wpFp_eff rfl ?_ (fun wf hXf hE K hK => ?_); rfl; obtain ⟨osf, df, rfl⟩ := hXf.more; go_simp; refine (h1 _).mono ?_; rintro e w' ⟨D1, c1, rfl, hN1, hb⟩; refine hK _ _ (fun W => ArrIn W D1 1 c1 lx) (by (try simp only [more_drew, more_more]); exact hb) (fun _ _ hx h => h.ext hx) hN1.arr ?_)
  try simp only [Act.put, zqA, zqB, zqC]
  (refine wpFp_eff rfl ?_ (fun wf hXf hE K hK => ?_); rfl; obtain ⟨osf, df, rfl⟩ := hXf.more; go_simp; refine (h2 _).mono ?_; rintro e w' ⟨D2, c2, rfl, hN2, hb⟩; refine hK _ _ (fun W => ArrIn W D1 1 c1 lx ∧ ArrIn W D2 1 c2 ly) (by (try simp only [more_drew, more_more]); exact hb) (fun _ _ hx h => ⟨h.1.ext hx, h.2.ext hx⟩) ⟨hE.ext (by (try simp only [more_drew, more_more]); exact hb), hN2.arr⟩ ?_)
  try simp only [Act.put, zqA, zqB, zqC]
  (refine wpFp_eff rfl ?_ (fun wf hXf hE K hK => ?_); rfl; obtain ⟨osf, df, rfl⟩ := hXf.more; go_simp; refine (binary_yes g sb 1 1 1 1 D1 D2 1 c1 1 c2 lx ly _ (HT.out.ext (hw0.trans (by repeat (first | (with_reducible (first | exact Ext.refl _ | exact ext_d _ _ _ _ | exact ext_app _ _ _ _ _ | exact ext_app2 _ _ _ _ _ _ | exact ext_app3 _ _ _ _ _ _ _)) | ((with_reducible refine ext_suffix ⟨_, ?_⟩); (try simp only [Array.append_assoc]); rfl) | (with_reducible (first | apply Ext.drew | apply Ext.alloc | apply Ext.more_)))))) hsm HG2.out hE.1 hE.2 ⟨1, 1, [z]⟩ HG.out).mono ?_; rintro e w' ⟨D3, m3, c3, rfl, hN3, hb⟩; refine hK _ _ (fun W => ArrIn W D3 m3 c3 [z]) (by (try simp only [more_drew, more_more]); exact hb) (fun _ _ hx h => h.ext hx) hN3.arr ?_)
  try simp only [Act.put, zqA, zqB, zqC]
  iterate 2 ((refine wpFp_read (v := ?_) rfl ?_ (fun w1 h1 => ?_) ?_; rotate_left 1; rfl; (obtain ⟨os1, d1, rfl⟩ := h1.more; go_simp; first | done | rfl)); try simp only [Act.put, zqA, zqB, zqC])
  (refine wpFp_pure (v := ?_) rfl ?_ (fun w1 => ?_) ?_; rotate_left 1; rfl; (go_simp; first | done | rfl))
  try simp only [Act.put, zqA, zqB, zqC]
  refine wpFp_one fun osa da osb db hE => ?_
  try simp only [Act.put, zqA, zqB, zqC]
  iterate 2 ((refine wpTl_op rfl ?_ (fun K hK => ?_); rfl; go_simp; refine hK _ _ ?_); try simp only [Act.put, zqA, zqB, zqC])
  refine wpTl_nil ?_
  have hR := hE.box #[.int .i64 1, .int .i64 1, .slice D3 m3 c3] 34 db
  clear hE
  (try simp only [more_more, drew_more, more_drew, Array.append_assoc] at hR)
  obtain rfl : m3 = 1 := by have := hR.len; simpa using this.symm
  go_upto_region 8 with fail
  refine wp_world fun W1 hW1 => ?_; have hR1 : ArrIn W1 D3 1 c3 [z] := (by rw [hW1]; exact hR); obtain ⟨r3, hx1⟩ := one_at _ _ _ _ _ _ hW1; clear hW1 hR; have r1 := row_ext r1 hx1; have r2 := row_ext r2 hx1; have hwW := hw0.trans hx1; clear hw0 hx1; have b1 := lt_of_block r1; have b2 := lt_of_block r2; have b3 := lt_of_block r3; have a0 := cell_of_row _ _ 0 _ _ _ r1; have a1 := cell_of_row _ _ 1 _ _ _ r1; have a2 := cell_of_row _ _ 2 _ _ _ r1; have a3 := cell_of_row _ _ 3 _ _ _ r1; have a4 := cell_of_row _ _ 4 _ _ _ r1; have a5 := cell_of_row _ _ 5 _ _ _ r1; have e_0 := cell_of_row _ _ 0 _ _ _ r2; have e_1 := cell_of_row _ _ 1 _ _ _ r2; have e_2 := cell_of_row _ _ 2 _ _ _ r2; have e_3 := cell_of_row _ _ 3 _ _ _ r2; have e_4 := cell_of_row _ _ 4 _ _ _ r2; have e_5 := cell_of_row _ _ 5 _ _ _ r2; have u0 := cell_of_row _ _ 0 _ _ _ r3; have u1 := cell_of_row _ _ 1 _ _ _ r3; have u2 := cell_of_row _ _ 2 _ _ _ r3
  go_wp2_with fail
  refine (ht1 _).mono ?_; rintro e w' ⟨rfl, hb⟩; obtain ⟨os11, d11, rfl⟩ := hb.more; clear hb
  go_wp2_with fail
  refine (ht2 _).mono ?_; rintro e w' ⟨rfl, hb⟩; obtain ⟨os12, d12, rfl⟩ := hb.more; clear hb
  have hs1 : sameA 1 1 [z] 1 1 [z] = true := by simp [sameA]
  go_upto_region 17 with fail
  refine wp_world fun W2 hW2 => ?_
  have hx2 : Ext W1 W2 := by rw [hW2]; exact by repeat (first | (with_reducible (first | exact Ext.refl _ | exact ext_d _ _ _ _ | exact ext_app _ _ _ _ _ | exact ext_app2 _ _ _ _ _ _ | exact ext_app3 _ _ _ _ _ _ _)) | ((with_reducible refine ext_suffix ⟨_, ?_⟩); (try simp only [Array.append_assoc]); rfl) | (with_reducible (first | apply Ext.drew | apply Ext.alloc | apply Ext.more_)))
  clear hW2
  have r1 := row_ext r1 hx2
  have r2 := row_ext r2 hx2
  have r3 := row_ext r3 hx2
  have hR2 := hR1.ext hx2
  have hwW := hwW.trans hx2
  clear a0 a1 a2 a3 a4 a5 e_0 e_1 e_2 e_3 e_4 e_5 u0 u1 u2 hR1 hx2
  have b1 := lt_of_block r1
  have b2 := lt_of_block r2
  have b3 := lt_of_block r3
  have a0 := cell_of_row _ _ 0 _ _ _ r1; have a1 := cell_of_row _ _ 1 _ _ _ r1; have a2 := cell_of_row _ _ 2 _ _ _ r1; have a3 := cell_of_row _ _ 3 _ _ _ r1; have a4 := cell_of_row _ _ 4 _ _ _ r1; have a5 := cell_of_row _ _ 5 _ _ _ r1
  have e_0 := cell_of_row _ _ 0 _ _ _ r2; have e_1 := cell_of_row _ _ 1 _ _ _ r2; have e_2 := cell_of_row _ _ 2 _ _ _ r2; have e_3 := cell_of_row _ _ 3 _ _ _ r2; have e_4 := cell_of_row _ _ 4 _ _ _ r2; have e_5 := cell_of_row _ _ 5 _ _ _ r2
  have u0 := cell_of_row _ _ 0 _ _ _ r3; have u1 := cell_of_row _ _ 1 _ _ _ r3; have u2 := cell_of_row _ _ 2 _ _ _ r3
  refine wp_float [(9, 13, (.cells #[.int .i64 0, .int .i64 0, .slice none 0 0] 34))] [(0, 0), (1, 0), (3, 0), (2, 1), (4, 1), (5, 1), (6, 0), (7, 0), (8, 2)] [10, 11] [10, 11] [8] (by kernel_rfl) (by kernel_rfl) (by kernel_rfl) (fun _ _ d _ _ h => by cases d <;> exact h) (fun _ _ d _ _ h => by cases d <;> exact h) (fun x hx o ho a w => by (obtain rfl := List.mem_singleton.1 hx); (obtain rfl := Option.some.inj ho); (first | rfl | (simp [go_sem, ptrB]; done) | (go_simp; rfl))) ?_
  iterate 3 ((refine wpFp_read (v := ?_) rfl ?_ (fun w1 h1 => ?_) ?_; rotate_left 1; rfl; (obtain ⟨os1, d1, rfl⟩ := h1.more; go_simp; first | done | rfl)); try simp only [Act.put, zqA, zqB, zqC])
  (refine wpFp_eff rfl ?_ (fun wf hXf hE K hK => ?_); rfl; obtain ⟨osf, df, rfl⟩ := hXf.more; go_simp; refine (h2 _).mono ?_; rintro e w' ⟨D1, c1, rfl, hN1, hb⟩; refine hK _ _ (fun W => ArrIn W D1 1 c1 ly) (by (try simp only [more_drew, more_more]); exact hb) (fun _ _ hx h => h.ext hx) hN1.arr ?_)
  try simp only [Act.put, zqA, zqB, zqC]
  (refine wpFp_eff rfl ?_ (fun wf hXf hE K hK => ?_); rfl; obtain ⟨osf, df, rfl⟩ := hXf.more; go_simp; refine (h1 _).mono ?_; rintro e w' ⟨D2, c2, rfl, hN2, hb⟩; refine hK _ _ (fun W => ArrIn W D1 1 c1 ly ∧ ArrIn W D2 1 c2 lx) (by (try simp only [more_drew, more_more]); exact hb) (fun _ _ hx h => ⟨h.1.ext hx, h.2.ext hx⟩) ⟨hE.ext (by (try simp only [more_drew, more_more]); exact hb), hN2.arr⟩ ?_)
  try simp only [Act.put, zqA, zqB, zqC]
  (refine wpFp_eff rfl ?_ (fun wf hXf hE K hK => ?_); rfl; obtain ⟨osf, df, rfl⟩ := hXf.more; go_simp; refine (binary_yes g sb 1 1 1 1 D1 D2 1 c1 1 c2 ly lx _ (HT.out.ext (hwW.trans (by repeat (first | (with_reducible (first | exact Ext.refl _ | exact ext_d _ _ _ _ | exact ext_app _ _ _ _ _ | exact ext_app2 _ _ _ _ _ _ | exact ext_app3 _ _ _ _ _ _ _)) | ((with_reducible refine ext_suffix ⟨_, ?_⟩); (try simp only [Array.append_assoc]); rfl) | (with_reducible (first | apply Ext.drew | apply Ext.alloc | apply Ext.more_)))))) hsm HG2.out hE.1 hE.2 ⟨1, 1, [z]⟩ HG3.out).mono ?_; rintro e w' ⟨D6, m6, c6, rfl, hN3, hb⟩; refine hK _ _ (fun W => ArrIn W D6 m6 c6 [z]) (by (try simp only [more_drew, more_more]); exact hb) (fun _ _ hx h => h.ext hx) hN3.arr ?_)
  try simp only [Act.put, zqA, zqB, zqC]
  iterate 2 ((refine wpFp_read (v := ?_) rfl ?_ (fun w1 h1 => ?_) ?_; rotate_left 1; rfl; (obtain ⟨os1, d1, rfl⟩ := h1.more; go_simp; first | done | rfl)); try simp only [Act.put, zqA, zqB, zqC])
  (refine wpFp_pure (v := ?_) rfl ?_ (fun w1 => ?_) ?_; rotate_left 1; rfl; (go_simp; first | done | rfl))
  try simp only [Act.put, zqA, zqB, zqC]
  refine wpFp_one fun osa da osb db hE => ?_
  try simp only [Act.put, zqA, zqB, zqC]
  iterate 2 ((refine wpTl_op rfl ?_ (fun K hK => ?_); rfl; go_simp; refine hK _ _ ?_); try simp only [Act.put, zqA, zqB, zqC])
  refine wpTl_nil ?_
  have hR6 := hE.box #[.int .i64 1, .int .i64 1, .slice D6 m6 c6] 34 db
  clear hE
  (try simp only [more_more, drew_more, more_drew, Array.append_assoc] at hR6)
  obtain rfl : m6 = 1 := by have := hR6.len; simpa using this.symm
  go_wp2_with fail
  refine (refSame_any _ _ _ _ _ _ _ _ _ _ [z] [z] _ (hR2.ext (by repeat (first | (with_reducible (first | exact Ext.refl _ | exact ext_d _ _ _ _ | exact ext_app _ _ _ _ _ | exact ext_app2 _ _ _ _ _ _ | exact ext_app3 _ _ _ _ _ _ _)) | ((with_reducible refine ext_suffix ⟨_, ?_⟩); (try simp only [Array.append_assoc]); rfl) | (with_reducible (first | apply Ext.drew | apply Ext.alloc | apply Ext.more_))))) hR6).mono ?_; rintro e w' ⟨rfl, hb⟩; obtain ⟨os20, d20, rfl⟩ := hb.more; clear hb
  go_wp2_with fail
  go_ret
  exact ⟨rfl, hwW.trans (by repeat (first | (with_reducible (first | exact Ext.refl _ | exact ext_d _ _ _ _ | exact ext_app _ _ _ _ _ | exact ext_app2 _ _ _ _ _ _ | exact ext_app3 _ _ _ _ _ _ _)) | ((with_reducible refine ext_suffix ⟨_, ?_⟩); (try simp only [Array.append_assoc]); rfl) | (with_reducible (first | apply Ext.drew | apply Ext.alloc | apply Ext.more_))))⟩
set_option maxHeartbeats 2000000 in
theorem faults_n1M (g : Sg) (sb : ByteArray) (x y : Val) (w : World) (htab : Tab w) (hx : x.ok) (hy : y.ok) (rx : x.right) (ry : y.right) (hg : sgOf sb.data.toList = some g) (k1 : x.kind ≠ 4) (k2 : y.kind ≠ 4) (e1 : (sb.toList == [43]) = false) (e2 : (sb.toList == [42]) = true) (hf : tnF x ≠ 0) :
    Calls Tryz.prog 6 #[.string sb, VV x.kind x.mant x.exp x.text x.truth x.fault, VV y.kind y.mant y.exp y.text y.truth y.fault] w fun e w' => e = .returned (.bool true) ∧ Ext w w' := by
  have g1 := fun W => refRight_any x.kind x.mant x.exp x.fault x.text x.truth W hx.2.1 hx.2.2.2.1; have g2 := fun W => refRight_any y.kind y.mant y.exp y.fault y.text y.truth W hy.2.1 hy.2.2.2.1; rw [show refRight ⟨x.kind, x.mant, x.exp, x.text, x.truth, x.fault⟩ = true from (right_eq x hx).symm.trans rx] at g1; rw [show refRight ⟨y.kind, y.mant, y.exp, y.text, y.truth, y.fault⟩ = true from (right_eq y hy).symm.trans ry] at g2
  have hA := both_one g rx ry
  have h1 := fun W => one10_any x W hx
  have h2 := fun W => one10_any y W hy
  have hlv := fun W => rlevel_yes g W
  rw [← sg_lit hg] at hlv
  have q := level_ne g
  have hsm : sb.size ≤ maxLen := by rw [sg_lit hg]; cases g <;> decide
  have HG2 := Lib.hid hg
  have HT := Lib.hid htab
  have qx : (x.kind == 4) = false := by simpa using k1
  have ht1 := fun W => rtoNum_any x W rx
  simp only [tnV] at ht1
  obtain ⟨lx, hlx⟩ : ∃ l, l = [x] := ⟨_, rfl⟩
  obtain ⟨ly, hly⟩ : ∃ l, l = [y] := ⟨_, rfl⟩
  rw [← hlx] at h1
  rw [← hly] at h2
  have qy : (y.kind == 4) = false := by simpa using k2
  have ht2 := fun W => rtoNum_any y W ry
  simp only [tnV] at ht2
  have qf : (tnF x == 0) = false := by simpa using hf
  have hA' : bothRes (opV g) 1 1 lx 1 1 ly = ⟨1, 1, [opV g x y]⟩ := by rw [hlx, hly]; exact hA
  generalize hzz : opV g x y = z at *
  have HG := Lib.hid hA'
  generalize g.level = lv at *
  clear hA hA' hlx hly hx hy rx ry k1 k2 htab hg hzz hf
  generalize tnF x = f at *
  generalize (tnP x).1 = tm at *
  generalize (tnP x).2 = te at *
  generalize tnF y = f2 at *
  generalize (tnP y).1 = tm2 at *
  generalize (tnP y).2 = te2 at *
  generalize x.kind = xk at *; generalize x.mant = xm at *; generalize x.exp = xe at *; generalize x.text = xt at *; generalize x.truth = xb at *; generalize x.fault = xf at *
  generalize y.kind = yk at *; generalize y.mant = ym at *; generalize y.exp = ye at *; generalize y.text = yt at *; generalize y.truth = yb at *; generalize y.fault = yf at *
  go_enter Tryz.func6, Tryz.ntmps6; go_wp2_with fail; refine (awake10_any _ (HT.out.ext (by repeat (first | (with_reducible (first | exact Ext.refl _ | exact ext_d _ _ _ _ | exact ext_app _ _ _ _ _ | exact ext_app2 _ _ _ _ _ _ | exact ext_app3 _ _ _ _ _ _ _)) | ((with_reducible refine ext_suffix ⟨_, ?_⟩); (try simp only [Array.append_assoc]); rfl) | (with_reducible (first | apply Ext.drew | apply Ext.alloc | apply Ext.more_)))))).mono ?_; rintro e w' ⟨rfl, hb⟩; obtain ⟨os1, d1, rfl⟩ := hb.more; clear hb; go_wp2_with fail; refine (g1 _).mono ?_; rintro e w' ⟨rfl, hb⟩; obtain ⟨os2, d2, rfl⟩ := hb.more; clear hb; go_wp2_with fail; refine (g2 _).mono ?_; rintro e w' ⟨rfl, hb⟩; obtain ⟨os3, d3, rfl⟩ := hb.more; clear hb; go_wp2_with fail; refine (hlv _).mono ?_; rintro e w' ⟨rfl, hb⟩; obtain ⟨os4, d4, rfl⟩ := hb.more; clear hb
  go_upto_region 5 with fail
  refine wp_world fun W0 hW0 => ?_; obtain ⟨r1, r2, hw0⟩ := two_at _ _ _ _ _ hW0; clear hW0; have b1 := lt_of_block r1; have b2 := lt_of_block r2; have a0 := cell_of_row _ _ 0 _ _ _ r1; have a1 := cell_of_row _ _ 1 _ _ _ r1; have a2 := cell_of_row _ _ 2 _ _ _ r1; have a3 := cell_of_row _ _ 3 _ _ _ r1; have a4 := cell_of_row _ _ 4 _ _ _ r1; have a5 := cell_of_row _ _ 5 _ _ _ r1; have e_0 := cell_of_row _ _ 0 _ _ _ r2; have e_1 := cell_of_row _ _ 1 _ _ _ r2; have e_2 := cell_of_row _ _ 2 _ _ _ r2; have e_3 := cell_of_row _ _ 3 _ _ _ r2; have e_4 := cell_of_row _ _ 4 _ _ _ r2; have e_5 := cell_of_row _ _ 5 _ _ _ r2
  refine wp_float [(9, 7, (.cells #[.int .i64 0, .int .i64 0, .slice none 0 0] 34))] [(0, 0), (1, 0), (3, 0), (2, 1), (4, 1), (5, 1), (6, 0), (7, 0), (8, 2)] [10, 11] [10, 11] [8] (by kernel_rfl) (by kernel_rfl) (by kernel_rfl) (fun _ _ d _ _ h => by cases d <;> exact h) (fun _ _ d _ _ h => by cases d <;> exact h) (fun x hx o ho a w => by (obtain rfl := List.mem_singleton.1 hx); (obtain rfl := Option.some.inj ho); (first | rfl | (simp [go_sem, ptrB]; done) | (go_simp; rfl))) ?_
  iterate 3 ((refine wpFp_read (v := ?_) rfl ?_ (fun w1 h1 => ?_) ?_; rotate_left 1; rfl; (obtain ⟨os1, d1, rfl⟩ := h1.more; go_simp; first | done | rfl)); try simp only [Act.put, zqA, zqB, zqC])
  (refine wpFp_eff rfl ?_ (fun wf hXf hE K hK => ?_); rfl; obtain ⟨osf, df, rfl⟩ := hXf.more; go_simp; refine (h1 _).mono ?_; rintro e w' ⟨D1, c1, rfl, hN1, hb⟩; refine hK _ _ (fun W => ArrIn W D1 1 c1 lx) (by (try simp only [more_drew, more_more]); exact hb) (fun _ _ hx h => h.ext hx) hN1.arr ?_)
  try simp only [Act.put, zqA, zqB, zqC]
  (refine wpFp_eff rfl ?_ (fun wf hXf hE K hK => ?_); rfl; obtain ⟨osf, df, rfl⟩ := hXf.more; go_simp; refine (h2 _).mono ?_; rintro e w' ⟨D2, c2, rfl, hN2, hb⟩; refine hK _ _ (fun W => ArrIn W D1 1 c1 lx ∧ ArrIn W D2 1 c2 ly) (by (try simp only [more_drew, more_more]); exact hb) (fun _ _ hx h => ⟨h.1.ext hx, h.2.ext hx⟩) ⟨hE.ext (by (try simp only [more_drew, more_more]); exact hb), hN2.arr⟩ ?_)
  try simp only [Act.put, zqA, zqB, zqC]
  (refine wpFp_eff rfl ?_ (fun wf hXf hE K hK => ?_); rfl; obtain ⟨osf, df, rfl⟩ := hXf.more; go_simp; refine (binary_yes g sb 1 1 1 1 D1 D2 1 c1 1 c2 lx ly _ (HT.out.ext (hw0.trans (by repeat (first | (with_reducible (first | exact Ext.refl _ | exact ext_d _ _ _ _ | exact ext_app _ _ _ _ _ | exact ext_app2 _ _ _ _ _ _ | exact ext_app3 _ _ _ _ _ _ _)) | ((with_reducible refine ext_suffix ⟨_, ?_⟩); (try simp only [Array.append_assoc]); rfl) | (with_reducible (first | apply Ext.drew | apply Ext.alloc | apply Ext.more_)))))) hsm HG2.out hE.1 hE.2 ⟨1, 1, [z]⟩ HG.out).mono ?_; rintro e w' ⟨D3, m3, c3, rfl, hN3, hb⟩; refine hK _ _ (fun W => ArrIn W D3 m3 c3 [z]) (by (try simp only [more_drew, more_more]); exact hb) (fun _ _ hx h => h.ext hx) hN3.arr ?_)
  try simp only [Act.put, zqA, zqB, zqC]
  iterate 2 ((refine wpFp_read (v := ?_) rfl ?_ (fun w1 h1 => ?_) ?_; rotate_left 1; rfl; (obtain ⟨os1, d1, rfl⟩ := h1.more; go_simp; first | done | rfl)); try simp only [Act.put, zqA, zqB, zqC])
  (refine wpFp_pure (v := ?_) rfl ?_ (fun w1 => ?_) ?_; rotate_left 1; rfl; (go_simp; first | done | rfl))
  try simp only [Act.put, zqA, zqB, zqC]
  refine wpFp_one fun osa da osb db hE => ?_
  try simp only [Act.put, zqA, zqB, zqC]
  iterate 2 ((refine wpTl_op rfl ?_ (fun K hK => ?_); rfl; go_simp; refine hK _ _ ?_); try simp only [Act.put, zqA, zqB, zqC])
  refine wpTl_nil ?_
  have hR := hE.box #[.int .i64 1, .int .i64 1, .slice D3 m3 c3] 34 db
  clear hE
  (try simp only [more_more, drew_more, more_drew, Array.append_assoc] at hR)
  obtain rfl : m3 = 1 := by have := hR.len; simpa using this.symm
  go_upto_region 8 with fail
  refine wp_world fun W1 hW1 => ?_; have hR1 : ArrIn W1 D3 1 c3 [z] := (by rw [hW1]; exact hR); obtain ⟨r3, hx1⟩ := one_at _ _ _ _ _ _ hW1; clear hW1 hR; have r1 := row_ext r1 hx1; have r2 := row_ext r2 hx1; have hwW := hw0.trans hx1; clear hw0 hx1; have b1 := lt_of_block r1; have b2 := lt_of_block r2; have b3 := lt_of_block r3; have a0 := cell_of_row _ _ 0 _ _ _ r1; have a1 := cell_of_row _ _ 1 _ _ _ r1; have a2 := cell_of_row _ _ 2 _ _ _ r1; have a3 := cell_of_row _ _ 3 _ _ _ r1; have a4 := cell_of_row _ _ 4 _ _ _ r1; have a5 := cell_of_row _ _ 5 _ _ _ r1; have e_0 := cell_of_row _ _ 0 _ _ _ r2; have e_1 := cell_of_row _ _ 1 _ _ _ r2; have e_2 := cell_of_row _ _ 2 _ _ _ r2; have e_3 := cell_of_row _ _ 3 _ _ _ r2; have e_4 := cell_of_row _ _ 4 _ _ _ r2; have e_5 := cell_of_row _ _ 5 _ _ _ r2; have u0 := cell_of_row _ _ 0 _ _ _ r3; have u1 := cell_of_row _ _ 1 _ _ _ r3; have u2 := cell_of_row _ _ 2 _ _ _ r3
  go_wp2_with fail
  refine (ht1 _).mono ?_; rintro e w' ⟨rfl, hb⟩; obtain ⟨os11, d11, rfl⟩ := hb.more; clear hb
  go_wp2_with fail
  refine (ht2 _).mono ?_; rintro e w' ⟨rfl, hb⟩; obtain ⟨os12, d12, rfl⟩ := hb.more; clear hb
  go_wp2_with fail
  go_ret
  exact ⟨rfl, hwW.trans (by repeat (first | (with_reducible (first | exact Ext.refl _ | exact ext_d _ _ _ _ | exact ext_app _ _ _ _ _ | exact ext_app2 _ _ _ _ _ _ | exact ext_app3 _ _ _ _ _ _ _)) | ((with_reducible refine ext_suffix ⟨_, ?_⟩); (try simp only [Array.append_assoc]); rfl) | (with_reducible (first | apply Ext.drew | apply Ext.alloc | apply Ext.more_))))⟩
set_option maxHeartbeats 2000000 in
theorem faults_n2M (g : Sg) (sb : ByteArray) (x y : Val) (w : World) (htab : Tab w) (hx : x.ok) (hy : y.ok) (rx : x.right) (ry : y.right) (hg : sgOf sb.data.toList = some g) (k1 : x.kind ≠ 4) (k2 : y.kind ≠ 4) (e1 : (sb.toList == [43]) = false) (e2 : (sb.toList == [42]) = true) (hf : tnF x = 0) (hf2 : tnF y ≠ 0) :
    Calls Tryz.prog 6 #[.string sb, VV x.kind x.mant x.exp x.text x.truth x.fault, VV y.kind y.mant y.exp y.text y.truth y.fault] w fun e w' => e = .returned (.bool true) ∧ Ext w w' := by
  have g1 := fun W => refRight_any x.kind x.mant x.exp x.fault x.text x.truth W hx.2.1 hx.2.2.2.1; have g2 := fun W => refRight_any y.kind y.mant y.exp y.fault y.text y.truth W hy.2.1 hy.2.2.2.1; rw [show refRight ⟨x.kind, x.mant, x.exp, x.text, x.truth, x.fault⟩ = true from (right_eq x hx).symm.trans rx] at g1; rw [show refRight ⟨y.kind, y.mant, y.exp, y.text, y.truth, y.fault⟩ = true from (right_eq y hy).symm.trans ry] at g2
  have hA := both_one g rx ry
  have h1 := fun W => one10_any x W hx
  have h2 := fun W => one10_any y W hy
  have hlv := fun W => rlevel_yes g W
  rw [← sg_lit hg] at hlv
  have q := level_ne g
  have hsm : sb.size ≤ maxLen := by rw [sg_lit hg]; cases g <;> decide
  have HG2 := Lib.hid hg
  have HT := Lib.hid htab
  have qx : (x.kind == 4) = false := by simpa using k1
  have ht1 := fun W => rtoNum_any x W rx
  simp only [tnV] at ht1
  obtain ⟨lx, hlx⟩ : ∃ l, l = [x] := ⟨_, rfl⟩
  obtain ⟨ly, hly⟩ : ∃ l, l = [y] := ⟨_, rfl⟩
  rw [← hlx] at h1
  rw [← hly] at h2
  have qy : (y.kind == 4) = false := by simpa using k2
  have ht2 := fun W => rtoNum_any y W ry
  simp only [tnV] at ht2
  have qf : (tnF x == 0) = true := by simpa using hf
  have qf2 : (tnF y == 0) = false := by simpa using hf2
  have hA' : bothRes (opV g) 1 1 lx 1 1 ly = ⟨1, 1, [opV g x y]⟩ := by rw [hlx, hly]; exact hA
  generalize hzz : opV g x y = z at *
  have HG := Lib.hid hA'
  generalize g.level = lv at *
  clear hA hA' hlx hly hx hy rx ry k1 k2 htab hg hzz hf hf2
  generalize tnF x = f at *
  generalize (tnP x).1 = tm at *
  generalize (tnP x).2 = te at *
  generalize tnF y = f2 at *
  generalize (tnP y).1 = tm2 at *
  generalize (tnP y).2 = te2 at *
  generalize x.kind = xk at *; generalize x.mant = xm at *; generalize x.exp = xe at *; generalize x.text = xt at *; generalize x.truth = xb at *; generalize x.fault = xf at *
  generalize y.kind = yk at *; generalize y.mant = ym at *; generalize y.exp = ye at *; generalize y.text = yt at *; generalize y.truth = yb at *; generalize y.fault = yf at *
  go_enter Tryz.func6, Tryz.ntmps6; go_wp2_with fail; refine (awake10_any _ (HT.out.ext (by repeat (first | (with_reducible (first | exact Ext.refl _ | exact ext_d _ _ _ _ | exact ext_app _ _ _ _ _ | exact ext_app2 _ _ _ _ _ _ | exact ext_app3 _ _ _ _ _ _ _)) | ((with_reducible refine ext_suffix ⟨_, ?_⟩); (try simp only [Array.append_assoc]); rfl) | (with_reducible (first | apply Ext.drew | apply Ext.alloc | apply Ext.more_)))))).mono ?_; rintro e w' ⟨rfl, hb⟩; obtain ⟨os1, d1, rfl⟩ := hb.more; clear hb; go_wp2_with fail; refine (g1 _).mono ?_; rintro e w' ⟨rfl, hb⟩; obtain ⟨os2, d2, rfl⟩ := hb.more; clear hb; go_wp2_with fail; refine (g2 _).mono ?_; rintro e w' ⟨rfl, hb⟩; obtain ⟨os3, d3, rfl⟩ := hb.more; clear hb; go_wp2_with fail; refine (hlv _).mono ?_; rintro e w' ⟨rfl, hb⟩; obtain ⟨os4, d4, rfl⟩ := hb.more; clear hb
  go_upto_region 5 with fail
  refine wp_world fun W0 hW0 => ?_; obtain ⟨r1, r2, hw0⟩ := two_at _ _ _ _ _ hW0; clear hW0; have b1 := lt_of_block r1; have b2 := lt_of_block r2; have a0 := cell_of_row _ _ 0 _ _ _ r1; have a1 := cell_of_row _ _ 1 _ _ _ r1; have a2 := cell_of_row _ _ 2 _ _ _ r1; have a3 := cell_of_row _ _ 3 _ _ _ r1; have a4 := cell_of_row _ _ 4 _ _ _ r1; have a5 := cell_of_row _ _ 5 _ _ _ r1; have e_0 := cell_of_row _ _ 0 _ _ _ r2; have e_1 := cell_of_row _ _ 1 _ _ _ r2; have e_2 := cell_of_row _ _ 2 _ _ _ r2; have e_3 := cell_of_row _ _ 3 _ _ _ r2; have e_4 := cell_of_row _ _ 4 _ _ _ r2; have e_5 := cell_of_row _ _ 5 _ _ _ r2
  refine wp_float [(9, 7, (.cells #[.int .i64 0, .int .i64 0, .slice none 0 0] 34))] [(0, 0), (1, 0), (3, 0), (2, 1), (4, 1), (5, 1), (6, 0), (7, 0), (8, 2)] [10, 11] [10, 11] [8] (by kernel_rfl) (by kernel_rfl) (by kernel_rfl) (fun _ _ d _ _ h => by cases d <;> exact h) (fun _ _ d _ _ h => by cases d <;> exact h) (fun x hx o ho a w => by (obtain rfl := List.mem_singleton.1 hx); (obtain rfl := Option.some.inj ho); (first | rfl | (simp [go_sem, ptrB]; done) | (go_simp; rfl))) ?_
  iterate 3 ((refine wpFp_read (v := ?_) rfl ?_ (fun w1 h1 => ?_) ?_; rotate_left 1; rfl; (obtain ⟨os1, d1, rfl⟩ := h1.more; go_simp; first | done | rfl)); try simp only [Act.put, zqA, zqB, zqC])
  (refine wpFp_eff rfl ?_ (fun wf hXf hE K hK => ?_); rfl; obtain ⟨osf, df, rfl⟩ := hXf.more; go_simp; refine (h1 _).mono ?_; rintro e w' ⟨D1, c1, rfl, hN1, hb⟩; refine hK _ _ (fun W => ArrIn W D1 1 c1 lx) (by (try simp only [more_drew, more_more]); exact hb) (fun _ _ hx h => h.ext hx) hN1.arr ?_)
  try simp only [Act.put, zqA, zqB, zqC]
  (refine wpFp_eff rfl ?_ (fun wf hXf hE K hK => ?_); rfl; obtain ⟨osf, df, rfl⟩ := hXf.more; go_simp; refine (h2 _).mono ?_; rintro e w' ⟨D2, c2, rfl, hN2, hb⟩; refine hK _ _ (fun W => ArrIn W D1 1 c1 lx ∧ ArrIn W D2 1 c2 ly) (by (try simp only [more_drew, more_more]); exact hb) (fun _ _ hx h => ⟨h.1.ext hx, h.2.ext hx⟩) ⟨hE.ext (by (try simp only [more_drew, more_more]); exact hb), hN2.arr⟩ ?_)
  try simp only [Act.put, zqA, zqB, zqC]
  (refine wpFp_eff rfl ?_ (fun wf hXf hE K hK => ?_); rfl; obtain ⟨osf, df, rfl⟩ := hXf.more; go_simp; refine (binary_yes g sb 1 1 1 1 D1 D2 1 c1 1 c2 lx ly _ (HT.out.ext (hw0.trans (by repeat (first | (with_reducible (first | exact Ext.refl _ | exact ext_d _ _ _ _ | exact ext_app _ _ _ _ _ | exact ext_app2 _ _ _ _ _ _ | exact ext_app3 _ _ _ _ _ _ _)) | ((with_reducible refine ext_suffix ⟨_, ?_⟩); (try simp only [Array.append_assoc]); rfl) | (with_reducible (first | apply Ext.drew | apply Ext.alloc | apply Ext.more_)))))) hsm HG2.out hE.1 hE.2 ⟨1, 1, [z]⟩ HG.out).mono ?_; rintro e w' ⟨D3, m3, c3, rfl, hN3, hb⟩; refine hK _ _ (fun W => ArrIn W D3 m3 c3 [z]) (by (try simp only [more_drew, more_more]); exact hb) (fun _ _ hx h => h.ext hx) hN3.arr ?_)
  try simp only [Act.put, zqA, zqB, zqC]
  iterate 2 ((refine wpFp_read (v := ?_) rfl ?_ (fun w1 h1 => ?_) ?_; rotate_left 1; rfl; (obtain ⟨os1, d1, rfl⟩ := h1.more; go_simp; first | done | rfl)); try simp only [Act.put, zqA, zqB, zqC])
  (refine wpFp_pure (v := ?_) rfl ?_ (fun w1 => ?_) ?_; rotate_left 1; rfl; (go_simp; first | done | rfl))
  try simp only [Act.put, zqA, zqB, zqC]
  refine wpFp_one fun osa da osb db hE => ?_
  try simp only [Act.put, zqA, zqB, zqC]
  iterate 2 ((refine wpTl_op rfl ?_ (fun K hK => ?_); rfl; go_simp; refine hK _ _ ?_); try simp only [Act.put, zqA, zqB, zqC])
  refine wpTl_nil ?_
  have hR := hE.box #[.int .i64 1, .int .i64 1, .slice D3 m3 c3] 34 db
  clear hE
  (try simp only [more_more, drew_more, more_drew, Array.append_assoc] at hR)
  obtain rfl : m3 = 1 := by have := hR.len; simpa using this.symm
  go_upto_region 8 with fail
  refine wp_world fun W1 hW1 => ?_; have hR1 : ArrIn W1 D3 1 c3 [z] := (by rw [hW1]; exact hR); obtain ⟨r3, hx1⟩ := one_at _ _ _ _ _ _ hW1; clear hW1 hR; have r1 := row_ext r1 hx1; have r2 := row_ext r2 hx1; have hwW := hw0.trans hx1; clear hw0 hx1; have b1 := lt_of_block r1; have b2 := lt_of_block r2; have b3 := lt_of_block r3; have a0 := cell_of_row _ _ 0 _ _ _ r1; have a1 := cell_of_row _ _ 1 _ _ _ r1; have a2 := cell_of_row _ _ 2 _ _ _ r1; have a3 := cell_of_row _ _ 3 _ _ _ r1; have a4 := cell_of_row _ _ 4 _ _ _ r1; have a5 := cell_of_row _ _ 5 _ _ _ r1; have e_0 := cell_of_row _ _ 0 _ _ _ r2; have e_1 := cell_of_row _ _ 1 _ _ _ r2; have e_2 := cell_of_row _ _ 2 _ _ _ r2; have e_3 := cell_of_row _ _ 3 _ _ _ r2; have e_4 := cell_of_row _ _ 4 _ _ _ r2; have e_5 := cell_of_row _ _ 5 _ _ _ r2; have u0 := cell_of_row _ _ 0 _ _ _ r3; have u1 := cell_of_row _ _ 1 _ _ _ r3; have u2 := cell_of_row _ _ 2 _ _ _ r3
  go_wp2_with fail
  refine (ht1 _).mono ?_; rintro e w' ⟨rfl, hb⟩; obtain ⟨os11, d11, rfl⟩ := hb.more; clear hb
  go_wp2_with fail
  refine (ht2 _).mono ?_; rintro e w' ⟨rfl, hb⟩; obtain ⟨os12, d12, rfl⟩ := hb.more; clear hb
  go_wp2_with fail
  go_ret
  exact ⟨rfl, hwW.trans (by repeat (first | (with_reducible (first | exact Ext.refl _ | exact ext_d _ _ _ _ | exact ext_app _ _ _ _ _ | exact ext_app2 _ _ _ _ _ _ | exact ext_app3 _ _ _ _ _ _ _)) | ((with_reducible refine ext_suffix ⟨_, ?_⟩); (try simp only [Array.append_assoc]); rfl) | (with_reducible (first | apply Ext.drew | apply Ext.alloc | apply Ext.more_))))⟩
set_option maxHeartbeats 2000000 in
theorem faults_n3M (g : Sg) (sb : ByteArray) (x y : Val) (w : World) (htab : Tab w) (hx : x.ok) (hy : y.ok) (rx : x.right) (ry : y.right) (hg : sgOf sb.data.toList = some g) (k1 : x.kind ≠ 4) (k2 : y.kind ≠ 4) (e1 : (sb.toList == [43]) = false) (e2 : (sb.toList == [42]) = true) (hsw : g = .add ∨ g = .mul) (hf : tnF x = 0) (hf2 : tnF y = 0) :
    Calls Tryz.prog 6 #[.string sb, VV x.kind x.mant x.exp x.text x.truth x.fault, VV y.kind y.mant y.exp y.text y.truth y.fault] w fun e w' => e = .returned (.bool true) ∧ Ext w w' := by
  have g1 := fun W => refRight_any x.kind x.mant x.exp x.fault x.text x.truth W hx.2.1 hx.2.2.2.1; have g2 := fun W => refRight_any y.kind y.mant y.exp y.fault y.text y.truth W hy.2.1 hy.2.2.2.1; rw [show refRight ⟨x.kind, x.mant, x.exp, x.text, x.truth, x.fault⟩ = true from (right_eq x hx).symm.trans rx] at g1; rw [show refRight ⟨y.kind, y.mant, y.exp, y.text, y.truth, y.fault⟩ = true from (right_eq y hy).symm.trans ry] at g2
  have hA := both_one g rx ry
  have h1 := fun W => one10_any x W hx
  have h2 := fun W => one10_any y W hy
  have hlv := fun W => rlevel_yes g W
  rw [← sg_lit hg] at hlv
  have q := level_ne g
  have hsm : sb.size ≤ maxLen := by rw [sg_lit hg]; cases g <;> decide
  have HG2 := Lib.hid hg
  have HT := Lib.hid htab
  have qx : (x.kind == 4) = false := by simpa using k1
  have ht1 := fun W => rtoNum_any x W rx
  simp only [tnV] at ht1
  obtain ⟨lx, hlx⟩ : ∃ l, l = [x] := ⟨_, rfl⟩
  obtain ⟨ly, hly⟩ : ∃ l, l = [y] := ⟨_, rfl⟩
  rw [← hlx] at h1
  rw [← hly] at h2
  have qy : (y.kind == 4) = false := by simpa using k2
  have ht2 := fun W => rtoNum_any y W ry
  simp only [tnV] at ht2
  have qf : (tnF x == 0) = true := by simpa using hf
  have qf2 : (tnF y == 0) = true := by simpa using hf2
  have hB : bothRes (opV g) 1 1 ly 1 1 lx = ⟨1, 1, [opV g x y]⟩ := by rw [hlx, hly, both_one g ry rx, op_swap hsw hf hf2]
  have hA' : bothRes (opV g) 1 1 lx 1 1 ly = ⟨1, 1, [opV g x y]⟩ := by rw [hlx, hly]; exact hA
  generalize hzz : opV g x y = z at *
  have HG := Lib.hid hA'
  have HG3 := Lib.hid hB
  generalize g.level = lv at *
  clear hA hA' hlx hly hx hy rx ry k1 k2 htab hg hzz hB hf hf2 hsw
  generalize tnF x = f at *
  generalize (tnP x).1 = tm at *
  generalize (tnP x).2 = te at *
  generalize tnF y = f2 at *
  generalize (tnP y).1 = tm2 at *
  generalize (tnP y).2 = te2 at *
  generalize x.kind = xk at *; generalize x.mant = xm at *; generalize x.exp = xe at *; generalize x.text = xt at *; generalize x.truth = xb at *; generalize x.fault = xf at *
  generalize y.kind = yk at *; generalize y.mant = ym at *; generalize y.exp = ye at *; generalize y.text = yt at *; generalize y.truth = yb at *; generalize y.fault = yf at *
  go_enter Tryz.func6, Tryz.ntmps6; go_wp2_with fail; refine (awake10_any _ (HT.out.ext (by repeat (first | (with_reducible (first | exact Ext.refl _ | exact ext_d _ _ _ _ | exact ext_app _ _ _ _ _ | exact ext_app2 _ _ _ _ _ _ | exact ext_app3 _ _ _ _ _ _ _)) | ((with_reducible refine ext_suffix ⟨_, ?_⟩); (try simp only [Array.append_assoc]); rfl) | (with_reducible (first | apply Ext.drew | apply Ext.alloc | apply Ext.more_)))))).mono ?_; rintro e w' ⟨rfl, hb⟩; obtain ⟨os1, d1, rfl⟩ := hb.more; clear hb; go_wp2_with fail; refine (g1 _).mono ?_; rintro e w' ⟨rfl, hb⟩; obtain ⟨os2, d2, rfl⟩ := hb.more; clear hb; go_wp2_with fail; refine (g2 _).mono ?_; rintro e w' ⟨rfl, hb⟩; obtain ⟨os3, d3, rfl⟩ := hb.more; clear hb; go_wp2_with fail; refine (hlv _).mono ?_; rintro e w' ⟨rfl, hb⟩; obtain ⟨os4, d4, rfl⟩ := hb.more; clear hb
  go_upto_region 5 with fail
  refine wp_world fun W0 hW0 => ?_; obtain ⟨r1, r2, hw0⟩ := two_at _ _ _ _ _ hW0; clear hW0; have b1 := lt_of_block r1; have b2 := lt_of_block r2; have a0 := cell_of_row _ _ 0 _ _ _ r1; have a1 := cell_of_row _ _ 1 _ _ _ r1; have a2 := cell_of_row _ _ 2 _ _ _ r1; have a3 := cell_of_row _ _ 3 _ _ _ r1; have a4 := cell_of_row _ _ 4 _ _ _ r1; have a5 := cell_of_row _ _ 5 _ _ _ r1; have e_0 := cell_of_row _ _ 0 _ _ _ r2; have e_1 := cell_of_row _ _ 1 _ _ _ r2; have e_2 := cell_of_row _ _ 2 _ _ _ r2; have e_3 := cell_of_row _ _ 3 _ _ _ r2; have e_4 := cell_of_row _ _ 4 _ _ _ r2; have e_5 := cell_of_row _ _ 5 _ _ _ r2
  refine wp_float [(9, 7, (.cells #[.int .i64 0, .int .i64 0, .slice none 0 0] 34))] [(0, 0), (1, 0), (3, 0), (2, 1), (4, 1), (5, 1), (6, 0), (7, 0), (8, 2)] [10, 11] [10, 11] [8] (by kernel_rfl) (by kernel_rfl) (by kernel_rfl) (fun _ _ d _ _ h => by cases d <;> exact h) (fun _ _ d _ _ h => by cases d <;> exact h) (fun x hx o ho a w => by (obtain rfl := List.mem_singleton.1 hx); (obtain rfl := Option.some.inj ho); (first | rfl | (simp [go_sem, ptrB]; done) | (go_simp; rfl))) ?_
  iterate 3 ((refine wpFp_read (v := ?_) rfl ?_ (fun w1 h1 => ?_) ?_; rotate_left 1; rfl; (obtain ⟨os1, d1, rfl⟩ := h1.more; go_simp; first | done | rfl)); try simp only [Act.put, zqA, zqB, zqC])
  (refine wpFp_eff rfl ?_ (fun wf hXf hE K hK => ?_); rfl; obtain ⟨osf, df, rfl⟩ := hXf.more; go_simp; refine (h1 _).mono ?_; rintro e w' ⟨D1, c1, rfl, hN1, hb⟩; refine hK _ _ (fun W => ArrIn W D1 1 c1 lx) (by (try simp only [more_drew, more_more]); exact hb) (fun _ _ hx h => h.ext hx) hN1.arr ?_)
  try simp only [Act.put, zqA, zqB, zqC]
  (refine wpFp_eff rfl ?_ (fun wf hXf hE K hK => ?_); rfl; obtain ⟨osf, df, rfl⟩ := hXf.more; go_simp; refine (h2 _).mono ?_; rintro e w' ⟨D2, c2, rfl, hN2, hb⟩; refine hK _ _ (fun W => ArrIn W D1 1 c1 lx ∧ ArrIn W D2 1 c2 ly) (by (try simp only [more_drew, more_more]); exact hb) (fun _ _ hx h => ⟨h.1.ext hx, h.2.ext hx⟩) ⟨hE.ext (by (try simp only [more_drew, more_more]); exact hb), hN2.arr⟩ ?_)
  try simp only [Act.put, zqA, zqB, zqC]
  (refine wpFp_eff rfl ?_ (fun wf hXf hE K hK => ?_); rfl; obtain ⟨osf, df, rfl⟩ := hXf.more; go_simp; refine (binary_yes g sb 1 1 1 1 D1 D2 1 c1 1 c2 lx ly _ (HT.out.ext (hw0.trans (by repeat (first | (with_reducible (first | exact Ext.refl _ | exact ext_d _ _ _ _ | exact ext_app _ _ _ _ _ | exact ext_app2 _ _ _ _ _ _ | exact ext_app3 _ _ _ _ _ _ _)) | ((with_reducible refine ext_suffix ⟨_, ?_⟩); (try simp only [Array.append_assoc]); rfl) | (with_reducible (first | apply Ext.drew | apply Ext.alloc | apply Ext.more_)))))) hsm HG2.out hE.1 hE.2 ⟨1, 1, [z]⟩ HG.out).mono ?_; rintro e w' ⟨D3, m3, c3, rfl, hN3, hb⟩; refine hK _ _ (fun W => ArrIn W D3 m3 c3 [z]) (by (try simp only [more_drew, more_more]); exact hb) (fun _ _ hx h => h.ext hx) hN3.arr ?_)
  try simp only [Act.put, zqA, zqB, zqC]
  iterate 2 ((refine wpFp_read (v := ?_) rfl ?_ (fun w1 h1 => ?_) ?_; rotate_left 1; rfl; (obtain ⟨os1, d1, rfl⟩ := h1.more; go_simp; first | done | rfl)); try simp only [Act.put, zqA, zqB, zqC])
  (refine wpFp_pure (v := ?_) rfl ?_ (fun w1 => ?_) ?_; rotate_left 1; rfl; (go_simp; first | done | rfl))
  try simp only [Act.put, zqA, zqB, zqC]
  refine wpFp_one fun osa da osb db hE => ?_
  try simp only [Act.put, zqA, zqB, zqC]
  iterate 2 ((refine wpTl_op rfl ?_ (fun K hK => ?_); rfl; go_simp; refine hK _ _ ?_); try simp only [Act.put, zqA, zqB, zqC])
  refine wpTl_nil ?_
  have hR := hE.box #[.int .i64 1, .int .i64 1, .slice D3 m3 c3] 34 db
  clear hE
  (try simp only [more_more, drew_more, more_drew, Array.append_assoc] at hR)
  obtain rfl : m3 = 1 := by have := hR.len; simpa using this.symm
  go_upto_region 8 with fail
  refine wp_world fun W1 hW1 => ?_; have hR1 : ArrIn W1 D3 1 c3 [z] := (by rw [hW1]; exact hR); obtain ⟨r3, hx1⟩ := one_at _ _ _ _ _ _ hW1; clear hW1 hR; have r1 := row_ext r1 hx1; have r2 := row_ext r2 hx1; have hwW := hw0.trans hx1; clear hw0 hx1; have b1 := lt_of_block r1; have b2 := lt_of_block r2; have b3 := lt_of_block r3; have a0 := cell_of_row _ _ 0 _ _ _ r1; have a1 := cell_of_row _ _ 1 _ _ _ r1; have a2 := cell_of_row _ _ 2 _ _ _ r1; have a3 := cell_of_row _ _ 3 _ _ _ r1; have a4 := cell_of_row _ _ 4 _ _ _ r1; have a5 := cell_of_row _ _ 5 _ _ _ r1; have e_0 := cell_of_row _ _ 0 _ _ _ r2; have e_1 := cell_of_row _ _ 1 _ _ _ r2; have e_2 := cell_of_row _ _ 2 _ _ _ r2; have e_3 := cell_of_row _ _ 3 _ _ _ r2; have e_4 := cell_of_row _ _ 4 _ _ _ r2; have e_5 := cell_of_row _ _ 5 _ _ _ r2; have u0 := cell_of_row _ _ 0 _ _ _ r3; have u1 := cell_of_row _ _ 1 _ _ _ r3; have u2 := cell_of_row _ _ 2 _ _ _ r3
  go_wp2_with fail
  refine (ht1 _).mono ?_; rintro e w' ⟨rfl, hb⟩; obtain ⟨os11, d11, rfl⟩ := hb.more; clear hb
  go_wp2_with fail
  refine (ht2 _).mono ?_; rintro e w' ⟨rfl, hb⟩; obtain ⟨os12, d12, rfl⟩ := hb.more; clear hb
  have hs1 : sameA 1 1 [z] 1 1 [z] = true := by simp [sameA]
  go_upto_region 17 with fail
  refine wp_world fun W2 hW2 => ?_
  have hx2 : Ext W1 W2 := by rw [hW2]; exact by repeat (first | (with_reducible (first | exact Ext.refl _ | exact ext_d _ _ _ _ | exact ext_app _ _ _ _ _ | exact ext_app2 _ _ _ _ _ _ | exact ext_app3 _ _ _ _ _ _ _)) | ((with_reducible refine ext_suffix ⟨_, ?_⟩); (try simp only [Array.append_assoc]); rfl) | (with_reducible (first | apply Ext.drew | apply Ext.alloc | apply Ext.more_)))
  clear hW2
  have r1 := row_ext r1 hx2
  have r2 := row_ext r2 hx2
  have r3 := row_ext r3 hx2
  have hR2 := hR1.ext hx2
  have hwW := hwW.trans hx2
  clear a0 a1 a2 a3 a4 a5 e_0 e_1 e_2 e_3 e_4 e_5 u0 u1 u2 hR1 hx2
  have b1 := lt_of_block r1
  have b2 := lt_of_block r2
  have b3 := lt_of_block r3
  have a0 := cell_of_row _ _ 0 _ _ _ r1; have a1 := cell_of_row _ _ 1 _ _ _ r1; have a2 := cell_of_row _ _ 2 _ _ _ r1; have a3 := cell_of_row _ _ 3 _ _ _ r1; have a4 := cell_of_row _ _ 4 _ _ _ r1; have a5 := cell_of_row _ _ 5 _ _ _ r1
  have e_0 := cell_of_row _ _ 0 _ _ _ r2; have e_1 := cell_of_row _ _ 1 _ _ _ r2; have e_2 := cell_of_row _ _ 2 _ _ _ r2; have e_3 := cell_of_row _ _ 3 _ _ _ r2; have e_4 := cell_of_row _ _ 4 _ _ _ r2; have e_5 := cell_of_row _ _ 5 _ _ _ r2
  have u0 := cell_of_row _ _ 0 _ _ _ r3; have u1 := cell_of_row _ _ 1 _ _ _ r3; have u2 := cell_of_row _ _ 2 _ _ _ r3
  refine wp_float [(9, 13, (.cells #[.int .i64 0, .int .i64 0, .slice none 0 0] 34))] [(0, 0), (1, 0), (3, 0), (2, 1), (4, 1), (5, 1), (6, 0), (7, 0), (8, 2)] [10, 11] [10, 11] [8] (by kernel_rfl) (by kernel_rfl) (by kernel_rfl) (fun _ _ d _ _ h => by cases d <;> exact h) (fun _ _ d _ _ h => by cases d <;> exact h) (fun x hx o ho a w => by (obtain rfl := List.mem_singleton.1 hx); (obtain rfl := Option.some.inj ho); (first | rfl | (simp [go_sem, ptrB]; done) | (go_simp; rfl))) ?_
  iterate 3 ((refine wpFp_read (v := ?_) rfl ?_ (fun w1 h1 => ?_) ?_; rotate_left 1; rfl; (obtain ⟨os1, d1, rfl⟩ := h1.more; go_simp; first | done | rfl)); try simp only [Act.put, zqA, zqB, zqC])
  (refine wpFp_eff rfl ?_ (fun wf hXf hE K hK => ?_); rfl; obtain ⟨osf, df, rfl⟩ := hXf.more; go_simp; refine (h2 _).mono ?_; rintro e w' ⟨D1, c1, rfl, hN1, hb⟩; refine hK _ _ (fun W => ArrIn W D1 1 c1 ly) (by (try simp only [more_drew, more_more]); exact hb) (fun _ _ hx h => h.ext hx) hN1.arr ?_)
  try simp only [Act.put, zqA, zqB, zqC]
  (refine wpFp_eff rfl ?_ (fun wf hXf hE K hK => ?_); rfl; obtain ⟨osf, df, rfl⟩ := hXf.more; go_simp; refine (h1 _).mono ?_; rintro e w' ⟨D2, c2, rfl, hN2, hb⟩; refine hK _ _ (fun W => ArrIn W D1 1 c1 ly ∧ ArrIn W D2 1 c2 lx) (by (try simp only [more_drew, more_more]); exact hb) (fun _ _ hx h => ⟨h.1.ext hx, h.2.ext hx⟩) ⟨hE.ext (by (try simp only [more_drew, more_more]); exact hb), hN2.arr⟩ ?_)
  try simp only [Act.put, zqA, zqB, zqC]
  (refine wpFp_eff rfl ?_ (fun wf hXf hE K hK => ?_); rfl; obtain ⟨osf, df, rfl⟩ := hXf.more; go_simp; refine (binary_yes g sb 1 1 1 1 D1 D2 1 c1 1 c2 ly lx _ (HT.out.ext (hwW.trans (by repeat (first | (with_reducible (first | exact Ext.refl _ | exact ext_d _ _ _ _ | exact ext_app _ _ _ _ _ | exact ext_app2 _ _ _ _ _ _ | exact ext_app3 _ _ _ _ _ _ _)) | ((with_reducible refine ext_suffix ⟨_, ?_⟩); (try simp only [Array.append_assoc]); rfl) | (with_reducible (first | apply Ext.drew | apply Ext.alloc | apply Ext.more_)))))) hsm HG2.out hE.1 hE.2 ⟨1, 1, [z]⟩ HG3.out).mono ?_; rintro e w' ⟨D6, m6, c6, rfl, hN3, hb⟩; refine hK _ _ (fun W => ArrIn W D6 m6 c6 [z]) (by (try simp only [more_drew, more_more]); exact hb) (fun _ _ hx h => h.ext hx) hN3.arr ?_)
  try simp only [Act.put, zqA, zqB, zqC]
  iterate 2 ((refine wpFp_read (v := ?_) rfl ?_ (fun w1 h1 => ?_) ?_; rotate_left 1; rfl; (obtain ⟨os1, d1, rfl⟩ := h1.more; go_simp; first | done | rfl)); try simp only [Act.put, zqA, zqB, zqC])
  (refine wpFp_pure (v := ?_) rfl ?_ (fun w1 => ?_) ?_; rotate_left 1; rfl; (go_simp; first | done | rfl))
  try simp only [Act.put, zqA, zqB, zqC]
  refine wpFp_one fun osa da osb db hE => ?_
  try simp only [Act.put, zqA, zqB, zqC]
  iterate 2 ((refine wpTl_op rfl ?_ (fun K hK => ?_); rfl; go_simp; refine hK _ _ ?_); try simp only [Act.put, zqA, zqB, zqC])
  refine wpTl_nil ?_
  have hR6 := hE.box #[.int .i64 1, .int .i64 1, .slice D6 m6 c6] 34 db
  clear hE
  (try simp only [more_more, drew_more, more_drew, Array.append_assoc] at hR6)
  obtain rfl : m6 = 1 := by have := hR6.len; simpa using this.symm
  go_wp2_with fail
  refine (refSame_any _ _ _ _ _ _ _ _ _ _ [z] [z] _ (hR2.ext (by repeat (first | (with_reducible (first | exact Ext.refl _ | exact ext_d _ _ _ _ | exact ext_app _ _ _ _ _ | exact ext_app2 _ _ _ _ _ _ | exact ext_app3 _ _ _ _ _ _ _)) | ((with_reducible refine ext_suffix ⟨_, ?_⟩); (try simp only [Array.append_assoc]); rfl) | (with_reducible (first | apply Ext.drew | apply Ext.alloc | apply Ext.more_))))) hR6).mono ?_; rintro e w' ⟨rfl, hb⟩; obtain ⟨os20, d20, rfl⟩ := hb.more; clear hb
  go_wp2_with fail
  go_ret
  exact ⟨rfl, hwW.trans (by repeat (first | (with_reducible (first | exact Ext.refl _ | exact ext_d _ _ _ _ | exact ext_app _ _ _ _ _ | exact ext_app2 _ _ _ _ _ _ | exact ext_app3 _ _ _ _ _ _ _)) | ((with_reducible refine ext_suffix ⟨_, ?_⟩); (try simp only [Array.append_assoc]); rfl) | (with_reducible (first | apply Ext.drew | apply Ext.alloc | apply Ext.more_))))⟩
end Go.Proofs.YteigcfflljoioaaGreatDoor
namespace Go.Proofs.YteigcfflljoioaaGreatDoor
open Go.RowKit NM
set_option maxHeartbeats 2000000 in
theorem operFaults_any (sb : ByteArray) (x y : Val) (w : World) (htab : Tab w) (hx : x.ok) (hy : y.ok) :
    Calls Tryz.prog 6 #[.string sb, VV x.kind x.mant x.exp x.text x.truth x.fault, VV y.kind y.mant y.exp y.text y.truth y.fault] w fun e w' => e = .returned (.bool true) ∧ Ext w w' := by
  by_cases rx : x.right
  · by_cases ry : y.right
    · cases hg : sgOf sb.data.toList with
      | none =>
        have HT := Lib.hid htab
        have g1 := fun W => refRight_any x.kind x.mant x.exp x.fault x.text x.truth W hx.2.1 hx.2.2.2.1
        have g2 := fun W => refRight_any y.kind y.mant y.exp y.fault y.text y.truth W hy.2.1 hy.2.2.2.1
        rw [show refRight ⟨x.kind, x.mant, x.exp, x.text, x.truth, x.fault⟩ = true from (right_eq x hx).symm.trans rx] at g1
        rw [show refRight ⟨y.kind, y.mant, y.exp, y.text, y.truth, y.fault⟩ = true from (right_eq y hy).symm.trans ry] at g2
        have hlv := fun W => rlevel_no sb hg W
        clear htab hx hy rx ry hg
        generalize x.kind = xk at *; generalize x.mant = xm at *; generalize x.exp = xe at *; generalize x.text = xt at *; generalize x.truth = xb at *; generalize x.fault = xf at *
        generalize y.kind = yk at *; generalize y.mant = ym at *; generalize y.exp = ye at *; generalize y.text = yt at *; generalize y.truth = yb at *; generalize y.fault = yf at *
        go_enter Tryz.func6, Tryz.ntmps6
        go_wp2_with fail
        refine (awake10_any _ (HT.out.ext (by repeat (first | (with_reducible (first | exact Ext.refl _ | exact ext_d _ _ _ _ | exact ext_app _ _ _ _ _ | exact ext_app2 _ _ _ _ _ _ | exact ext_app3 _ _ _ _ _ _ _)) | ((with_reducible refine ext_suffix ⟨_, ?_⟩); (try simp only [Array.append_assoc]); rfl) | (with_reducible (first | apply Ext.drew | apply Ext.alloc | apply Ext.more_)))))).mono ?_; rintro e w' ⟨rfl, hb⟩; obtain ⟨os1, d1, rfl⟩ := hb.more; clear hb
        go_wp2_with fail
        refine (g1 _).mono ?_; rintro e w' ⟨rfl, hb⟩; obtain ⟨os2, d2, rfl⟩ := hb.more; clear hb
        go_wp2_with fail
        refine (g2 _).mono ?_; rintro e w' ⟨rfl, hb⟩; obtain ⟨os3, d3, rfl⟩ := hb.more; clear hb
        go_wp2_with fail
        refine (hlv _).mono ?_; rintro e w' ⟨rfl, hb⟩; obtain ⟨os4, d4, rfl⟩ := hb.more; clear hb
        go_wp2_with fail
        go_ret
        exact ⟨rfl, by repeat (first | (with_reducible (first | exact Ext.refl _ | exact ext_d _ _ _ _ | exact ext_app _ _ _ _ _ | exact ext_app2 _ _ _ _ _ _ | exact ext_app3 _ _ _ _ _ _ _)) | ((with_reducible refine ext_suffix ⟨_, ?_⟩); (try simp only [Array.append_assoc]); rfl) | (with_reducible (first | apply Ext.drew | apply Ext.alloc | apply Ext.more_)))⟩
      | some g =>
        by_cases k1 : x.kind = 4
        · exact faults_left g sb x y w htab hx hy rx ry hg k1
        · by_cases k2 : y.kind = 4
          · by_cases hf : tnF x = 0
            · exact faults_rightY g sb x y w htab hx hy rx ry hg k1 k2 hf
            · by_cases hl : 2 < g.level
              · exact faults_rightL g sb x y w htab hx hy rx ry hg k1 k2 ⟨hf, hl⟩
              · exact faults_rightZ g sb x y w htab hx hy rx ry hg k1 k2 hf hl
          · have key : ∀ b : UInt8, (sb.toList == [b]) = true → sb.data.toList = [b] := fun b h => by
              rw [ByteArray.toList_eq] at h; simpa using h
            cases e1 : (sb.toList == [43])
            · cases e2 : (sb.toList == [42])
              · exact faults_other g sb x y w htab hx hy rx ry hg k1 k2 e1 e2
              · have hgm : g = .mul := by rw [key _ e2] at hg; exact (Option.some.inj hg).symm
                by_cases hf : tnF x = 0
                · by_cases hf2 : tnF y = 0
                  · exact faults_n3M g sb x y w htab hx hy rx ry hg k1 k2 e1 e2 (Or.inr hgm) hf hf2
                  · exact faults_n2M g sb x y w htab hx hy rx ry hg k1 k2 e1 e2 hf hf2
                · exact faults_n1M g sb x y w htab hx hy rx ry hg k1 k2 e1 e2 hf
            · have hga : g = .add := by rw [key _ e1] at hg; exact (Option.some.inj hg).symm
              by_cases hf : tnF x = 0
              · by_cases hf2 : tnF y = 0
                · exact faults_n3A g sb x y w htab hx hy rx ry hg k1 k2 e1 (Or.inl hga) hf hf2
                · exact faults_n2A g sb x y w htab hx hy rx ry hg k1 k2 e1 hf hf2
              · exact faults_n1A g sb x y w htab hx hy rx ry hg k1 k2 e1 hf
    · have HT := Lib.hid htab
      have g1 := fun W => refRight_any x.kind x.mant x.exp x.fault x.text x.truth W hx.2.1 hx.2.2.2.1
      have g2 := fun W => refRight_any y.kind y.mant y.exp y.fault y.text y.truth W hy.2.1 hy.2.2.2.1
      rw [show refRight ⟨x.kind, x.mant, x.exp, x.text, x.truth, x.fault⟩ = true from (right_eq x hx).symm.trans rx] at g1
      rw [show refRight ⟨y.kind, y.mant, y.exp, y.text, y.truth, y.fault⟩ = false from (right_eq y hy).symm.trans (by simpa [Val.right] using ry)] at g2
      clear htab hx hy rx ry
      generalize x.kind = xk at *; generalize x.mant = xm at *; generalize x.exp = xe at *; generalize x.text = xt at *; generalize x.truth = xb at *; generalize x.fault = xf at *
      generalize y.kind = yk at *; generalize y.mant = ym at *; generalize y.exp = ye at *; generalize y.text = yt at *; generalize y.truth = yb at *; generalize y.fault = yf at *
      go_enter Tryz.func6, Tryz.ntmps6
      go_wp2_with fail
      refine (awake10_any _ (HT.out.ext (by repeat (first | (with_reducible (first | exact Ext.refl _ | exact ext_d _ _ _ _ | exact ext_app _ _ _ _ _ | exact ext_app2 _ _ _ _ _ _ | exact ext_app3 _ _ _ _ _ _ _)) | ((with_reducible refine ext_suffix ⟨_, ?_⟩); (try simp only [Array.append_assoc]); rfl) | (with_reducible (first | apply Ext.drew | apply Ext.alloc | apply Ext.more_)))))).mono ?_; rintro e w' ⟨rfl, hb⟩; obtain ⟨os1, d1, rfl⟩ := hb.more; clear hb
      go_wp2_with fail
      refine (g1 _).mono ?_; rintro e w' ⟨rfl, hb⟩; obtain ⟨os2, d2, rfl⟩ := hb.more; clear hb
      go_wp2_with fail
      refine (g2 _).mono ?_; rintro e w' ⟨rfl, hb⟩; obtain ⟨os3, d3, rfl⟩ := hb.more; clear hb
      go_wp2_with fail
      go_ret
      exact ⟨rfl, by repeat (first | (with_reducible (first | exact Ext.refl _ | exact ext_d _ _ _ _ | exact ext_app _ _ _ _ _ | exact ext_app2 _ _ _ _ _ _ | exact ext_app3 _ _ _ _ _ _ _)) | ((with_reducible refine ext_suffix ⟨_, ?_⟩); (try simp only [Array.append_assoc]); rfl) | (with_reducible (first | apply Ext.drew | apply Ext.alloc | apply Ext.more_)))⟩
  · have HT := Lib.hid htab
    have g1 := fun W => refRight_any x.kind x.mant x.exp x.fault x.text x.truth W hx.2.1 hx.2.2.2.1
    have g2 := fun W => refRight_any y.kind y.mant y.exp y.fault y.text y.truth W hy.2.1 hy.2.2.2.1
    rw [show refRight ⟨x.kind, x.mant, x.exp, x.text, x.truth, x.fault⟩ = false from (right_eq x hx).symm.trans (by simpa [Val.right] using rx)] at g1
    clear htab hx hy rx g2
    generalize x.kind = xk at *; generalize x.mant = xm at *; generalize x.exp = xe at *; generalize x.text = xt at *; generalize x.truth = xb at *; generalize x.fault = xf at *
    generalize y.kind = yk at *; generalize y.mant = ym at *; generalize y.exp = ye at *; generalize y.text = yt at *; generalize y.truth = yb at *; generalize y.fault = yf at *
    go_enter Tryz.func6, Tryz.ntmps6
    go_wp2_with fail
    refine (awake10_any _ (HT.out.ext (by repeat (first | (with_reducible (first | exact Ext.refl _ | exact ext_d _ _ _ _ | exact ext_app _ _ _ _ _ | exact ext_app2 _ _ _ _ _ _ | exact ext_app3 _ _ _ _ _ _ _)) | ((with_reducible refine ext_suffix ⟨_, ?_⟩); (try simp only [Array.append_assoc]); rfl) | (with_reducible (first | apply Ext.drew | apply Ext.alloc | apply Ext.more_)))))).mono ?_; rintro e w' ⟨rfl, hb⟩; obtain ⟨os1, d1, rfl⟩ := hb.more; clear hb
    go_wp2_with fail
    refine (g1 _).mono ?_; rintro e w' ⟨rfl, hb⟩; obtain ⟨os2, d2, rfl⟩ := hb.more; clear hb
    go_wp2_with fail
    go_ret
    exact ⟨rfl, by repeat (first | (with_reducible (first | exact Ext.refl _ | exact ext_d _ _ _ _ | exact ext_app _ _ _ _ _ | exact ext_app2 _ _ _ _ _ _ | exact ext_app3 _ _ _ _ _ _ _)) | ((with_reducible refine ext_suffix ⟨_, ?_⟩); (try simp only [Array.append_assoc]); rfl) | (with_reducible (first | apply Ext.drew | apply Ext.alloc | apply Ext.more_)))⟩
end Go.Proofs.YteigcfflljoioaaGreatDoor
namespace Go.Proofs.YteigcfflljoioaaGreatDoor
open Go.ChangeShapes Go.WideShapes Go.ChangeAt Go.RowKit Go.Deep
theorem own : ownKnob Tryz.prog.godebug = none := by kernel_rfl
theorem laidOut : laidOutB Tryz.prog = true := by kernel_rfl
theorem cells_num : Tryz.prog.cellsOf 24 = 2 := by kernel_rfl
theorem cells_int : Tryz.prog.cellsOf 3 = 1 := by kernel_rfl
/-- What all rows of this seat list. -/
def laid3 : List (String × DataW Unit) := [("math/bits.deBruijn32tab", Rows.laid_math_bits_deBruijn32tab), ("math/bits.deBruijn64tab", Rows.laid_math_bits_deBruijn64tab), ("internal/strconv.uint64pow10", Rows.laid_internal_strconv_uint64pow10)]
theorem pow10_data : (Rows.laid_internal_strconv_uint64pow10 : DataW Unit) = Lib.tabData .u64 Lib.pow10Tab := by
  unfold Rows.laid_internal_strconv_uint64pow10 Lib.tabData Lib.pow10Tab
  simp [List.range_succ]
theorem gPow : Tryz.prog.globalNamed "internal/strconv.uint64pow10" = some 3 := by kernel_rfl
theorem tPow : (Tryz.prog.globals[3]?).map (·.type) = some 181 := by kernel_rfl
theorem tab_of_laid {W : World} (h : laidMetH Tryz.prog laid3 W) : Tab W := by
  rw [MakeChecks.laidMetH_plain _ _ _ (by kernel_rfl)] at h
  obtain ⟨ps, ⟨g0, t0, cs0, f0, p0, q0, hg0, ht0, hv0, hd0, ⟨g1, t1, cs1, f1, p1, q1, hg1, ht1, hv1, hd1, ⟨g2, t2, cs2, f2, p2, q2, hg2, ht2, hv2, hd2, _, _⟩, _⟩, _⟩, _, _⟩ := h
  obtain rfl := Option.some.inj (gPow.symm.trans hg2)
  obtain rfl := Option.some.inj (tPow.symm.trans ht2)
  rw [pow10_data] at hd2
  unfold Tab Lib.TabIs
  rw [hv2, ← Lib.cells_of_tab Tryz.underlying181 Tryz.underlying117 (by kernel_rfl) (by kernel_rfl) hd2]
theorem door_met (os : Os) (args : Array Value) : laidMetH Tryz.prog laid3 ((World.doorLaid Tryz.prog 400 os).forCall (fun _ _ => 0) ⟨#[], args, []⟩).memory :=
  laidMetH_of_parts3 (fuel := 8) (laidMet_of_run' 8 (by kernel_rfl) (by kernel_rfl)) (by kernel_rfl) (by kernel_rfl)
set_option maxRecDepth 100000
section
variable {H : Type} {enc : TypeId × Value → H} {w : World} {base : Nat} {spare : Nat → Bool} {held : Bool}
theorem i64_of {n : Int} (h : (Lit.int .i64 n).wf = true) : I64 n := by
  simpa [Lit.wf, IntKind.min, IntKind.max, IntKind.signed, IntKind.bits, I64] using h
theorem trod_blocks_ {t : TypeId} {v : Value} {d : DataW H} {p : List MemPlace} (h : DataW.Trod enc Tryz.prog w base spare held t v d p) : ∀ x ∈ p, x.block < w.heap.size := by
  obtain ⟨m, hm⟩ := h
  exact DataW.trod_lt m _ _ _ hm
theorem open_str {r : Reach} {b0 : Nat} {v : Value} {d : DataW H} {p : List MemPlace} (hv : Value.okWide Tryz.prog w r b0 9 v) (_h : DataW.Trod enc Tryz.prog w base spare held 9 v d p) : ∃ s : ByteArray, v = .string s ∧ True := by
  obtain ⟨s, rfl⟩ := okWide_string Tryz.underlying9 hv
  exact ⟨s, rfl, trivial⟩
end
end Go.Proofs.YteigcfflljoioaaGreatDoor
namespace Go.Proofs.YteigcfflljoioaaGreatDoor
open Go.ChangeShapes Go.WideShapes Go.ChangeAt Go.RowKit Go.Deep
theorem cells_val : Tryz.prog.cellsOf 26 = 6 := by kernel_rfl
theorem cells_string : Tryz.prog.cellsOf 9 = 1 := by kernel_rfl
theorem cells_bool : Tryz.prog.cellsOf 4 = 1 := by kernel_rfl
set_option maxRecDepth 100000
section
variable {H : Type} {enc : TypeId × Value → H} {w : World} {base : Nat} {spare : Nat → Bool} {held : Bool}
theorem open_num {fuel : Nat} {c1 c2 : Value} {x : DataW H × List MemPlace} (h : DataW.trod enc Tryz.prog w base spare held fuel 24 [c1, c2] = some x) : ∃ m e : Int, [c1, c2] = [.int .i64 m, .int .i64 e] ∧ I64 m ∧ I64 e := by
  obtain ⟨xs, n, rfl, _, hl, hxs, hf⟩ := DataW.trod_struct Tryz.underlying24 h
  obtain ⟨y0, hy0⟩ : ∃ y, xs[0]? = some y := ⟨_, List.getElem?_eq_getElem (by rw [hxs]; decide)⟩
  have g0 : DataW.trod enc Tryz.prog w base spare held n 3 [c1] = some y0 := by rw [← hy0]; have := hf 0 _ rfl; simpa [cells_int] using this
  obtain ⟨y1, hy1⟩ : ∃ y, xs[1]? = some y := ⟨_, List.getElem?_eq_getElem (by rw [hxs]; decide)⟩
  have g1 : DataW.trod enc Tryz.prog w base spare held n 3 [c2] = some y1 := by rw [← hy1]; have := hf 1 _ rfl; simpa [cells_int] using this
  obtain ⟨m, e0, _, w0⟩ := DataW.trod_int Tryz.underlying3 g0
  obtain ⟨e, e1, _, w1⟩ := DataW.trod_int Tryz.underlying3 g1
  simp only [List.cons.injEq, and_true] at e0 e1
  subst e0 e1
  exact ⟨m, e, rfl, i64_of w0, i64_of w1⟩
set_option maxHeartbeats 800000 in
theorem open_val {fuel : Nat} {cs : List Value} {x : DataW H × List MemPlace} (h : DataW.trod enc Tryz.prog w base spare held fuel 26 cs = some x) : ∃ y : Val, cs = y.cells ∧ y.ok := by
  obtain ⟨xs, n, rfl, _, hl, hxs, hf⟩ := DataW.trod_struct Tryz.underlying26 h
  rw [cells_val] at hl
  match cs, hl with
  | [c0, c1, c2, c3, c4, c5], _ =>
    obtain ⟨y0, hy0⟩ : ∃ y, xs[0]? = some y := ⟨_, List.getElem?_eq_getElem (by rw [hxs]; decide)⟩
    have g0 : DataW.trod enc Tryz.prog w base spare held n 3 [c0] = some y0 := by rw [← hy0]; have := hf 0 _ rfl; simpa [cells_int] using this
    obtain ⟨y1, hy1⟩ : ∃ y, xs[1]? = some y := ⟨_, List.getElem?_eq_getElem (by rw [hxs]; decide)⟩
    have g1 : DataW.trod enc Tryz.prog w base spare held n 24 [c1, c2] = some y1 := by rw [← hy1]; have := hf 1 _ rfl; simpa [cells_num] using this
    obtain ⟨y2, hy2⟩ : ∃ y, xs[2]? = some y := ⟨_, List.getElem?_eq_getElem (by rw [hxs]; decide)⟩
    have g2 : DataW.trod enc Tryz.prog w base spare held n 9 [c3] = some y2 := by rw [← hy2]; have := hf 2 _ rfl; simpa [cells_string] using this
    obtain ⟨y3, hy3⟩ : ∃ y, xs[3]? = some y := ⟨_, List.getElem?_eq_getElem (by rw [hxs]; decide)⟩
    have g3 : DataW.trod enc Tryz.prog w base spare held n 4 [c4] = some y3 := by rw [← hy3]; have := hf 3 _ rfl; simpa [cells_bool] using this
    obtain ⟨y4, hy4⟩ : ∃ y, xs[4]? = some y := ⟨_, List.getElem?_eq_getElem (by rw [hxs]; decide)⟩
    have g4 : DataW.trod enc Tryz.prog w base spare held n 3 [c5] = some y4 := by rw [← hy4]; have := hf 4 _ rfl; simpa [cells_int] using this
    obtain ⟨k, e0, _, w0⟩ := DataW.trod_int Tryz.underlying3 g0
    obtain ⟨m, ex, e1, w1, w2⟩ := open_num g1
    obtain ⟨t, e3, _, w3⟩ := DataW.trod_string Tryz.underlying9 g2
    obtain ⟨b, e4, _⟩ := DataW.trod_bool Tryz.underlying4 g3
    obtain ⟨f, e5, _, w5⟩ := DataW.trod_int Tryz.underlying3 g4
    simp only [List.cons.injEq, and_true] at e0 e1 e3 e4 e5
    obtain ⟨rfl, rfl⟩ := e1
    subst e0 e3 e4 e5
    exact ⟨⟨k, m, ex, t, b, f⟩, rfl, i64_of w0, w1, w2, w3, i64_of w5⟩
theorem open_valV {r : Reach} {b0 : Nat} {v : Value} {d : DataW H} {p : List MemPlace} (hv : Value.okWide Tryz.prog w r b0 26 v) (h : DataW.Trod enc Tryz.prog w base spare held 26 v d p) :
    ∃ x : Val, v = VV x.kind x.mant x.exp x.text x.truth x.fault ∧ x.ok := by
  obtain ⟨cs, rfl, hsz⟩ : ∃ cs, v = .agg cs ∧ cs.size = Tryz.prog.cellsOf 26 := by
    simp only [Value.okWide, Tryz.underlying26] at hv
    obtain ⟨cs, h1, h2, _⟩ := hv
    exact ⟨cs, h1, h2⟩
  obtain ⟨fuel, hf⟩ := h
  obtain ⟨cl⟩ := cs
  have hf' : DataW.trod enc Tryz.prog w base spare held fuel 26 cl = some (d, p) := by simpa [Value.cells] using hf
  obtain ⟨x, rfl, hx⟩ := open_val hf'
  exact ⟨x, rfl, hx⟩
end
end Go.Proofs.YteigcfflljoioaaGreatDoor
