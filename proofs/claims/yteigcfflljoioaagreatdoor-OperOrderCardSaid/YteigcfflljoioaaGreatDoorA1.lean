/- What the rows' proofs lean on: the contracts of the functions that they reach, and plain facts (part A1). -/
import Derived.WalkKit
import Derived.WalkLawsBesides
import Derived.WalkSpells
import Derived.Outline
import Derived.Below
import Derived.Deep.RegionHeld3
import Derived.Deep.DeepCutAuto
import Derived.Deep.AppendLies
import Derived.Maps.AppendAt
import Derived.Lib.Hide
import Derived.OrdersHeld
import Derived.Test.YteigcfflljoioaaGreatDoorProg
import Derived.Shelf.Strings.Builder1
import Derived.Shelf.Strings.Builder2
import Derived.Shelf.Small.Bits
import Derived.Shelf.Small.Strs
import Derived.Shelf.Strings.BuilderF
import Derived.Shelf.Strconv.Itoa0
import Derived.Shelf.Strconv.Itoa1
import Derived.Shelf.LaysM
import Derived.Shelf.Strconv.Itoa2
import Derived.Shelf.Strings.Prefix
import Derived.Shelf.Bits.Mul64
import Derived.Shelf.Strings.Repeat
import Derived.Lib.ItoaMem
import Derived.Lib.OthersKept
import Derived.Deep.CutBlock
import Derived.Laws.Bits64b
import Derived.Lib.AppendZeros
import Derived.Lib.Bytealg
import Derived.Laws.RangeAny
import Derived.Lib.ConvBytes
import Derived.Lib.SlBytesRow
import Derived.Lib.SmallJoins
import Derived.RegionTactic
import Derived.Maps.OwnSet
import Derived.Maps.Own
import Derived.Laws.EntriesVeiled
import Derived.Test.YteigcfflljoioaaGreatDoorRows
import Derived.Test.YteigcfflljoioaaGreatDoorCards
import Derived.Test.YteigcfflljoioaaGreatDoorTie
import Derived.ProofKit
import Derived.LaidMore
import Derived.OpenShut
import Derived.ShutString
import Derived.ChangeOld
import Derived.Stop.Joined
import Derived.Deep.Slices
import Derived.SevenTiedAt
import Derived.Test.YteigcfflljoioaaGreatDoorM6
set_option linter.unusedSimpArgs false
set_option linter.unusedVariables false
set_option maxRecDepth 100000
namespace Go.Proofs.YteigcfflljoioaaGreatDoor
open Go.RowKit NM
theorem sum_flip (ma ea mb eb : Int) : sumI mb eb (-ma) ea = - sumI ma ea (-mb) eb := by
  unfold sumI
  rw [Int.min_comm eb ea, Int.neg_mul, Int.neg_mul]; omega
theorem cmp_flip (ma ea mb eb : Int) : cmpS mb eb ma ea = - cmpS ma ea mb eb := by
  unfold cmpS
  by_cases h : Rt ma ea ∧ Rt mb eb
  · rw [if_pos h, if_pos h.symm, sum_flip, Int.sign_neg]
  · rw [if_neg h, if_neg (fun h' => h h'.symm)]; rfl
theorem cmp_bd (ma ea mb eb : Int) : -1 ≤ cmpS ma ea mb eb ∧ cmpS ma ea mb eb ≤ 1 := by
  unfold cmpS; split
  · exact sign_bd _
  · omega
end Go.Proofs.YteigcfflljoioaaGreatDoor
namespace Go.Proofs.YteigcfflljoioaaGreatDoor
open Go.RowKit NM
theorem sgOf_key (g : Sg) : sgOf g.key = some g := by cases g <;> rfl
end Go.Proofs.YteigcfflljoioaaGreatDoor
namespace Go.Proofs.YteigcfflljoioaaGreatDoor
open Go.RowKit
section
variable {P : Program} {ops : Array Oper} {Q : Exit → Act → World → Prop} {tl : List Nat}
variable {W0 : World} {fs : List FL} {tp : List Nat} {a : Act} {E : World → Prop} {i : Nat} {rest : List (Nat × Nat)} {o : Oper}
theorem wpFp_pure {v : Value} (hi : ops.toList[i]? = some o) (hw : Region.wanted o (yielded ops a.tmps) = true) (h : ∀ w, (execOp a.eval o).run P w = .ok (.value v) w) (k : wpFp P ops Q W0 fs tp rest (a.put o.dst v) E) :
    wpFp P ops Q W0 fs tp ((i, 2) :: rest) a E := ⟨o, v, by simpa using hi, .inl ⟨hw, fun w _ => h w⟩, k⟩
/-- One new variable: the world behind the others. -/
theorem wpFp_one {i t : Nat} {ob : Obj} (h : ∀ os1 d1 os2 d2, E (more ((more W0 os1 d1).alloc ob) os2 d2) → wpTl P ops Q tp (a.put (some t) (.pointer (some ⟨W0.heap.size + os1.size, 0, none⟩))) (more ((more W0 os1 d1).alloc ob) os2 d2)) :
    wpFp P ops Q W0 [(i, t, ob)] tp [] a E := by
  intro β w hX hE hb _
  obtain ⟨b, hb1, hb2, hb3⟩ := hb _ (List.mem_singleton.2 rfl)
  obtain ⟨os, d, rfl⟩ := hX.more
  obtain ⟨k, rfl⟩ : ∃ k, b = W0.heap.size + k := ⟨b - W0.heap.size, by omega⟩
  have hk : os[k]? = some ob := by
    have : (W0.heap ++ os)[W0.heap.size + k]? = some ob := hb2
    rw [Array.getElem?_append_right (by omega)] at this
    simpa using this
  have hklt : k < os.size := (Array.getElem?_eq_some_iff.1 hk).1
  have hos : os = (os.extract 0 k).push ob ++ os.extract (k + 1) os.size := by
    apply Array.ext_getElem?
    intro j
    have hs : (os.extract 0 k).size = k := by simp; omega
    rcases Nat.lt_trichotomy j k with hj | rfl | hj
    · rw [Array.getElem?_append_left (by simp; omega), Array.getElem?_push, if_neg (by omega), Array.getElem?_extract]
      simp
      omega
    · rw [Array.getElem?_append_left (by simp; omega), Array.getElem?_push, if_pos (by omega)]; exact hk
    · rw [Array.getElem?_append_right (by simp; omega), Array.getElem?_extract]
      by_cases h2 : j < os.size
      · rw [if_pos (by simp; omega)]
        congr 1
        simp
        omega
      · rw [if_neg (by simp; omega), Array.getElem?_eq_none (by omega)]
  have hw : more W0 os d = more ((more W0 (os.extract 0 k) d).alloc ob) (os.extract (k + 1) os.size) d := by
    simp only [more, World.alloc]
    congr 1
    conv => lhs; rw [hos]
    simp
  have hsz : (os.extract 0 k).size = k := by simp; omega
  have := h (os.extract 0 k) d (os.extract (k + 1) os.size) d (by rw [← hw]; exact hE)
  rw [← hw, hsz] at this
  have hp : putF [(i, t, ob)] β a = a.put (some t) (ptrB (W0.heap.size + k)) := by
    unfold putF
    rw [hb1]
    rfl
  rw [hp]
  exact this
end
end Go.Proofs.YteigcfflljoioaaGreatDoor
namespace Go.Proofs.YteigcfflljoioaaGreatDoor
open Go.RowKit
/-- An array's values stand in no array's variable: that one may turn. -/
theorem ArrIn.box {X : World} {os : Array Obj} {d : Nat} {i0 i1 : Int} {p : Option Addr} {q r : Nat} {ty : TypeId} {A : Option Addr} {n cap : Nat} {l : List Val} (h : ArrIn (more (X.alloc (.cells #[.int .i64 i0, .int .i64 i1, .slice p q r] ty)) os d) A n cap l) (C' : Array Value) (ty' : TypeId) (d' : Nat) :
    ArrIn (more (X.alloc (.cells C' ty')) os d') A n cap l := by
  refine ⟨fun j u hu => ?_, h.len, h.cap, h.small, h.ok⟩
  obtain ⟨b, off, hA, hb, hc⟩ := h.rd j u hu
  refine ⟨b, off, hA, hb, ?_⟩
  have hne : b ≠ X.heap.size := by
    intro e
    cases l with
    | nil => simp [vcells] at hu
    | cons x l =>
      obtain ⟨b', off', hA', _, hc3⟩ := h.rd 3 (.string x.text) (by simp [vcells, Val.cells])
      rw [hA] at hA'
      simp only [Option.some.injEq, Addr.mk.injEq, and_true] at hA'
      obtain ⟨rfl, rfl⟩ := hA'
      subst e
      rw [more_cell _ _ _ _ _ (by simp), World.cell?_alloc_at _ _ _ _ rfl] at hc3
      simp at hc3
  rw [← hc]
  refine World.cell?_of_block ?_
  show (more (X.alloc (.cells C' ty')) os d').heap[b]? = (more (X.alloc _) os d).heap[b]?
  simp only [more, World.alloc, Array.getElem?_append, Array.size_push, Array.getElem?_push]
  by_cases hlt : b < X.heap.size + 1
  · rw [if_pos hlt, if_pos hlt, if_neg hne, if_neg hne]
  · rw [if_neg hlt, if_neg hlt]
end Go.Proofs.YteigcfflljoioaaGreatDoor
namespace Go.Proofs.YteigcfflljoioaaGreatDoor
open Go.RowKit NM
theorem sgI_flip (a b : Int) : sgI b a = - sgI a b := by
  unfold sgI
  by_cases h : a < b
  · rw [if_pos h, if_neg (by omega), if_pos h]; rfl
  · rw [if_neg h]
    by_cases h' : b < a
    · rw [if_pos h', if_neg h, if_pos h']
    · rw [if_neg h', if_neg h, if_neg h']; rfl
theorem sgB_flip (a b : Bool) : sgB b a = - sgB a b := by cases a <;> cases b <;> rfl
theorem cmpT_flip (a b : ByteArray) : cmpT b a = - cmpT a b := cb_flip _ _
theorem cmpK_same {a b : Val} (h : a.kind = b.kind) : cmpK a b = if a.kind = 1 then cmpS a.mant a.exp b.mant b.exp else if a.kind = 2 then cmpT a.text b.text else if a.kind = 3 then sgB a.truth b.truth else if a.kind = 4 then sgI a.fault b.fault else 0 := by
  unfold cmpK
  rw [if_neg (fun h' => h' h)]
theorem cmpK_flip (a b : Val) : cmpK b a = - cmpK a b := by
  by_cases h : a.kind = b.kind
  · rw [cmpK_same h, cmpK_same h.symm, ← h]
    by_cases h1 : a.kind = 1
    · rw [if_pos h1, if_pos h1]; exact cmp_flip _ _ _ _
    · rw [if_neg h1, if_neg h1]
      by_cases h2 : a.kind = 2
      · rw [if_pos h2, if_pos h2]; exact cmpT_flip _ _
      · rw [if_neg h2, if_neg h2]
        by_cases h3 : a.kind = 3
        · rw [if_pos h3, if_pos h3]; exact sgB_flip _ _
        · rw [if_neg h3, if_neg h3]
          by_cases h4 : a.kind = 4
          · rw [if_pos h4, if_pos h4]; exact sgI_flip _ _
          · rw [if_neg h4, if_neg h4]; rfl
  · unfold cmpK
    rw [if_pos (fun h' => h h'.symm), if_pos h]
    by_cases h2 : a.kind < b.kind
    · rw [if_pos h2, if_neg (by omega)]; rfl
    · rw [if_neg h2, if_pos (by omega)]
theorem cmpV_flip (a b : Val) : cmpV b a = - cmpV a b := cmpK_flip _ _
def Tri (n : Int) : Prop := n = -1 ∨ n = 0 ∨ n = 1
theorem sgI_tri (a b : Int) : Tri (sgI a b) := by
  unfold sgI Tri; split
  · exact Or.inl rfl
  · split
    · exact Or.inr (Or.inr rfl)
    · exact Or.inr (Or.inl rfl)
theorem cmpS_tri (a b c d : Int) : Tri (cmpS a b c d) := by
  have := cmp_bd a b c d
  unfold Tri; omega
theorem cmpK_tri (a b : Val) : Tri (cmpK a b) := by
  by_cases h : a.kind = b.kind
  · rw [cmpK_same h]
    by_cases h1 : a.kind = 1
    · rw [if_pos h1]; exact cmpS_tri _ _ _ _
    · rw [if_neg h1]
      by_cases h2 : a.kind = 2
      · rw [if_pos h2]; exact cb_vals _ _
      · rw [if_neg h2]
        by_cases h3 : a.kind = 3
        · rw [if_pos h3]
          cases a.truth <;> cases b.truth <;> (unfold Tri sgB; simp)
        · rw [if_neg h3]
          by_cases h4 : a.kind = 4
          · rw [if_pos h4]; exact sgI_tri _ _
          · rw [if_neg h4]; exact Or.inr (Or.inl rfl)
  · unfold cmpK
    rw [if_pos h]
    split
    · exact Or.inl rfl
    · exact Or.inr (Or.inr rfl)
theorem cmpV_tri (a b : Val) : Tri (cmpV a b) := cmpK_tri _ _
end Go.Proofs.YteigcfflljoioaaGreatDoor
namespace Go.Proofs.YteigcfflljoioaaGreatDoor
open Go.RowKit NM
theorem hold_truth {g : Sg} {p : Int → Bool} (hg : opV g = holdV p) {x y : Val} (h1 : x.kind ≠ 4) (h2 : y.kind ≠ 4) : opV g x y = truthV (p (cmpV x y)) := by
  rw [hg]; unfold holdV; rw [if_neg h1, if_neg h2]
set_option maxHeartbeats 1000000 in
theorem order1_any (g : Sg) (x y : Val) (w : World) (htab : Tab w) (hx : x.right) (hy : y.right) (b : Bool) (hz : opV g x y = truthV b) :
    Calls Tryz.prog 22 #[.string ⟨g.key.toArray⟩, VV x.kind x.mant x.exp x.text x.truth x.fault, VV y.kind y.mant y.exp y.text y.truth y.fault] w fun e w' => e = .returned (.tuple #[.bool b, .bool true]) ∧ Ext w w' := by
  have hA := both_one g hx hy
  rw [hz] at hA
  have HT := Lib.hid htab
  have h1 := fun W => one10_any x W hx.ok
  have h2 := fun W => one10_any y W hy.ok
  have hsm : (⟨g.key.toArray⟩ : ByteArray).size ≤ maxLen := by cases g <;> decide
  have HG := Lib.hid (And.intro (sgOf_key g) hA)
  generalize hsb : (⟨g.key.toArray⟩ : ByteArray) = sb at *
  have hg : sgOf sb.data.toList = some g := by rw [← hsb]; exact sgOf_key g
  have HG2 := Lib.hid hg
  clear hA hg hsb htab hz
  have hex : ∃ l1, l1 = [x] := ⟨_, rfl⟩
  obtain ⟨lx, hlx⟩ := hex
  have hex : ∃ l1, l1 = [y] := ⟨_, rfl⟩
  obtain ⟨ly, hly⟩ := hex
  rw [← hlx] at h1 HG
  rw [← hly] at h2 HG
  clear hlx hly hx hy
  generalize x.kind = xk at *; generalize x.mant = xm at *; generalize x.exp = xe at *; generalize x.text = xt at *; generalize x.truth = xb at *; generalize x.fault = xf at *
  generalize y.kind = yk at *; generalize y.mant = ym at *; generalize y.exp = ye at *; generalize y.text = yt at *; generalize y.truth = yb at *; generalize y.fault = yf at *
  go_enter Tryz.func22, Tryz.ntmps22
  go_upto_region 1 with fail
  refine wp_float [(9, 8, (.cells #[.int .i64 0, .int .i64 0, .slice none 0 0] 34))] [(0, 0), (1, 0), (3, 0), (2, 1), (4, 1), (5, 1), (6, 0), (7, 0), (8, 2)] [10, 11] [10, 11] [8] (by kernel_rfl) (by kernel_rfl) (by kernel_rfl) (fun _ _ d _ _ h => by cases d <;> exact h) (fun _ _ d _ _ h => by cases d <;> exact h) (fun x hx o ho a w => by (obtain rfl := List.mem_singleton.1 hx); (obtain rfl := Option.some.inj ho); (first | rfl | (simp [go_sem, ptrB]; done) | (go_simp; rfl))) ?_
  iterate 3 ((refine wpFp_read (v := ?_) rfl ?_ (fun w1 h1 => ?_) ?_; rotate_left 1; rfl; (obtain ⟨os1, d1, rfl⟩ := h1.more; go_simp; first | done | rfl)); try simp only [Act.put, zqA, zqB, zqC])
  (refine wpFp_eff rfl ?_ (fun wf hXf hE K hK => ?_); rfl; obtain ⟨osf, df, rfl⟩ := hXf.more; go_simp; refine (h1 _).mono ?_; rintro e w' ⟨D1, c1, rfl, hN1, hb⟩; refine hK _ _ (fun W => ArrIn W D1 1 c1 lx) (by (try simp only [more_drew, more_more]); exact hb) (fun _ _ hx h => h.ext hx) hN1.arr ?_)
  try simp only [Act.put, zqA, zqB, zqC]
  (refine wpFp_eff rfl ?_ (fun wf hXf hE K hK => ?_); rfl; obtain ⟨osf, df, rfl⟩ := hXf.more; go_simp; refine (h2 _).mono ?_; rintro e w' ⟨D2, c2, rfl, hN2, hb⟩; refine hK _ _ (fun W => ArrIn W D1 1 c1 lx ∧ ArrIn W D2 1 c2 ly) (by (try simp only [more_drew, more_more]); exact hb) (fun _ _ hx h => ⟨h.1.ext hx, h.2.ext hx⟩) ⟨hE.ext (by (try simp only [more_drew, more_more]); exact hb), hN2.arr⟩ ?_)
  try simp only [Act.put, zqA, zqB, zqC]
  (refine wpFp_eff rfl ?_ (fun wf hXf hE K hK => ?_); rfl; obtain ⟨osf, df, rfl⟩ := hXf.more; go_simp; refine (binary_yes g sb 1 1 1 1 D1 D2 1 c1 1 c2 lx ly _ (HT.out.ext (by repeat (first | (with_reducible (first | exact Ext.refl _ | exact ext_d _ _ _ _ | exact ext_app _ _ _ _ _ | exact ext_app2 _ _ _ _ _ _ | exact ext_app3 _ _ _ _ _ _ _)) | ((with_reducible refine ext_suffix ⟨_, ?_⟩); (try simp only [Array.append_assoc]); rfl) | (with_reducible (first | apply Ext.drew | apply Ext.alloc | apply Ext.more_))))) hsm HG2.out hE.1 hE.2 ⟨1, 1, [truthV b]⟩ HG.out.2).mono ?_; rintro e w' ⟨D3, m3, c3, rfl, hN3, hb⟩; refine hK _ _ (fun W => ArrIn W D3 m3 c3 [truthV b]) (by (try simp only [more_drew, more_more]); exact hb) (fun _ _ hx h => h.ext hx) hN3.arr ?_)
  try simp only [Act.put, zqA, zqB, zqC]
  iterate 2 ((refine wpFp_read (v := ?_) rfl ?_ (fun w1 h1 => ?_) ?_; rotate_left 1; rfl; (obtain ⟨os1, d1, rfl⟩ := h1.more; go_simp; first | done | rfl)); try simp only [Act.put, zqA, zqB, zqC])
  (refine wpFp_pure (v := ?_) rfl ?_ (fun w1 => ?_) ?_; rotate_left 1; rfl; (go_simp; first | done | rfl))
  try simp only [Act.put, zqA, zqB, zqC]
  refine wpFp_one fun osa da osb db hE => ?_
  try simp only [Act.put, zqA, zqB, zqC]
  iterate 2 ((refine wpTl_op rfl ?_ (fun K hK => ?_); rfl; go_simp; refine hK _ _ ?_); try simp only [Act.put, zqA, zqB, zqC])
  refine wpTl_nil ?_
  have hR := hE.box #[.int .i64 1, .int .i64 1, .slice D3 m3 c3] 34 db
  clear hE
  (try simp only [more_more, drew_more, more_drew, Array.append_assoc] at hR)
  obtain rfl : m3 = 1 := by have := hR.len; simpa using this.symm
  obtain ⟨b0, off, rfl, hv, _⟩ := hR.get (k := 0) (by omega)
  obtain ⟨v0, v1, v2, v3, v4, v5⟩ := hv
  have hb0 := lt_of_cell v0
  simp only [Nat.zero_mul, Nat.add_zero, getV, List.getElem?_cons_zero, Option.getD_some, truthV] at v0 v1 v2 v3 v4 v5
  clear hR
  go_wp2_with fail
  exact bodyPost_ret (v := .tuple #[.bool b, .bool true]) (by simp [results, Tryz.results22, go_sem]) rfl ⟨rfl, by repeat (first | (with_reducible (first | exact Ext.refl _ | exact ext_d _ _ _ _ | exact ext_app _ _ _ _ _ | exact ext_app2 _ _ _ _ _ _ | exact ext_app3 _ _ _ _ _ _ _)) | ((with_reducible refine ext_suffix ⟨_, ?_⟩); (try simp only [Array.append_assoc]); rfl) | (with_reducible (first | apply Ext.drew | apply Ext.alloc | apply Ext.more_)))⟩
set_option maxHeartbeats 2000000 in
theorem operOrder_m (x y : Val) (w : World) (htab : Tab w) (hx : x.ok) (hy : y.ok) (rx : x.right) (ry : y.right) (k1 : x.kind ≠ 4) (k2 : y.kind ≠ 4) (hc : cmpV x y = -1) :
    Calls Tryz.prog 5 #[VV x.kind x.mant x.exp x.text x.truth x.fault, VV y.kind y.mant y.exp y.text y.truth y.fault] w fun e w' => e = .returned (.bool true) ∧ Ext w w' := by
  have hd : cmpV y x = 1 := by rw [cmpV_flip, hc]; first | done | rfl
  have g1 := fun W => refRight_any x.kind x.mant x.exp x.fault x.text x.truth W hx.2.1 hx.2.2.2.1
  have g2 := fun W => refRight_any y.kind y.mant y.exp y.fault y.text y.truth W hy.2.1 hy.2.2.2.1
  rw [show refRight ⟨x.kind, x.mant, x.exp, x.text, x.truth, x.fault⟩ = true from (right_eq x hx).symm.trans rx] at g1
  rw [show refRight ⟨y.kind, y.mant, y.exp, y.text, y.truth, y.fault⟩ = true from (right_eq y hy).symm.trans ry] at g2
  have q1 : (x.kind == 4) = false := by simpa using k1
  have q2 : (y.kind == 4) = false := by simpa using k2
  have e0 : ∀ W, Tab W → Calls Tryz.prog 22 #[.string ⟨#[61]⟩, VV x.kind x.mant x.exp x.text x.truth x.fault, VV y.kind y.mant y.exp y.text y.truth y.fault] W fun e W' => e = .returned (.tuple #[.bool false, .bool true]) ∧ Ext W W' := fun W hW => order1_any .eq x y W hW rx ry false (by rw [hold_truth (g := .eq) rfl k1 k2, hc]; first | done | rfl)
  have e1 : ∀ W, Tab W → Calls Tryz.prog 22 #[.string ⟨#[60]⟩, VV x.kind x.mant x.exp x.text x.truth x.fault, VV y.kind y.mant y.exp y.text y.truth y.fault] W fun e W' => e = .returned (.tuple #[.bool true, .bool true]) ∧ Ext W W' := fun W hW => order1_any .lt x y W hW rx ry true (by rw [hold_truth (g := .lt) rfl k1 k2, hc]; first | done | rfl)
  have e2 : ∀ W, Tab W → Calls Tryz.prog 22 #[.string ⟨#[62]⟩, VV x.kind x.mant x.exp x.text x.truth x.fault, VV y.kind y.mant y.exp y.text y.truth y.fault] W fun e W' => e = .returned (.tuple #[.bool false, .bool true]) ∧ Ext W W' := fun W hW => order1_any .gt x y W hW rx ry false (by rw [hold_truth (g := .gt) rfl k1 k2, hc]; first | done | rfl)
  have e3 : ∀ W, Tab W → Calls Tryz.prog 22 #[.string ⟨#[60, 62]⟩, VV x.kind x.mant x.exp x.text x.truth x.fault, VV y.kind y.mant y.exp y.text y.truth y.fault] W fun e W' => e = .returned (.tuple #[.bool true, .bool true]) ∧ Ext W W' := fun W hW => order1_any .ne x y W hW rx ry true (by rw [hold_truth (g := .ne) rfl k1 k2, hc]; first | done | rfl)
  have e4 : ∀ W, Tab W → Calls Tryz.prog 22 #[.string ⟨#[60, 61]⟩, VV x.kind x.mant x.exp x.text x.truth x.fault, VV y.kind y.mant y.exp y.text y.truth y.fault] W fun e W' => e = .returned (.tuple #[.bool true, .bool true]) ∧ Ext W W' := fun W hW => order1_any .le x y W hW rx ry true (by rw [hold_truth (g := .le) rfl k1 k2, hc]; first | done | rfl)
  have e5 : ∀ W, Tab W → Calls Tryz.prog 22 #[.string ⟨#[62, 61]⟩, VV x.kind x.mant x.exp x.text x.truth x.fault, VV y.kind y.mant y.exp y.text y.truth y.fault] W fun e W' => e = .returned (.tuple #[.bool false, .bool true]) ∧ Ext W W' := fun W hW => order1_any .ge x y W hW rx ry false (by rw [hold_truth (g := .ge) rfl k1 k2, hc]; first | done | rfl)
  have e6 : ∀ W, Tab W → Calls Tryz.prog 22 #[.string ⟨#[62]⟩, VV y.kind y.mant y.exp y.text y.truth y.fault, VV x.kind x.mant x.exp x.text x.truth x.fault] W fun e W' => e = .returned (.tuple #[.bool true, .bool true]) ∧ Ext W W' := fun W hW => order1_any .gt y x W hW ry rx true (by rw [hold_truth (g := .gt) rfl k2 k1, hd]; first | done | rfl)
  have HT := Lib.hid htab
  clear htab hx hy rx ry k1 k2 hc hd
  generalize x.kind = xk at *; generalize x.mant = xm at *; generalize x.exp = xe at *; generalize x.text = xt at *; generalize x.truth = xb at *; generalize x.fault = xf at *
  generalize y.kind = yk at *; generalize y.mant = ym at *; generalize y.exp = ye at *; generalize y.text = yt at *; generalize y.truth = yb at *; generalize y.fault = yf at *
  go_enter Tryz.func5, Tryz.ntmps5
  go_wp2_with fail
  refine (awake10_any _ (HT.out.ext (by repeat (first | (with_reducible (first | exact Ext.refl _ | exact ext_d _ _ _ _ | exact ext_app _ _ _ _ _ | exact ext_app2 _ _ _ _ _ _ | exact ext_app3 _ _ _ _ _ _ _)) | ((with_reducible refine ext_suffix ⟨_, ?_⟩); (try simp only [Array.append_assoc]); rfl) | (with_reducible (first | apply Ext.drew | apply Ext.alloc | apply Ext.more_)))))).mono ?_; rintro e w' ⟨rfl, hb⟩; obtain ⟨os1, d1, rfl⟩ := hb.more; clear hb
  go_wp2_with fail
  refine (g1 _).mono ?_; rintro e w' ⟨rfl, hb⟩; obtain ⟨os2, d2, rfl⟩ := hb.more; clear hb
  go_wp2_with fail
  refine (g2 _).mono ?_; rintro e w' ⟨rfl, hb⟩; obtain ⟨os3, d3, rfl⟩ := hb.more; clear hb
  go_wp2_with fail
  refine (e0 _ (HT.out.ext (by repeat (first | (with_reducible (first | exact Ext.refl _ | exact ext_d _ _ _ _ | exact ext_app _ _ _ _ _ | exact ext_app2 _ _ _ _ _ _ | exact ext_app3 _ _ _ _ _ _ _)) | ((with_reducible refine ext_suffix ⟨_, ?_⟩); (try simp only [Array.append_assoc]); rfl) | (with_reducible (first | apply Ext.drew | apply Ext.alloc | apply Ext.more_)))))).mono ?_; rintro e w' ⟨rfl, hb⟩; obtain ⟨os4, d4, rfl⟩ := hb.more; clear hb
  go_wp2_with fail
  refine (e1 _ (HT.out.ext (by repeat (first | (with_reducible (first | exact Ext.refl _ | exact ext_d _ _ _ _ | exact ext_app _ _ _ _ _ | exact ext_app2 _ _ _ _ _ _ | exact ext_app3 _ _ _ _ _ _ _)) | ((with_reducible refine ext_suffix ⟨_, ?_⟩); (try simp only [Array.append_assoc]); rfl) | (with_reducible (first | apply Ext.drew | apply Ext.alloc | apply Ext.more_)))))).mono ?_; rintro e w' ⟨rfl, hb⟩; obtain ⟨os5, d5, rfl⟩ := hb.more; clear hb
  go_wp2_with fail
  refine (e2 _ (HT.out.ext (by repeat (first | (with_reducible (first | exact Ext.refl _ | exact ext_d _ _ _ _ | exact ext_app _ _ _ _ _ | exact ext_app2 _ _ _ _ _ _ | exact ext_app3 _ _ _ _ _ _ _)) | ((with_reducible refine ext_suffix ⟨_, ?_⟩); (try simp only [Array.append_assoc]); rfl) | (with_reducible (first | apply Ext.drew | apply Ext.alloc | apply Ext.more_)))))).mono ?_; rintro e w' ⟨rfl, hb⟩; obtain ⟨os6, d6, rfl⟩ := hb.more; clear hb
  go_wp2_with fail
  refine (e3 _ (HT.out.ext (by repeat (first | (with_reducible (first | exact Ext.refl _ | exact ext_d _ _ _ _ | exact ext_app _ _ _ _ _ | exact ext_app2 _ _ _ _ _ _ | exact ext_app3 _ _ _ _ _ _ _)) | ((with_reducible refine ext_suffix ⟨_, ?_⟩); (try simp only [Array.append_assoc]); rfl) | (with_reducible (first | apply Ext.drew | apply Ext.alloc | apply Ext.more_)))))).mono ?_; rintro e w' ⟨rfl, hb⟩; obtain ⟨os7, d7, rfl⟩ := hb.more; clear hb
  go_wp2_with fail
  refine (e4 _ (HT.out.ext (by repeat (first | (with_reducible (first | exact Ext.refl _ | exact ext_d _ _ _ _ | exact ext_app _ _ _ _ _ | exact ext_app2 _ _ _ _ _ _ | exact ext_app3 _ _ _ _ _ _ _)) | ((with_reducible refine ext_suffix ⟨_, ?_⟩); (try simp only [Array.append_assoc]); rfl) | (with_reducible (first | apply Ext.drew | apply Ext.alloc | apply Ext.more_)))))).mono ?_; rintro e w' ⟨rfl, hb⟩; obtain ⟨os8, d8, rfl⟩ := hb.more; clear hb
  go_wp2_with fail
  refine (e5 _ (HT.out.ext (by repeat (first | (with_reducible (first | exact Ext.refl _ | exact ext_d _ _ _ _ | exact ext_app _ _ _ _ _ | exact ext_app2 _ _ _ _ _ _ | exact ext_app3 _ _ _ _ _ _ _)) | ((with_reducible refine ext_suffix ⟨_, ?_⟩); (try simp only [Array.append_assoc]); rfl) | (with_reducible (first | apply Ext.drew | apply Ext.alloc | apply Ext.more_)))))).mono ?_; rintro e w' ⟨rfl, hb⟩; obtain ⟨os9, d9, rfl⟩ := hb.more; clear hb
  go_wp2_with fail
  refine (e6 _ (HT.out.ext (by repeat (first | (with_reducible (first | exact Ext.refl _ | exact ext_d _ _ _ _ | exact ext_app _ _ _ _ _ | exact ext_app2 _ _ _ _ _ _ | exact ext_app3 _ _ _ _ _ _ _)) | ((with_reducible refine ext_suffix ⟨_, ?_⟩); (try simp only [Array.append_assoc]); rfl) | (with_reducible (first | apply Ext.drew | apply Ext.alloc | apply Ext.more_)))))).mono ?_; rintro e w' ⟨rfl, hb⟩; obtain ⟨os10, d10, rfl⟩ := hb.more; clear hb
  go_wp2_with fail
  go_ret
  exact ⟨rfl, by repeat (first | (with_reducible (first | exact Ext.refl _ | exact ext_d _ _ _ _ | exact ext_app _ _ _ _ _ | exact ext_app2 _ _ _ _ _ _ | exact ext_app3 _ _ _ _ _ _ _)) | ((with_reducible refine ext_suffix ⟨_, ?_⟩); (try simp only [Array.append_assoc]); rfl) | (with_reducible (first | apply Ext.drew | apply Ext.alloc | apply Ext.more_)))⟩
set_option maxHeartbeats 2000000 in
theorem operOrder_z (x y : Val) (w : World) (htab : Tab w) (hx : x.ok) (hy : y.ok) (rx : x.right) (ry : y.right) (k1 : x.kind ≠ 4) (k2 : y.kind ≠ 4) (hc : cmpV x y = 0) :
    Calls Tryz.prog 5 #[VV x.kind x.mant x.exp x.text x.truth x.fault, VV y.kind y.mant y.exp y.text y.truth y.fault] w fun e w' => e = .returned (.bool true) ∧ Ext w w' := by
  have hd : cmpV y x = 0 := by rw [cmpV_flip, hc]; first | done | rfl
  have g1 := fun W => refRight_any x.kind x.mant x.exp x.fault x.text x.truth W hx.2.1 hx.2.2.2.1
  have g2 := fun W => refRight_any y.kind y.mant y.exp y.fault y.text y.truth W hy.2.1 hy.2.2.2.1
  rw [show refRight ⟨x.kind, x.mant, x.exp, x.text, x.truth, x.fault⟩ = true from (right_eq x hx).symm.trans rx] at g1
  rw [show refRight ⟨y.kind, y.mant, y.exp, y.text, y.truth, y.fault⟩ = true from (right_eq y hy).symm.trans ry] at g2
  have q1 : (x.kind == 4) = false := by simpa using k1
  have q2 : (y.kind == 4) = false := by simpa using k2
  have e0 : ∀ W, Tab W → Calls Tryz.prog 22 #[.string ⟨#[61]⟩, VV x.kind x.mant x.exp x.text x.truth x.fault, VV y.kind y.mant y.exp y.text y.truth y.fault] W fun e W' => e = .returned (.tuple #[.bool true, .bool true]) ∧ Ext W W' := fun W hW => order1_any .eq x y W hW rx ry true (by rw [hold_truth (g := .eq) rfl k1 k2, hc]; first | done | rfl)
  have e1 : ∀ W, Tab W → Calls Tryz.prog 22 #[.string ⟨#[60]⟩, VV x.kind x.mant x.exp x.text x.truth x.fault, VV y.kind y.mant y.exp y.text y.truth y.fault] W fun e W' => e = .returned (.tuple #[.bool false, .bool true]) ∧ Ext W W' := fun W hW => order1_any .lt x y W hW rx ry false (by rw [hold_truth (g := .lt) rfl k1 k2, hc]; first | done | rfl)
  have e2 : ∀ W, Tab W → Calls Tryz.prog 22 #[.string ⟨#[62]⟩, VV x.kind x.mant x.exp x.text x.truth x.fault, VV y.kind y.mant y.exp y.text y.truth y.fault] W fun e W' => e = .returned (.tuple #[.bool false, .bool true]) ∧ Ext W W' := fun W hW => order1_any .gt x y W hW rx ry false (by rw [hold_truth (g := .gt) rfl k1 k2, hc]; first | done | rfl)
  have e3 : ∀ W, Tab W → Calls Tryz.prog 22 #[.string ⟨#[60, 62]⟩, VV x.kind x.mant x.exp x.text x.truth x.fault, VV y.kind y.mant y.exp y.text y.truth y.fault] W fun e W' => e = .returned (.tuple #[.bool false, .bool true]) ∧ Ext W W' := fun W hW => order1_any .ne x y W hW rx ry false (by rw [hold_truth (g := .ne) rfl k1 k2, hc]; first | done | rfl)
  have e4 : ∀ W, Tab W → Calls Tryz.prog 22 #[.string ⟨#[60, 61]⟩, VV x.kind x.mant x.exp x.text x.truth x.fault, VV y.kind y.mant y.exp y.text y.truth y.fault] W fun e W' => e = .returned (.tuple #[.bool true, .bool true]) ∧ Ext W W' := fun W hW => order1_any .le x y W hW rx ry true (by rw [hold_truth (g := .le) rfl k1 k2, hc]; first | done | rfl)
  have e5 : ∀ W, Tab W → Calls Tryz.prog 22 #[.string ⟨#[62, 61]⟩, VV x.kind x.mant x.exp x.text x.truth x.fault, VV y.kind y.mant y.exp y.text y.truth y.fault] W fun e W' => e = .returned (.tuple #[.bool true, .bool true]) ∧ Ext W W' := fun W hW => order1_any .ge x y W hW rx ry true (by rw [hold_truth (g := .ge) rfl k1 k2, hc]; first | done | rfl)
  have e6 : ∀ W, Tab W → Calls Tryz.prog 22 #[.string ⟨#[62]⟩, VV y.kind y.mant y.exp y.text y.truth y.fault, VV x.kind x.mant x.exp x.text x.truth x.fault] W fun e W' => e = .returned (.tuple #[.bool false, .bool true]) ∧ Ext W W' := fun W hW => order1_any .gt y x W hW ry rx false (by rw [hold_truth (g := .gt) rfl k2 k1, hd]; first | done | rfl)
  have HT := Lib.hid htab
  clear htab hx hy rx ry k1 k2 hc hd
  generalize x.kind = xk at *; generalize x.mant = xm at *; generalize x.exp = xe at *; generalize x.text = xt at *; generalize x.truth = xb at *; generalize x.fault = xf at *
  generalize y.kind = yk at *; generalize y.mant = ym at *; generalize y.exp = ye at *; generalize y.text = yt at *; generalize y.truth = yb at *; generalize y.fault = yf at *
  go_enter Tryz.func5, Tryz.ntmps5
  go_wp2_with fail
  refine (awake10_any _ (HT.out.ext (by repeat (first | (with_reducible (first | exact Ext.refl _ | exact ext_d _ _ _ _ | exact ext_app _ _ _ _ _ | exact ext_app2 _ _ _ _ _ _ | exact ext_app3 _ _ _ _ _ _ _)) | ((with_reducible refine ext_suffix ⟨_, ?_⟩); (try simp only [Array.append_assoc]); rfl) | (with_reducible (first | apply Ext.drew | apply Ext.alloc | apply Ext.more_)))))).mono ?_; rintro e w' ⟨rfl, hb⟩; obtain ⟨os1, d1, rfl⟩ := hb.more; clear hb
  go_wp2_with fail
  refine (g1 _).mono ?_; rintro e w' ⟨rfl, hb⟩; obtain ⟨os2, d2, rfl⟩ := hb.more; clear hb
  go_wp2_with fail
  refine (g2 _).mono ?_; rintro e w' ⟨rfl, hb⟩; obtain ⟨os3, d3, rfl⟩ := hb.more; clear hb
  go_wp2_with fail
  refine (e0 _ (HT.out.ext (by repeat (first | (with_reducible (first | exact Ext.refl _ | exact ext_d _ _ _ _ | exact ext_app _ _ _ _ _ | exact ext_app2 _ _ _ _ _ _ | exact ext_app3 _ _ _ _ _ _ _)) | ((with_reducible refine ext_suffix ⟨_, ?_⟩); (try simp only [Array.append_assoc]); rfl) | (with_reducible (first | apply Ext.drew | apply Ext.alloc | apply Ext.more_)))))).mono ?_; rintro e w' ⟨rfl, hb⟩; obtain ⟨os4, d4, rfl⟩ := hb.more; clear hb
  go_wp2_with fail
  refine (e1 _ (HT.out.ext (by repeat (first | (with_reducible (first | exact Ext.refl _ | exact ext_d _ _ _ _ | exact ext_app _ _ _ _ _ | exact ext_app2 _ _ _ _ _ _ | exact ext_app3 _ _ _ _ _ _ _)) | ((with_reducible refine ext_suffix ⟨_, ?_⟩); (try simp only [Array.append_assoc]); rfl) | (with_reducible (first | apply Ext.drew | apply Ext.alloc | apply Ext.more_)))))).mono ?_; rintro e w' ⟨rfl, hb⟩; obtain ⟨os5, d5, rfl⟩ := hb.more; clear hb
  go_wp2_with fail
  refine (e2 _ (HT.out.ext (by repeat (first | (with_reducible (first | exact Ext.refl _ | exact ext_d _ _ _ _ | exact ext_app _ _ _ _ _ | exact ext_app2 _ _ _ _ _ _ | exact ext_app3 _ _ _ _ _ _ _)) | ((with_reducible refine ext_suffix ⟨_, ?_⟩); (try simp only [Array.append_assoc]); rfl) | (with_reducible (first | apply Ext.drew | apply Ext.alloc | apply Ext.more_)))))).mono ?_; rintro e w' ⟨rfl, hb⟩; obtain ⟨os6, d6, rfl⟩ := hb.more; clear hb
  go_wp2_with fail
  refine (e3 _ (HT.out.ext (by repeat (first | (with_reducible (first | exact Ext.refl _ | exact ext_d _ _ _ _ | exact ext_app _ _ _ _ _ | exact ext_app2 _ _ _ _ _ _ | exact ext_app3 _ _ _ _ _ _ _)) | ((with_reducible refine ext_suffix ⟨_, ?_⟩); (try simp only [Array.append_assoc]); rfl) | (with_reducible (first | apply Ext.drew | apply Ext.alloc | apply Ext.more_)))))).mono ?_; rintro e w' ⟨rfl, hb⟩; obtain ⟨os7, d7, rfl⟩ := hb.more; clear hb
  go_wp2_with fail
  refine (e4 _ (HT.out.ext (by repeat (first | (with_reducible (first | exact Ext.refl _ | exact ext_d _ _ _ _ | exact ext_app _ _ _ _ _ | exact ext_app2 _ _ _ _ _ _ | exact ext_app3 _ _ _ _ _ _ _)) | ((with_reducible refine ext_suffix ⟨_, ?_⟩); (try simp only [Array.append_assoc]); rfl) | (with_reducible (first | apply Ext.drew | apply Ext.alloc | apply Ext.more_)))))).mono ?_; rintro e w' ⟨rfl, hb⟩; obtain ⟨os8, d8, rfl⟩ := hb.more; clear hb
  go_wp2_with fail
  refine (e5 _ (HT.out.ext (by repeat (first | (with_reducible (first | exact Ext.refl _ | exact ext_d _ _ _ _ | exact ext_app _ _ _ _ _ | exact ext_app2 _ _ _ _ _ _ | exact ext_app3 _ _ _ _ _ _ _)) | ((with_reducible refine ext_suffix ⟨_, ?_⟩); (try simp only [Array.append_assoc]); rfl) | (with_reducible (first | apply Ext.drew | apply Ext.alloc | apply Ext.more_)))))).mono ?_; rintro e w' ⟨rfl, hb⟩; obtain ⟨os9, d9, rfl⟩ := hb.more; clear hb
  go_wp2_with fail
  refine (e6 _ (HT.out.ext (by repeat (first | (with_reducible (first | exact Ext.refl _ | exact ext_d _ _ _ _ | exact ext_app _ _ _ _ _ | exact ext_app2 _ _ _ _ _ _ | exact ext_app3 _ _ _ _ _ _ _)) | ((with_reducible refine ext_suffix ⟨_, ?_⟩); (try simp only [Array.append_assoc]); rfl) | (with_reducible (first | apply Ext.drew | apply Ext.alloc | apply Ext.more_)))))).mono ?_; rintro e w' ⟨rfl, hb⟩; obtain ⟨os10, d10, rfl⟩ := hb.more; clear hb
  go_wp2_with fail
  go_ret
  exact ⟨rfl, by repeat (first | (with_reducible (first | exact Ext.refl _ | exact ext_d _ _ _ _ | exact ext_app _ _ _ _ _ | exact ext_app2 _ _ _ _ _ _ | exact ext_app3 _ _ _ _ _ _ _)) | ((with_reducible refine ext_suffix ⟨_, ?_⟩); (try simp only [Array.append_assoc]); rfl) | (with_reducible (first | apply Ext.drew | apply Ext.alloc | apply Ext.more_)))⟩
set_option maxHeartbeats 2000000 in
theorem operOrder_p (x y : Val) (w : World) (htab : Tab w) (hx : x.ok) (hy : y.ok) (rx : x.right) (ry : y.right) (k1 : x.kind ≠ 4) (k2 : y.kind ≠ 4) (hc : cmpV x y = 1) :
    Calls Tryz.prog 5 #[VV x.kind x.mant x.exp x.text x.truth x.fault, VV y.kind y.mant y.exp y.text y.truth y.fault] w fun e w' => e = .returned (.bool true) ∧ Ext w w' := by
  have hd : cmpV y x = -1 := by rw [cmpV_flip, hc]; first | done | rfl
  have g1 := fun W => refRight_any x.kind x.mant x.exp x.fault x.text x.truth W hx.2.1 hx.2.2.2.1
  have g2 := fun W => refRight_any y.kind y.mant y.exp y.fault y.text y.truth W hy.2.1 hy.2.2.2.1
  rw [show refRight ⟨x.kind, x.mant, x.exp, x.text, x.truth, x.fault⟩ = true from (right_eq x hx).symm.trans rx] at g1
  rw [show refRight ⟨y.kind, y.mant, y.exp, y.text, y.truth, y.fault⟩ = true from (right_eq y hy).symm.trans ry] at g2
  have q1 : (x.kind == 4) = false := by simpa using k1
  have q2 : (y.kind == 4) = false := by simpa using k2
  have e0 : ∀ W, Tab W → Calls Tryz.prog 22 #[.string ⟨#[61]⟩, VV x.kind x.mant x.exp x.text x.truth x.fault, VV y.kind y.mant y.exp y.text y.truth y.fault] W fun e W' => e = .returned (.tuple #[.bool false, .bool true]) ∧ Ext W W' := fun W hW => order1_any .eq x y W hW rx ry false (by rw [hold_truth (g := .eq) rfl k1 k2, hc]; first | done | rfl)
  have e1 : ∀ W, Tab W → Calls Tryz.prog 22 #[.string ⟨#[60]⟩, VV x.kind x.mant x.exp x.text x.truth x.fault, VV y.kind y.mant y.exp y.text y.truth y.fault] W fun e W' => e = .returned (.tuple #[.bool false, .bool true]) ∧ Ext W W' := fun W hW => order1_any .lt x y W hW rx ry false (by rw [hold_truth (g := .lt) rfl k1 k2, hc]; first | done | rfl)
  have e2 : ∀ W, Tab W → Calls Tryz.prog 22 #[.string ⟨#[62]⟩, VV x.kind x.mant x.exp x.text x.truth x.fault, VV y.kind y.mant y.exp y.text y.truth y.fault] W fun e W' => e = .returned (.tuple #[.bool true, .bool true]) ∧ Ext W W' := fun W hW => order1_any .gt x y W hW rx ry true (by rw [hold_truth (g := .gt) rfl k1 k2, hc]; first | done | rfl)
  have e3 : ∀ W, Tab W → Calls Tryz.prog 22 #[.string ⟨#[60, 62]⟩, VV x.kind x.mant x.exp x.text x.truth x.fault, VV y.kind y.mant y.exp y.text y.truth y.fault] W fun e W' => e = .returned (.tuple #[.bool true, .bool true]) ∧ Ext W W' := fun W hW => order1_any .ne x y W hW rx ry true (by rw [hold_truth (g := .ne) rfl k1 k2, hc]; first | done | rfl)
  have e4 : ∀ W, Tab W → Calls Tryz.prog 22 #[.string ⟨#[60, 61]⟩, VV x.kind x.mant x.exp x.text x.truth x.fault, VV y.kind y.mant y.exp y.text y.truth y.fault] W fun e W' => e = .returned (.tuple #[.bool false, .bool true]) ∧ Ext W W' := fun W hW => order1_any .le x y W hW rx ry false (by rw [hold_truth (g := .le) rfl k1 k2, hc]; first | done | rfl)
  have e5 : ∀ W, Tab W → Calls Tryz.prog 22 #[.string ⟨#[62, 61]⟩, VV x.kind x.mant x.exp x.text x.truth x.fault, VV y.kind y.mant y.exp y.text y.truth y.fault] W fun e W' => e = .returned (.tuple #[.bool true, .bool true]) ∧ Ext W W' := fun W hW => order1_any .ge x y W hW rx ry true (by rw [hold_truth (g := .ge) rfl k1 k2, hc]; first | done | rfl)
  have e6 : ∀ W, Tab W → Calls Tryz.prog 22 #[.string ⟨#[62]⟩, VV y.kind y.mant y.exp y.text y.truth y.fault, VV x.kind x.mant x.exp x.text x.truth x.fault] W fun e W' => e = .returned (.tuple #[.bool false, .bool true]) ∧ Ext W W' := fun W hW => order1_any .gt y x W hW ry rx false (by rw [hold_truth (g := .gt) rfl k2 k1, hd]; first | done | rfl)
  have HT := Lib.hid htab
  clear htab hx hy rx ry k1 k2 hc hd
  generalize x.kind = xk at *; generalize x.mant = xm at *; generalize x.exp = xe at *; generalize x.text = xt at *; generalize x.truth = xb at *; generalize x.fault = xf at *
  generalize y.kind = yk at *; generalize y.mant = ym at *; generalize y.exp = ye at *; generalize y.text = yt at *; generalize y.truth = yb at *; generalize y.fault = yf at *
  go_enter Tryz.func5, Tryz.ntmps5
  go_wp2_with fail
  refine (awake10_any _ (HT.out.ext (by repeat (first | (with_reducible (first | exact Ext.refl _ | exact ext_d _ _ _ _ | exact ext_app _ _ _ _ _ | exact ext_app2 _ _ _ _ _ _ | exact ext_app3 _ _ _ _ _ _ _)) | ((with_reducible refine ext_suffix ⟨_, ?_⟩); (try simp only [Array.append_assoc]); rfl) | (with_reducible (first | apply Ext.drew | apply Ext.alloc | apply Ext.more_)))))).mono ?_; rintro e w' ⟨rfl, hb⟩; obtain ⟨os1, d1, rfl⟩ := hb.more; clear hb
  go_wp2_with fail
  refine (g1 _).mono ?_; rintro e w' ⟨rfl, hb⟩; obtain ⟨os2, d2, rfl⟩ := hb.more; clear hb
  go_wp2_with fail
  refine (g2 _).mono ?_; rintro e w' ⟨rfl, hb⟩; obtain ⟨os3, d3, rfl⟩ := hb.more; clear hb
  go_wp2_with fail
  refine (e0 _ (HT.out.ext (by repeat (first | (with_reducible (first | exact Ext.refl _ | exact ext_d _ _ _ _ | exact ext_app _ _ _ _ _ | exact ext_app2 _ _ _ _ _ _ | exact ext_app3 _ _ _ _ _ _ _)) | ((with_reducible refine ext_suffix ⟨_, ?_⟩); (try simp only [Array.append_assoc]); rfl) | (with_reducible (first | apply Ext.drew | apply Ext.alloc | apply Ext.more_)))))).mono ?_; rintro e w' ⟨rfl, hb⟩; obtain ⟨os4, d4, rfl⟩ := hb.more; clear hb
  go_wp2_with fail
  refine (e1 _ (HT.out.ext (by repeat (first | (with_reducible (first | exact Ext.refl _ | exact ext_d _ _ _ _ | exact ext_app _ _ _ _ _ | exact ext_app2 _ _ _ _ _ _ | exact ext_app3 _ _ _ _ _ _ _)) | ((with_reducible refine ext_suffix ⟨_, ?_⟩); (try simp only [Array.append_assoc]); rfl) | (with_reducible (first | apply Ext.drew | apply Ext.alloc | apply Ext.more_)))))).mono ?_; rintro e w' ⟨rfl, hb⟩; obtain ⟨os5, d5, rfl⟩ := hb.more; clear hb
  go_wp2_with fail
  refine (e2 _ (HT.out.ext (by repeat (first | (with_reducible (first | exact Ext.refl _ | exact ext_d _ _ _ _ | exact ext_app _ _ _ _ _ | exact ext_app2 _ _ _ _ _ _ | exact ext_app3 _ _ _ _ _ _ _)) | ((with_reducible refine ext_suffix ⟨_, ?_⟩); (try simp only [Array.append_assoc]); rfl) | (with_reducible (first | apply Ext.drew | apply Ext.alloc | apply Ext.more_)))))).mono ?_; rintro e w' ⟨rfl, hb⟩; obtain ⟨os6, d6, rfl⟩ := hb.more; clear hb
  go_wp2_with fail
  refine (e3 _ (HT.out.ext (by repeat (first | (with_reducible (first | exact Ext.refl _ | exact ext_d _ _ _ _ | exact ext_app _ _ _ _ _ | exact ext_app2 _ _ _ _ _ _ | exact ext_app3 _ _ _ _ _ _ _)) | ((with_reducible refine ext_suffix ⟨_, ?_⟩); (try simp only [Array.append_assoc]); rfl) | (with_reducible (first | apply Ext.drew | apply Ext.alloc | apply Ext.more_)))))).mono ?_; rintro e w' ⟨rfl, hb⟩; obtain ⟨os7, d7, rfl⟩ := hb.more; clear hb
  go_wp2_with fail
  refine (e4 _ (HT.out.ext (by repeat (first | (with_reducible (first | exact Ext.refl _ | exact ext_d _ _ _ _ | exact ext_app _ _ _ _ _ | exact ext_app2 _ _ _ _ _ _ | exact ext_app3 _ _ _ _ _ _ _)) | ((with_reducible refine ext_suffix ⟨_, ?_⟩); (try simp only [Array.append_assoc]); rfl) | (with_reducible (first | apply Ext.drew | apply Ext.alloc | apply Ext.more_)))))).mono ?_; rintro e w' ⟨rfl, hb⟩; obtain ⟨os8, d8, rfl⟩ := hb.more; clear hb
  go_wp2_with fail
  refine (e5 _ (HT.out.ext (by repeat (first | (with_reducible (first | exact Ext.refl _ | exact ext_d _ _ _ _ | exact ext_app _ _ _ _ _ | exact ext_app2 _ _ _ _ _ _ | exact ext_app3 _ _ _ _ _ _ _)) | ((with_reducible refine ext_suffix ⟨_, ?_⟩); (try simp only [Array.append_assoc]); rfl) | (with_reducible (first | apply Ext.drew | apply Ext.alloc | apply Ext.more_)))))).mono ?_; rintro e w' ⟨rfl, hb⟩; obtain ⟨os9, d9, rfl⟩ := hb.more; clear hb
  go_wp2_with fail
  refine (e6 _ (HT.out.ext (by repeat (first | (with_reducible (first | exact Ext.refl _ | exact ext_d _ _ _ _ | exact ext_app _ _ _ _ _ | exact ext_app2 _ _ _ _ _ _ | exact ext_app3 _ _ _ _ _ _ _)) | ((with_reducible refine ext_suffix ⟨_, ?_⟩); (try simp only [Array.append_assoc]); rfl) | (with_reducible (first | apply Ext.drew | apply Ext.alloc | apply Ext.more_)))))).mono ?_; rintro e w' ⟨rfl, hb⟩; obtain ⟨os10, d10, rfl⟩ := hb.more; clear hb
  go_wp2_with fail
  go_ret
  exact ⟨rfl, by repeat (first | (with_reducible (first | exact Ext.refl _ | exact ext_d _ _ _ _ | exact ext_app _ _ _ _ _ | exact ext_app2 _ _ _ _ _ _ | exact ext_app3 _ _ _ _ _ _ _)) | ((with_reducible refine ext_suffix ⟨_, ?_⟩); (try simp only [Array.append_assoc]); rfl) | (with_reducible (first | apply Ext.drew | apply Ext.alloc | apply Ext.more_)))⟩
set_option maxHeartbeats 2000000 in
theorem operOrder_any (x y : Val) (w : World) (htab : Tab w) (hx : x.ok) (hy : y.ok) :
    Calls Tryz.prog 5 #[VV x.kind x.mant x.exp x.text x.truth x.fault, VV y.kind y.mant y.exp y.text y.truth y.fault] w fun e w' => e = .returned (.bool true) ∧ Ext w w' := by
  by_cases rx : x.right
  · by_cases ry : y.right
    · by_cases k1 : x.kind = 4
      · have HT := Lib.hid htab
        have g1 := fun W => refRight_any x.kind x.mant x.exp x.fault x.text x.truth W hx.2.1 hx.2.2.2.1
        have g2 := fun W => refRight_any y.kind y.mant y.exp y.fault y.text y.truth W hy.2.1 hy.2.2.2.1
        rw [show refRight ⟨x.kind, x.mant, x.exp, x.text, x.truth, x.fault⟩ = true from (right_eq x hx).symm.trans rx] at g1
        rw [show refRight ⟨y.kind, y.mant, y.exp, y.text, y.truth, y.fault⟩ = true from (right_eq y hy).symm.trans ry] at g2
        have q1 : (x.kind == 4) = true := by simpa using k1
        clear htab hx hy rx ry k1
        generalize x.kind = xk at *; generalize x.mant = xm at *; generalize x.exp = xe at *; generalize x.text = xt at *; generalize x.truth = xb at *; generalize x.fault = xf at *
        generalize y.kind = yk at *; generalize y.mant = ym at *; generalize y.exp = ye at *; generalize y.text = yt at *; generalize y.truth = yb at *; generalize y.fault = yf at *
        go_enter Tryz.func5, Tryz.ntmps5
        go_wp2_with fail
        refine (awake10_any _ (HT.out.ext (by repeat (first | (with_reducible (first | exact Ext.refl _ | exact ext_d _ _ _ _ | exact ext_app _ _ _ _ _ | exact ext_app2 _ _ _ _ _ _ | exact ext_app3 _ _ _ _ _ _ _)) | ((with_reducible refine ext_suffix ⟨_, ?_⟩); (try simp only [Array.append_assoc]); rfl) | (with_reducible (first | apply Ext.drew | apply Ext.alloc | apply Ext.more_)))))).mono ?_; rintro e w' ⟨rfl, hb⟩; obtain ⟨os1, d1, rfl⟩ := hb.more; clear hb
        go_wp2_with fail
        refine (g1 _).mono ?_; rintro e w' ⟨rfl, hb⟩; obtain ⟨os2, d2, rfl⟩ := hb.more; clear hb
        go_wp2_with fail
        refine (g2 _).mono ?_; rintro e w' ⟨rfl, hb⟩; obtain ⟨os3, d3, rfl⟩ := hb.more; clear hb
        go_wp2_with fail; go_ret; exact ⟨rfl, by repeat (first | (with_reducible (first | exact Ext.refl _ | exact ext_d _ _ _ _ | exact ext_app _ _ _ _ _ | exact ext_app2 _ _ _ _ _ _ | exact ext_app3 _ _ _ _ _ _ _)) | ((with_reducible refine ext_suffix ⟨_, ?_⟩); (try simp only [Array.append_assoc]); rfl) | (with_reducible (first | apply Ext.drew | apply Ext.alloc | apply Ext.more_)))⟩
      · by_cases k2 : y.kind = 4
        · have HT := Lib.hid htab
          have g1 := fun W => refRight_any x.kind x.mant x.exp x.fault x.text x.truth W hx.2.1 hx.2.2.2.1
          have g2 := fun W => refRight_any y.kind y.mant y.exp y.fault y.text y.truth W hy.2.1 hy.2.2.2.1
          rw [show refRight ⟨x.kind, x.mant, x.exp, x.text, x.truth, x.fault⟩ = true from (right_eq x hx).symm.trans rx] at g1
          rw [show refRight ⟨y.kind, y.mant, y.exp, y.text, y.truth, y.fault⟩ = true from (right_eq y hy).symm.trans ry] at g2
          have q1 : (x.kind == 4) = false := by simpa using k1
          have q2 : (y.kind == 4) = true := by simpa using k2
          clear htab hx hy rx ry k1 k2
          generalize x.kind = xk at *; generalize x.mant = xm at *; generalize x.exp = xe at *; generalize x.text = xt at *; generalize x.truth = xb at *; generalize x.fault = xf at *
          generalize y.kind = yk at *; generalize y.mant = ym at *; generalize y.exp = ye at *; generalize y.text = yt at *; generalize y.truth = yb at *; generalize y.fault = yf at *
          go_enter Tryz.func5, Tryz.ntmps5
          go_wp2_with fail
          refine (awake10_any _ (HT.out.ext (by repeat (first | (with_reducible (first | exact Ext.refl _ | exact ext_d _ _ _ _ | exact ext_app _ _ _ _ _ | exact ext_app2 _ _ _ _ _ _ | exact ext_app3 _ _ _ _ _ _ _)) | ((with_reducible refine ext_suffix ⟨_, ?_⟩); (try simp only [Array.append_assoc]); rfl) | (with_reducible (first | apply Ext.drew | apply Ext.alloc | apply Ext.more_)))))).mono ?_; rintro e w' ⟨rfl, hb⟩; obtain ⟨os1, d1, rfl⟩ := hb.more; clear hb
          go_wp2_with fail
          refine (g1 _).mono ?_; rintro e w' ⟨rfl, hb⟩; obtain ⟨os2, d2, rfl⟩ := hb.more; clear hb
          go_wp2_with fail
          refine (g2 _).mono ?_; rintro e w' ⟨rfl, hb⟩; obtain ⟨os3, d3, rfl⟩ := hb.more; clear hb
          go_wp2_with fail; go_ret; exact ⟨rfl, by repeat (first | (with_reducible (first | exact Ext.refl _ | exact ext_d _ _ _ _ | exact ext_app _ _ _ _ _ | exact ext_app2 _ _ _ _ _ _ | exact ext_app3 _ _ _ _ _ _ _)) | ((with_reducible refine ext_suffix ⟨_, ?_⟩); (try simp only [Array.append_assoc]); rfl) | (with_reducible (first | apply Ext.drew | apply Ext.alloc | apply Ext.more_)))⟩
        · rcases cmpV_tri x y with hc | hc | hc
          · exact operOrder_m x y w htab hx hy rx ry k1 k2 hc
          · exact operOrder_z x y w htab hx hy rx ry k1 k2 hc
          · exact operOrder_p x y w htab hx hy rx ry k1 k2 hc
    · have HT := Lib.hid htab
      have g1 := fun W => refRight_any x.kind x.mant x.exp x.fault x.text x.truth W hx.2.1 hx.2.2.2.1
      have g2 := fun W => refRight_any y.kind y.mant y.exp y.fault y.text y.truth W hy.2.1 hy.2.2.2.1
      rw [show refRight ⟨x.kind, x.mant, x.exp, x.text, x.truth, x.fault⟩ = true from (right_eq x hx).symm.trans rx] at g1
      rw [show refRight ⟨y.kind, y.mant, y.exp, y.text, y.truth, y.fault⟩ = false from (right_eq y hy).symm.trans (by simpa [Val.right] using ry)] at g2
      clear htab hx hy rx ry
      generalize x.kind = xk at *; generalize x.mant = xm at *; generalize x.exp = xe at *; generalize x.text = xt at *; generalize x.truth = xb at *; generalize x.fault = xf at *
      generalize y.kind = yk at *; generalize y.mant = ym at *; generalize y.exp = ye at *; generalize y.text = yt at *; generalize y.truth = yb at *; generalize y.fault = yf at *
      go_enter Tryz.func5, Tryz.ntmps5
      go_wp2_with fail
      refine (awake10_any _ (HT.out.ext (by repeat (first | (with_reducible (first | exact Ext.refl _ | exact ext_d _ _ _ _ | exact ext_app _ _ _ _ _ | exact ext_app2 _ _ _ _ _ _ | exact ext_app3 _ _ _ _ _ _ _)) | ((with_reducible refine ext_suffix ⟨_, ?_⟩); (try simp only [Array.append_assoc]); rfl) | (with_reducible (first | apply Ext.drew | apply Ext.alloc | apply Ext.more_)))))).mono ?_; rintro e w' ⟨rfl, hb⟩; obtain ⟨os1, d1, rfl⟩ := hb.more; clear hb
      go_wp2_with fail
      refine (g1 _).mono ?_; rintro e w' ⟨rfl, hb⟩; obtain ⟨os2, d2, rfl⟩ := hb.more; clear hb
      go_wp2_with fail
      refine (g2 _).mono ?_; rintro e w' ⟨rfl, hb⟩; obtain ⟨os3, d3, rfl⟩ := hb.more; clear hb
      go_wp2_with fail; go_ret; exact ⟨rfl, by repeat (first | (with_reducible (first | exact Ext.refl _ | exact ext_d _ _ _ _ | exact ext_app _ _ _ _ _ | exact ext_app2 _ _ _ _ _ _ | exact ext_app3 _ _ _ _ _ _ _)) | ((with_reducible refine ext_suffix ⟨_, ?_⟩); (try simp only [Array.append_assoc]); rfl) | (with_reducible (first | apply Ext.drew | apply Ext.alloc | apply Ext.more_)))⟩
  · have HT := Lib.hid htab
    have g1 := fun W => refRight_any x.kind x.mant x.exp x.fault x.text x.truth W hx.2.1 hx.2.2.2.1
    rw [show refRight ⟨x.kind, x.mant, x.exp, x.text, x.truth, x.fault⟩ = false from (right_eq x hx).symm.trans (by simpa [Val.right] using rx)] at g1
    clear htab hx hy rx
    generalize x.kind = xk at *; generalize x.mant = xm at *; generalize x.exp = xe at *; generalize x.text = xt at *; generalize x.truth = xb at *; generalize x.fault = xf at *
    generalize y.kind = yk at *; generalize y.mant = ym at *; generalize y.exp = ye at *; generalize y.text = yt at *; generalize y.truth = yb at *; generalize y.fault = yf at *
    go_enter Tryz.func5, Tryz.ntmps5
    go_wp2_with fail
    refine (awake10_any _ (HT.out.ext (by repeat (first | (with_reducible (first | exact Ext.refl _ | exact ext_d _ _ _ _ | exact ext_app _ _ _ _ _ | exact ext_app2 _ _ _ _ _ _ | exact ext_app3 _ _ _ _ _ _ _)) | ((with_reducible refine ext_suffix ⟨_, ?_⟩); (try simp only [Array.append_assoc]); rfl) | (with_reducible (first | apply Ext.drew | apply Ext.alloc | apply Ext.more_)))))).mono ?_; rintro e w' ⟨rfl, hb⟩; obtain ⟨os1, d1, rfl⟩ := hb.more; clear hb
    go_wp2_with fail
    refine (g1 _).mono ?_; rintro e w' ⟨rfl, hb⟩; obtain ⟨os2, d2, rfl⟩ := hb.more; clear hb
    go_wp2_with fail; go_ret; exact ⟨rfl, by repeat (first | (with_reducible (first | exact Ext.refl _ | exact ext_d _ _ _ _ | exact ext_app _ _ _ _ _ | exact ext_app2 _ _ _ _ _ _ | exact ext_app3 _ _ _ _ _ _ _)) | ((with_reducible refine ext_suffix ⟨_, ?_⟩); (try simp only [Array.append_assoc]); rfl) | (with_reducible (first | apply Ext.drew | apply Ext.alloc | apply Ext.more_)))⟩
end Go.Proofs.YteigcfflljoioaaGreatDoor
namespace Go.Proofs.YteigcfflljoioaaGreatDoor
open Go.ChangeShapes Go.WideShapes Go.ChangeAt Go.RowKit Go.Deep
set_option maxRecDepth 100000
section
variable {H : Type} {enc : TypeId × Value → H} {w : World} {base : Nat} {spare : Nat → Bool} {held : Bool}
theorem open_valV {r : Reach} {b0 : Nat} {v : Value} {d : DataW H} {p : List MemPlace} (hv : Value.okWide Tryz.prog w r b0 26 v) (h : DataW.Trod enc Tryz.prog w base spare held 26 v d p) :
    ∃ x : Val, v = VV x.kind x.mant x.exp x.text x.truth x.fault ∧ x.ok := by
  obtain ⟨cs, rfl, hsz⟩ : ∃ cs, v = .agg cs ∧ cs.size = Tryz.prog.cellsOf 26 := by
    simp only [Value.okWide, Tryz.underlying26] at hv
    obtain ⟨cs, h1, h2, _⟩ := hv
    exact ⟨cs, h1, h2⟩
  obtain ⟨fuel, hf⟩ := h
  obtain ⟨cl⟩ := cs
  have hf' : DataW.trod enc Tryz.prog w base spare held fuel 26 cl = some (d, p) := by simpa [Value.cells] using hf
  obtain ⟨x, rfl, hx⟩ := open_val hf'
  exact ⟨x, rfl, hx⟩
end
end Go.Proofs.YteigcfflljoioaaGreatDoor
