/- What the rows' proofs lean on: the contracts of the functions that they reach, and plain facts (part C1). -/
import Derived.WalkKit
import Derived.WalkLawsBesides
import Derived.WalkSpells
import Derived.Outline
import Derived.Below
import Derived.Deep.RegionHeld3
import Derived.Deep.DeepCutAuto
import Derived.Deep.AppendLies
import Derived.Maps.AppendAt
import Derived.Lib.Hide
import Derived.OrdersHeld
import Derived.Test.YteigcfflljoioaaGreatDoorProg
import Derived.Shelf.Strings.Builder1
import Derived.Shelf.Strings.Builder2
import Derived.Shelf.Small.Bits
import Derived.Shelf.Small.Strs
import Derived.Shelf.Strings.BuilderF
import Derived.Shelf.Strconv.Itoa0
import Derived.Shelf.Strconv.Itoa1
import Derived.Shelf.LaysM
import Derived.Shelf.Strconv.Itoa2
import Derived.Shelf.Strings.Prefix
import Derived.Shelf.Bits.Mul64
import Derived.Shelf.Strings.Repeat
import Derived.Lib.ItoaMem
import Derived.Lib.OthersKept
import Derived.Deep.CutBlock
import Derived.Laws.Bits64b
import Derived.Lib.AppendZeros
import Derived.Lib.Bytealg
import Derived.Laws.RangeAny
import Derived.Lib.ConvBytes
import Derived.Lib.SlBytesRow
import Derived.Lib.SmallJoins
import Derived.RegionTactic
import Derived.Maps.OwnSet
import Derived.Maps.Own
import Derived.Laws.EntriesVeiled
import Derived.Test.YteigcfflljoioaaGreatDoorRows
import Derived.Test.YteigcfflljoioaaGreatDoorCards
import Derived.Test.YteigcfflljoioaaGreatDoorTie
import Derived.ProofKit
import Derived.LaidMore
import Derived.OpenShut
import Derived.ShutString
import Derived.ChangeOld
import Derived.Stop.Joined
import Derived.Deep.Slices
import Derived.SevenTiedAt
import Derived.Test.YteigcfflljoioaaGreatDoorM6
set_option linter.unusedSimpArgs false
set_option linter.unusedVariables false
set_option maxRecDepth 100000
namespace Go.Proofs.YteigcfflljoioaaGreatDoor
open Go.RowKit
section
variable {P : Program} {ops : Array Oper} {Q : Exit → Act → World → Prop} {tl : List Nat}
variable {W0 : World} {fs : List FL} {tp : List Nat} {a : Act} {E : World → Prop} {i : Nat} {rest : List (Nat × Nat)} {o : Oper}
theorem wpFp_pure {v : Value} (hi : ops.toList[i]? = some o) (hw : Region.wanted o (yielded ops a.tmps) = true) (h : ∀ w, (execOp a.eval o).run P w = .ok (.value v) w) (k : wpFp P ops Q W0 fs tp rest (a.put o.dst v) E) :
    wpFp P ops Q W0 fs tp ((i, 2) :: rest) a E := ⟨o, v, by simpa using hi, .inl ⟨hw, fun w _ => h w⟩, k⟩
/-- One new variable: the world behind the others. -/
theorem wpFp_one {i t : Nat} {ob : Obj} (h : ∀ os1 d1 os2 d2, E (more ((more W0 os1 d1).alloc ob) os2 d2) → wpTl P ops Q tp (a.put (some t) (.pointer (some ⟨W0.heap.size + os1.size, 0, none⟩))) (more ((more W0 os1 d1).alloc ob) os2 d2)) :
    wpFp P ops Q W0 [(i, t, ob)] tp [] a E := by
  intro β w hX hE hb _
  obtain ⟨b, hb1, hb2, hb3⟩ := hb _ (List.mem_singleton.2 rfl)
  obtain ⟨os, d, rfl⟩ := hX.more
  obtain ⟨k, rfl⟩ : ∃ k, b = W0.heap.size + k := ⟨b - W0.heap.size, by omega⟩
  have hk : os[k]? = some ob := by
    have : (W0.heap ++ os)[W0.heap.size + k]? = some ob := hb2
    rw [Array.getElem?_append_right (by omega)] at this
    simpa using this
  have hklt : k < os.size := (Array.getElem?_eq_some_iff.1 hk).1
  have hos : os = (os.extract 0 k).push ob ++ os.extract (k + 1) os.size := by
    apply Array.ext_getElem?
    intro j
    have hs : (os.extract 0 k).size = k := by simp; omega
    rcases Nat.lt_trichotomy j k with hj | rfl | hj
    · rw [Array.getElem?_append_left (by simp; omega), Array.getElem?_push, if_neg (by omega), Array.getElem?_extract]
      simp
      omega
    · rw [Array.getElem?_append_left (by simp; omega), Array.getElem?_push, if_pos (by omega)]; exact hk
    · rw [Array.getElem?_append_right (by simp; omega), Array.getElem?_extract]
      by_cases h2 : j < os.size
      · rw [if_pos (by simp; omega)]
        congr 1
        simp
        omega
      · rw [if_neg (by simp; omega), Array.getElem?_eq_none (by omega)]
  have hw : more W0 os d = more ((more W0 (os.extract 0 k) d).alloc ob) (os.extract (k + 1) os.size) d := by
    simp only [more, World.alloc]
    congr 1
    conv => lhs; rw [hos]
    simp
  have hsz : (os.extract 0 k).size = k := by simp; omega
  have := h (os.extract 0 k) d (os.extract (k + 1) os.size) d (by rw [← hw]; exact hE)
  rw [← hw, hsz] at this
  have hp : putF [(i, t, ob)] β a = a.put (some t) (ptrB (W0.heap.size + k)) := by
    unfold putF
    rw [hb1]
    rfl
  rw [hp]
  exact this
end
end Go.Proofs.YteigcfflljoioaaGreatDoor
namespace Go.Proofs.YteigcfflljoioaaGreatDoor
open Go.RowKit
theorem getV_vals (g : Nat → Nat → Val) {R C i j : Nat} (hi : i < R) (hj : j < C) : getV (vals g C (R * C)) (i * C + j) = g i j := by
  have h1 : (i * C + j) / C = i := by rw [Nat.add_comm, Nat.add_mul_div_right _ _ (by omega), Nat.div_eq_of_lt hj]; omega
  have h2 : (i * C + j) % C = j := by rw [Nat.add_comm, Nat.add_mul_mod_self_right, Nat.mod_eq_of_lt hj]
  have h3 : i * C + j < R * C := by
    calc i * C + j < i * C + C := by omega
      _ = (i + 1) * C := by rw [Nat.succ_mul]
      _ ≤ R * C := Nat.mul_le_mul_right _ hi
  simp [getV, vals, h1, h2, h3]
end Go.Proofs.YteigcfflljoioaaGreatDoor
namespace Go.Proofs.YteigcfflljoioaaGreatDoor
open Go.RowKit
/-- An array's values stand in no array's variable: that one may turn. -/
theorem ArrIn.box {X : World} {os : Array Obj} {d : Nat} {i0 i1 : Int} {p : Option Addr} {q r : Nat} {ty : TypeId} {A : Option Addr} {n cap : Nat} {l : List Val} (h : ArrIn (more (X.alloc (.cells #[.int .i64 i0, .int .i64 i1, .slice p q r] ty)) os d) A n cap l) (C' : Array Value) (ty' : TypeId) (d' : Nat) :
    ArrIn (more (X.alloc (.cells C' ty')) os d') A n cap l := by
  refine ⟨fun j u hu => ?_, h.len, h.cap, h.small, h.ok⟩
  obtain ⟨b, off, hA, hb, hc⟩ := h.rd j u hu
  refine ⟨b, off, hA, hb, ?_⟩
  have hne : b ≠ X.heap.size := by
    intro e
    cases l with
    | nil => simp [vcells] at hu
    | cons x l =>
      obtain ⟨b', off', hA', _, hc3⟩ := h.rd 3 (.string x.text) (by simp [vcells, Val.cells])
      rw [hA] at hA'
      simp only [Option.some.injEq, Addr.mk.injEq, and_true] at hA'
      obtain ⟨rfl, rfl⟩ := hA'
      subst e
      rw [more_cell _ _ _ _ _ (by simp), World.cell?_alloc_at _ _ _ _ rfl] at hc3
      simp at hc3
  rw [← hc]
  refine World.cell?_of_block ?_
  show (more (X.alloc (.cells C' ty')) os d').heap[b]? = (more (X.alloc _) os d).heap[b]?
  simp only [more, World.alloc, Array.getElem?_append, Array.size_push, Array.getElem?_push]
  by_cases hlt : b < X.heap.size + 1
  · rw [if_pos hlt, if_pos hlt, if_neg hne, if_neg hne]
  · rw [if_neg hlt, if_neg hlt]
end Go.Proofs.YteigcfflljoioaaGreatDoor
namespace Go.Proofs.YteigcfflljoioaaGreatDoor
open Go.RowKit NM
theorem two_at (w : World) (o1 o2 : Obj) (os : Array Obj) (d : Nat) {W : World} (hW : W = more ((w.alloc o1).alloc o2) os d) : W.heap[w.heap.size]? = some o1 ∧ W.heap[w.heap.size + 1]? = some o2 ∧ Ext w W := by
  subst hW
  have x0 : Ext (w.alloc o1) (more ((w.alloc o1).alloc o2) os d) := by repeat (first | (with_reducible (first | exact Ext.refl _ | exact ext_d _ _ _ _ | exact ext_app _ _ _ _ _ | exact ext_app2 _ _ _ _ _ _ | exact ext_app3 _ _ _ _ _ _ _)) | ((with_reducible refine ext_suffix ⟨_, ?_⟩); (try simp only [Array.append_assoc]); rfl) | (with_reducible (first | apply Ext.drew | apply Ext.alloc | apply Ext.more_)))
  have x1 : Ext ((w.alloc o1).alloc o2) (more ((w.alloc o1).alloc o2) os d) := by repeat (first | (with_reducible (first | exact Ext.refl _ | exact ext_d _ _ _ _ | exact ext_app _ _ _ _ _ | exact ext_app2 _ _ _ _ _ _ | exact ext_app3 _ _ _ _ _ _ _)) | ((with_reducible refine ext_suffix ⟨_, ?_⟩); (try simp only [Array.append_assoc]); rfl) | (with_reducible (first | apply Ext.drew | apply Ext.alloc | apply Ext.more_)))
  refine ⟨(x0.block (by simp)).trans (heap_alloc_new _ _), ?_, by repeat (first | (with_reducible (first | exact Ext.refl _ | exact ext_d _ _ _ _ | exact ext_app _ _ _ _ _ | exact ext_app2 _ _ _ _ _ _ | exact ext_app3 _ _ _ _ _ _ _)) | ((with_reducible refine ext_suffix ⟨_, ?_⟩); (try simp only [Array.append_assoc]); rfl) | (with_reducible (first | apply Ext.drew | apply Ext.alloc | apply Ext.more_)))⟩
  rw [x1.block (b := w.heap.size + 1) (by simp)]
  have h := heap_alloc_new (w.alloc o1) o2
  rw [show (w.alloc o1).heap.size = w.heap.size + 1 by simp] at h
  exact h
end Go.Proofs.YteigcfflljoioaaGreatDoor
namespace Go.Proofs.YteigcfflljoioaaGreatDoor
open Go.RowKit NM
theorem pair_at (w : World) (o1 o2 : Obj) (osa osb : Array Obj) (da db : Nat) {W : World} (hW : W = (more ((more w osa da).alloc o1) osb db).alloc o2) : W.heap[w.heap.size + osa.size]? = some o1 ∧ W.heap[w.heap.size + osa.size + 1 + osb.size]? = some o2 ∧ Ext w W := by
  subst hW
  have x0 : Ext ((more w osa da).alloc o1) ((more ((more w osa da).alloc o1) osb db).alloc o2) := by repeat (first | (with_reducible (first | exact Ext.refl _ | exact ext_d _ _ _ _ | exact ext_app _ _ _ _ _ | exact ext_app2 _ _ _ _ _ _ | exact ext_app3 _ _ _ _ _ _ _)) | ((with_reducible refine ext_suffix ⟨_, ?_⟩); (try simp only [Array.append_assoc]); rfl) | (with_reducible (first | apply Ext.drew | apply Ext.alloc | apply Ext.more_)))
  refine ⟨?_, ?_, by repeat (first | (with_reducible (first | exact Ext.refl _ | exact ext_d _ _ _ _ | exact ext_app _ _ _ _ _ | exact ext_app2 _ _ _ _ _ _ | exact ext_app3 _ _ _ _ _ _ _)) | ((with_reducible refine ext_suffix ⟨_, ?_⟩); (try simp only [Array.append_assoc]); rfl) | (with_reducible (first | apply Ext.drew | apply Ext.alloc | apply Ext.more_)))⟩
  · have h := heap_alloc_new (more w osa da) o1
    rw [show (more w osa da).heap.size = w.heap.size + osa.size by simp] at h
    rw [x0.block (b := w.heap.size + osa.size) (by simp)]
    exact h
  · have h := heap_alloc_new (more ((more w osa da).alloc o1) osb db) o2
    rw [show (more ((more w osa da).alloc o1) osb db).heap.size = w.heap.size + osa.size + 1 + osb.size by simp] at h
    exact h
theorem three_at (w : World) (o1 o2 o3 : Obj) (os : Array Obj) (d : Nat) {W : World} (hW : W = (more ((w.alloc o1).alloc o2) os d).alloc o3) : W.heap[w.heap.size]? = some o1 ∧ W.heap[w.heap.size + 1]? = some o2 ∧ W.heap[w.heap.size + 1 + 1 + os.size]? = some o3 ∧ Ext w W ∧ Ext (more ((w.alloc o1).alloc o2) os d) W := by
  obtain ⟨h1, h2, h3⟩ := two_at w o1 o2 os d rfl
  subst hW
  have x : Ext (more ((w.alloc o1).alloc o2) os d) ((more ((w.alloc o1).alloc o2) os d).alloc o3) := by repeat (first | (with_reducible (first | exact Ext.refl _ | exact ext_d _ _ _ _ | exact ext_app _ _ _ _ _ | exact ext_app2 _ _ _ _ _ _ | exact ext_app3 _ _ _ _ _ _ _)) | ((with_reducible refine ext_suffix ⟨_, ?_⟩); (try simp only [Array.append_assoc]); rfl) | (with_reducible (first | apply Ext.drew | apply Ext.alloc | apply Ext.more_)))
  refine ⟨row_ext h1 x, row_ext h2 x, ?_, h3.trans x, x⟩
  have h := heap_alloc_new (more ((w.alloc o1).alloc o2) os d) o3
  rw [show (more ((w.alloc o1).alloc o2) os d).heap.size = w.heap.size + 1 + 1 + os.size by simp] at h
  exact h
set_option maxHeartbeats 4000000 in
theorem places_main (g : Sg) (s : ByteArray) (R1 C1 R2 C2 row col : Nat) (A1 A2 : Option Addr) (n1 cap1 n2 cap2 : Nat) (l1 l2 : List Val) (w : World) (htab : Tab w) (h1 : ArrIn w A1 n1 cap1 l1) (h2 : ArrIn w A2 n2 cap2 l2) (hg : sgOf s.data.toList = some g) (hr1 : rightA R1 C1 l1 = true) (hr2 : rightA R2 C2 l2 = true) (hb1 : greatB R1 C1 n1 = false) (hb2 : greatB R2 C2 n2 = false) (hrow : row ≤ 255) (hcol : col ≤ 255) :
    Calls Tryz.prog 7 #[.string s, AV R1 C1 (.slice A1 n1 cap1), AV R2 C2 (.slice A2 n2 cap2), .int .u8 row, .int .u8 col] w fun e w' => e = .returned (.bool true) ∧ Ext w w' := by
  have g1 := fun W => great_any R1 C1 A1 n1 cap1 W
  have g2 := fun W => great_any R2 C2 A2 n2 cap2 W
  have hn1 : n1 ≤ 60 := by unfold greatB at hb1; simp at hb1; omega
  have hn2 : n2 ≤ 60 := by unfold greatB at hb2; simp at hb2; omega
  rw [hb1] at g1
  rw [hb2] at g2
  have hlv := fun W => rlevel_yes g W
  rw [← sg_lit hg] at hlv
  have q := level_ne g
  generalize g.level = lv at *
  have hsm : s.size ≤ maxLen := by rw [sg_lit hg]; cases g <;> decide
  have hf1 : refRightA R1 C1 l1 = true := by rw [← rightA_eq _ _ l1 h1.ok]; exact hr1
  have hf2 : refRightA R2 C2 l2 = true := by rw [← rightA_eq _ _ l2 h2.ok]; exact hr2
  obtain ⟨a1, a2, a3, a4, a5, a6⟩ := right_bd hr1
  obtain ⟨b1, b2, b3, b4, b5, b6⟩ := right_bd hr2
  have e1 : n1 = R1 * C1 := by have := h1.len; omega
  have e2 : n2 = R2 * C2 := by have := h2.len; omega
  have c1 : R1 ≤ 60 := by have := Nat.mul_le_mul_left R1 a2; omega
  have c2 : C1 ≤ 60 := by have := Nat.mul_le_mul_right C1 a1; omega
  have c3 : R2 ≤ 60 := by have := Nat.mul_le_mul_left R2 b2; omega
  have c4 : C2 ≤ 60 := by have := Nat.mul_le_mul_right C2 b1; omega
  have hMle : max R1 R2 ≤ 60 := by omega
  have hNle : max C1 C2 ≤ 60 := by omega
  have hf : max R1 R2 * max C1 C2 ≤ 4096 := by have := Nat.mul_le_mul hMle hNle; omega
  have hX : bothRes (opV g) R1 C1 l1 R2 C2 l2 = ⟨max R1 R2, max C1 C2, bothL (opV g) R1 C1 l1 R2 C2 l2⟩ := by simp [bothRes, hr1, hr2, hf]
  have HLEN := bothL_length (opV g) R1 C1 l1 R2 C2 l2
  have hMI : max (R1 : Int) (R2 : Int) = ((max R1 R2 : Nat) : Int) := by omega
  have hNI : max (C1 : Int) (C2 : Int) = ((max C1 C2 : Nat) : Int) := by omega
  have hm1 : 1 ≤ max R1 R2 := by omega
  have hm2 : 1 ≤ max C1 C2 := by omega
  unfold bothL at hX HLEN
  have HRR := Lib.hid (And.intro (rightA_nat.1 hr1).2.2.2.2 (rightA_nat.1 hr2).2.2.2.2)
  have HL := Lib.hid (And.intro a4 b4)
  have HG2 := Lib.hid hg
  have HT := Lib.hid htab
  have HN := Lib.hid (And.intro e1 e2)
  generalize max R1 R2 = M at *
  generalize max C1 C2 = N at *
  generalize hGG : (fun i j => bothV (opV g) (spreadO R1 C1 l1 i j) (spreadO R2 C2 l2 i j)) = GG at *
  have HGG := Lib.hid hGG
  have HX := Lib.hid hX
  have hwr : IntKind.i64.wrap ((M : Int) * (N : Int)) = ((M * N : Nat) : Int) := by rw [IntKind.wrap_i64, Int.natCast_mul]; have := Nat.mul_le_mul hMle hNle; omega
  clear a3 a4 b3 b4 e1 e2 hb1 hb2 hg htab hX hGG
  go_enter Tryz.func7, Tryz.ntmps7; go_wp2_with fail; refine (awake10_any _ (HT.out.ext (by repeat (first | (with_reducible (first | exact Ext.refl _ | exact ext_d _ _ _ _ | exact ext_app _ _ _ _ _ | exact ext_app2 _ _ _ _ _ _ | exact ext_app3 _ _ _ _ _ _ _)) | ((with_reducible refine ext_suffix ⟨_, ?_⟩); (try simp only [Array.append_assoc]); rfl) | (with_reducible (first | apply Ext.drew | apply Ext.alloc | apply Ext.more_)))))).mono ?_; rintro e w' ⟨rfl, hb⟩; obtain ⟨os1, d1, rfl⟩ := hb.more; clear hb; go_wp2_with fail; refine (g1 _).mono ?_; rintro e w' ⟨rfl, hb⟩; obtain ⟨os2, d2, rfl⟩ := hb.more; clear hb; go_wp2_with fail; refine (g2 _).mono ?_; rintro e w' ⟨rfl, hb⟩; obtain ⟨os3, d3, rfl⟩ := hb.more; clear hb; go_wp2_with fail; refine (hlv _).mono ?_; rintro e w' ⟨rfl, hb⟩; obtain ⟨os4, d4, rfl⟩ := hb.more; clear hb; go_wp2_with fail; refine (refRightA_any _ _ _ _ _ _ _ (h1.ext (by repeat (first | (with_reducible (first | exact Ext.refl _ | exact ext_d _ _ _ _ | exact ext_app _ _ _ _ _ | exact ext_app2 _ _ _ _ _ _ | exact ext_app3 _ _ _ _ _ _ _)) | ((with_reducible refine ext_suffix ⟨_, ?_⟩); (try simp only [Array.append_assoc]); rfl) | (with_reducible (first | apply Ext.drew | apply Ext.alloc | apply Ext.more_)))))).mono ?_; rintro e w' ⟨rfl, hb⟩; obtain ⟨os5, d5, rfl⟩ := hb.more; clear hb; go_wp2_with fail; refine (refRightA_any _ _ _ _ _ _ _ (h2.ext (by repeat (first | (with_reducible (first | exact Ext.refl _ | exact ext_d _ _ _ _ | exact ext_app _ _ _ _ _ | exact ext_app2 _ _ _ _ _ _ | exact ext_app3 _ _ _ _ _ _ _)) | ((with_reducible refine ext_suffix ⟨_, ?_⟩); (try simp only [Array.append_assoc]); rfl) | (with_reducible (first | apply Ext.drew | apply Ext.alloc | apply Ext.more_)))))).mono ?_; rintro e w' ⟨rfl, hb⟩; obtain ⟨os6, d6, rfl⟩ := hb.more; clear hb
  go_wp2_with fail
  refine (binary_yes g s R1 C1 R2 C2 A1 A2 n1 cap1 n2 cap2 l1 l2 _ (HT.out.ext (by repeat (first | (with_reducible (first | exact Ext.refl _ | exact ext_d _ _ _ _ | exact ext_app _ _ _ _ _ | exact ext_app2 _ _ _ _ _ _ | exact ext_app3 _ _ _ _ _ _ _)) | ((with_reducible refine ext_suffix ⟨_, ?_⟩); (try simp only [Array.append_assoc]); rfl) | (with_reducible (first | apply Ext.drew | apply Ext.alloc | apply Ext.more_))))) hsm HG2.out (h1.ext (by repeat (first | (with_reducible (first | exact Ext.refl _ | exact ext_d _ _ _ _ | exact ext_app _ _ _ _ _ | exact ext_app2 _ _ _ _ _ _ | exact ext_app3 _ _ _ _ _ _ _)) | ((with_reducible refine ext_suffix ⟨_, ?_⟩); (try simp only [Array.append_assoc]); rfl) | (with_reducible (first | apply Ext.drew | apply Ext.alloc | apply Ext.more_))))) (h2.ext (by repeat (first | (with_reducible (first | exact Ext.refl _ | exact ext_d _ _ _ _ | exact ext_app _ _ _ _ _ | exact ext_app2 _ _ _ _ _ _ | exact ext_app3 _ _ _ _ _ _ _)) | ((with_reducible refine ext_suffix ⟨_, ?_⟩); (try simp only [Array.append_assoc]); rfl) | (with_reducible (first | apply Ext.drew | apply Ext.alloc | apply Ext.more_))))) _ HX.out).mono ?_; rintro e w' ⟨D7, m7, c7, rfl, hN7, hb⟩; obtain ⟨os7, d7, rfl⟩ := hb.more; clear hb; have hD7 := hN7.arr; clear hN7; (try simp only [more_more, drew_more, more_drew, Array.append_assoc] at hD7)
  have hm7 : m7 = M * N := by have := hD7.len; omega
  subst hm7
  go_upto_region 8 with fail
  refine wp_world fun W0 hW0 => ?_
  obtain ⟨r1, r2, r3, hwW, hxx⟩ := three_at _ _ _ _ _ _ hW0
  clear hW0
  have hD0 := hD7.ext hxx
  clear hD7 hxx
  simp only [Array.size_append] at r3
  generalize w.heap.size + 1 + 1 + (os1.size + (os2.size + (os3.size + (os4.size + (os5.size + (os6.size + os7.size)))))) = pa at *
  clear os1 os2 os3 os4 os5 os6 os7 d1 d2 d3 d4 d5 d6 d7
  have z1 := lt_of_block r1
  have z2 := lt_of_block r2
  have z3 := lt_of_block r3
  have hA0 := h1.ext hwW
  have hB0 := h2.ext hwW
  have a0 := cell_of_row _ _ 0 _ _ _ r1; have a1 := cell_of_row _ _ 1 _ _ _ r1; have a2 := cell_of_row _ _ 2 _ _ _ r1
  have e_0 := cell_of_row _ _ 0 _ _ _ r2; have e_1 := cell_of_row _ _ 1 _ _ _ r2; have e_2 := cell_of_row _ _ 2 _ _ _ r2
  have u0 := cell_of_row _ _ 0 _ _ _ r3; have u1 := cell_of_row _ _ 1 _ _ _ r3; have u2 := cell_of_row _ _ 2 _ _ _ r3
  obtain ⟨i, hi⟩ : ∃ i, i = row % M := ⟨_, rfl⟩
  obtain ⟨k, hk⟩ : ∃ k, k = col % N := ⟨_, rfl⟩
  have hiM : i < M := by rw [hi]; exact Nat.mod_lt _ (by omega)
  have hkN : k < N := by rw [hk]; exact Nat.mod_lt _ (by omega)
  have t1 : (row : Int).tmod (M : Int) = (i : Int) := by rw [hi]; exact (Int.ofNat_tmod _ _).symm
  have t2 : (col : Int).tmod (N : Int) = (k : Int) := by rw [hk]; exact (Int.ofNat_tmod _ _).symm
  have t3 : (row : Int) % (M : Int) = (i : Int) := by rw [hi]; exact (Int.natCast_emod _ _).symm
  have t4 : (col : Int) % (N : Int) = (k : Int) := by rw [hk]; exact (Int.natCast_emod _ _).symm
  clear hi hk
  have hM0 : M ≠ 0 := by omega
  have hN0 : N ≠ 0 := by omega
  have hw1 : IntKind.i64.wrap (row : Int) = (row : Int) := by rw [IntKind.wrap_i64]; omega
  have hw2 : IntKind.i64.wrap (col : Int) = (col : Int) := by rw [IntKind.wrap_i64]; omega
  refine wp_plan (S := Ext _) [(0, 0), (1, 0), (2, 0), (3, 0), (4, 0), (5, 0), (6, 0), (7, 0), (8, 0), (9, 0), (10, 0), (11, 0)] [] (by kernel_rfl) (by kernel_rfl) (by kernel_rfl) (fun _ _ d _ _ h => by cases d <;> exact h) (Ext.drew (Ext.refl _)) ?_
  iterate 12 ((refine wpPl_read (v := ?_) rfl ?_ (fun _ h => ?_) ?_; rotate_left 1; rfl; (obtain ⟨_, _, rfl⟩ := h.more; go_simp; try rfl)); try simp only [Act.put, zqA, zqB, zqC])
  refine wpPl_nil ?_
  clear t1 t2 t3 t4 hw1 hw2
  have hkl : i * N + k < M * N := (cell_prod M hiM hkN (by have := Nat.mul_le_mul hMle hNle; omega)).1
  have hwi : IntKind.i64.wrap ((i : Int) * (N : Int)) = ((i * N : Nat) : Int) := by rw [IntKind.wrap_i64, Int.natCast_mul]; have := Nat.mul_le_mul hMle hNle; have := Nat.mul_le_mul (Nat.le_of_lt hiM) (Nat.le_refl N); omega
  have hGv : GG i k = bothV (opV g) (spreadO R1 C1 l1 i k) (spreadO R2 C2 l2 i k) := by rw [← HGG.out]
  generalize hx : orZero (spreadO R1 C1 l1 i k) = x
  generalize hkx : (spreadO R1 C1 l1 i k).isSome = kx
  generalize hy : orZero (spreadO R2 C2 l2 i k) = y
  generalize hky : (spreadO R2 C2 l2 i k).isSome = ky
  have HA := Lib.hid (And.intro hx hkx)
  have HB := Lib.hid (And.intro hy hky)
  go_wp2_with fail
  refine (refAt_c R1 C1 i k A1 n1 cap1 l1 _ (hA0.ext (by repeat (first | (with_reducible (first | exact Ext.refl _ | exact ext_d _ _ _ _ | exact ext_app _ _ _ _ _ | exact ext_app2 _ _ _ _ _ _ | exact ext_app3 _ _ _ _ _ _ _)) | ((with_reducible refine ext_suffix ⟨_, ?_⟩); (try simp only [Array.append_assoc]); rfl) | (with_reducible (first | apply Ext.drew | apply Ext.alloc | apply Ext.more_))))) HN.out.1 (by omega) x _ HA.out.1 HA.out.2).mono ?_; rintro e w' ⟨rfl, hb⟩; obtain ⟨os11, d11, rfl⟩ := hb.more; clear hb
  go_wp2_with fail
  refine (refAt_c R2 C2 i k A2 n2 cap2 l2 _ (hB0.ext (by repeat (first | (with_reducible (first | exact Ext.refl _ | exact ext_d _ _ _ _ | exact ext_app _ _ _ _ _ | exact ext_app2 _ _ _ _ _ _ | exact ext_app3 _ _ _ _ _ _ _)) | ((with_reducible refine ext_suffix ⟨_, ?_⟩); (try simp only [Array.append_assoc]); rfl) | (with_reducible (first | apply Ext.drew | apply Ext.alloc | apply Ext.more_))))) HN.out.2 (by omega) y _ HB.out.1 HB.out.2).mono ?_; rintro e w' ⟨rfl, hb⟩; obtain ⟨os12, d12, rfl⟩ := hb.more; clear hb
  go_upto_region 11 with fail
  refine wp_world fun W1 hW1 => ?_
  obtain ⟨r4, r5, hx1⟩ := pair_at _ _ _ _ _ _ _ hW1
  clear hW1 a0 a1 a2 e_0 e_1 e_2 u0 u1 u2
  generalize W0.heap.size + os11.size + 1 + os12.size = py at *
  generalize W0.heap.size + os11.size = px at *
  clear os11 os12 d11 d12
  have r1 := row_ext r1 hx1
  have r2 := row_ext r2 hx1
  have r3 := row_ext r3 hx1
  have hD1 := hD0.ext hx1
  have hwW := hwW.trans hx1
  clear hx1 hA0 hB0 z1 z2 z3 hD0
  have z3 := lt_of_block r3
  have z4 := lt_of_block r4
  have z5 := lt_of_block r5
  have u0 := cell_of_row _ _ 0 _ _ _ r3; have u1 := cell_of_row _ _ 1 _ _ _ r3; have u2 := cell_of_row _ _ 2 _ _ _ r3
  have a0 := cell_of_row _ _ 0 _ _ _ r4; have a1 := cell_of_row _ _ 1 _ _ _ r4; have a2 := cell_of_row _ _ 2 _ _ _ r4; have a3 := cell_of_row _ _ 3 _ _ _ r4; have a4 := cell_of_row _ _ 4 _ _ _ r4; have a5 := cell_of_row _ _ 5 _ _ _ r4
  have e_0 := cell_of_row _ _ 0 _ _ _ r5; have e_1 := cell_of_row _ _ 1 _ _ _ r5; have e_2 := cell_of_row _ _ 2 _ _ _ r5; have e_3 := cell_of_row _ _ 3 _ _ _ r5; have e_4 := cell_of_row _ _ 4 _ _ _ r5; have e_5 := cell_of_row _ _ 5 _ _ _ r5
  obtain ⟨b0, off, rfl, hv, _⟩ := hD1.get hkl
  rw [getV_vals GG hiM hkN] at hv
  generalize hz : GG i k = z at *
  have w2 : IntKind.i64.wrap (((i * N : Nat) : Int) + (k : Int)) = ((i * N + k : Nat) : Int) := by rw [IntKind.wrap_i64]; have := Nat.mul_le_mul hMle hNle; omega
  have HD := Lib.hid hD1
  clear hD1
  generalize hjc : i * N = jc at *
  generalize hmn : M * N = mn at *
  have e1 : (0 : Int) ≤ (jc : Int) + (k : Int) := by omega
  have e2 : (jc : Int) + (k : Int) < (mn : Int) := by omega
  have e3 : ((jc : Int) + (k : Int)).toNat = jc + k := by omega
  obtain ⟨v0, v1, v2, v3, v4, v5⟩ := hv
  have hb0 := lt_of_cell v0
  cases hboth : (kx && ky) with
  | false =>
    have hzb : z = badV 6 := by
      rw [hGv]
      cases e1 : spreadO R1 C1 l1 i k with
      | none => rfl
      | some x0 =>
        cases e2 : spreadO R2 C2 l2 i k with
        | none => rfl
        | some y0 => rw [← hkx, ← hky, e1, e2] at hboth; cases hboth
    have hb2 : kx = false ∨ kx = true ∧ ky = false := by cases kx <;> simp_all
    have hbad := fun W => rbad2_any 6 W
    rw [show badF 6 = 6 by decide] at hbad
    rw [hzb] at v0 v1 v2 v3 v4 v5
    simp only [badV] at v0 v1 v2 v3 v4 v5
    clear hboth hGv hx hkx hy hky hzb hz
    rcases hb2 with rfl | ⟨rfl, rfl⟩
    all_goals
      go_upto_region 13 with fail
      refine wp_plan (S := Ext _) [(0, 0), (1, 1), (2, 0), (3, 0)] [] (by kernel_rfl) (by kernel_rfl) (by kernel_rfl) (fun _ _ d _ _ h => by cases d <;> exact h) (Ext.drew (Ext.refl _)) ?_
      (refine wpPl_read (v := ?_) rfl ?_ (fun _ h => ?_) ?_; rotate_left 1; rfl; (obtain ⟨_, _, rfl⟩ := h.more; go_simp; try rfl))
      try simp only [Act.put, zqA, zqB, zqC]
      (refine wpPl_eff rfl ?_ (fun K hK => ?_); rfl; go_simp; refine (hbad _).mono ?_; rintro e w' ⟨rfl, hb⟩; obtain ⟨os13, d13, rfl⟩ := hb.more; clear hb; refine hK _ _ ?_ ?_; (repeat (first | (with_reducible (first | exact Ext.refl _ | exact ext_d _ _ _ _ | exact ext_app _ _ _ _ _ | exact ext_app2 _ _ _ _ _ _ | exact ext_app3 _ _ _ _ _ _ _ | exact ext_app4 _ _ _ _ _ _ _ _ | exact ext_app5 _ _ _ _ _ _ _ _ _)) | ((with_reducible refine ext_suffix ⟨_, ?_⟩); (try simp only [Array.append_assoc]); rfl) | (with_reducible (first | apply Ext.drew | apply Ext.alloc | apply Ext.more_)) | apply Ext.drew | apply Ext.alloc | apply Ext.more_)))
      try simp only [Act.put, zqA, zqB, zqC]
      iterate 2 ((refine wpPl_read (v := ?_) rfl ?_ (fun _ h => ?_) ?_; rotate_left 1; rfl; (obtain ⟨_, _, rfl⟩ := h.more; go_simp; try rfl)); try simp only [Act.put, zqA, zqB, zqC])
      refine wpPl_nil ?_
      go_wp2_with fail
      go_ret
      exact ⟨rfl, hwW.trans (by repeat (first | (with_reducible (first | exact Ext.refl _ | exact ext_d _ _ _ _ | exact ext_app _ _ _ _ _ | exact ext_app2 _ _ _ _ _ _ | exact ext_app3 _ _ _ _ _ _ _)) | ((with_reducible refine ext_suffix ⟨_, ?_⟩); (try simp only [Array.append_assoc]); rfl) | (with_reducible (first | apply Ext.drew | apply Ext.alloc | apply Ext.more_))))⟩
  | true =>
    simp only [Bool.and_eq_true] at hboth
    obtain ⟨rfl, rfl⟩ := hboth
    obtain ⟨x0, f1⟩ := Option.isSome_iff_exists.1 hkx
    obtain ⟨y0, f2⟩ := Option.isSome_iff_exists.1 hky
    have f3 : x0 = x := by rw [← hx, f1]; rfl
    have f4 : y0 = y := by rw [← hy, f2]; rfl
    subst f3 f4
    have rx : x0.right := spread_all HL.out.1 HRR.out.1 f1
    have ry : y0.right := spread_all HL.out.2 HRR.out.2 f2
    have hzz : opV g x0 y0 = z := by
      rw [hGv, f1, f2]
      exact (oneV_right (right_op g rx ry)).symm
    have hA' := both_one g rx ry
    rw [hzz] at hA'
    have rz : z.right := by rw [← hzz]; exact right_op g rx ry
    have ho1 := fun W => one10_any x0 W rx.ok
    have ho2 := fun W => one10_any y0 W ry.ok
    have ho3 := fun W => one10_any z W rz.ok
    obtain ⟨lx, hlx⟩ : ∃ l, l = [x0] := ⟨_, rfl⟩
    obtain ⟨ly, hly⟩ : ∃ l, l = [y0] := ⟨_, rfl⟩
    rw [← hlx] at ho1 hA'
    rw [← hly] at ho2 hA'
    have HG := Lib.hid hA'
    have hs1 : sameA 1 1 [z] 1 1 [z] = true := by simp [sameA]
    clear hGv hx hkx hy hky f1 f2 hzz rx ry rz hA' hlx hly hz
    go_upto_region 14 with fail
    refine wp_float [(9, 20, (.cells #[.int .i64 0, .int .i64 0, .slice none 0 0] 34))] [(0, 0), (1, 0), (3, 0), (2, 1), (4, 1), (5, 1), (6, 0), (7, 0), (8, 2)] [10, 11] [10, 11] [8] (by kernel_rfl) (by kernel_rfl) (by kernel_rfl) (fun _ _ d _ _ h => by cases d <;> exact h) (fun _ _ d _ _ h => by cases d <;> exact h) (fun x hx o ho a w => by (obtain rfl := List.mem_singleton.1 hx); (obtain rfl := Option.some.inj ho); (first | rfl | (simp [go_sem, ptrB]; done) | (go_simp; rfl))) ?_
    iterate 3 ((refine wpFp_read (v := ?_) rfl ?_ (fun w1 h1 => ?_) ?_; rotate_left 1; rfl; (obtain ⟨os1, d1, rfl⟩ := h1.more; go_simp; first | done | rfl)); try simp only [Act.put, zqA, zqB, zqC])
    (refine wpFp_eff rfl ?_ (fun wf hXf hE K hK => ?_); rfl; obtain ⟨osf, df, rfl⟩ := hXf.more; go_simp; refine (ho1 _).mono ?_; rintro e w' ⟨E1, k1, rfl, hN1, hb⟩; refine hK _ _ (fun W => ArrIn W E1 1 k1 lx) (by (try simp only [more_drew, more_more, Array.append_assoc]); exact hb) (fun _ _ hx h => h.ext hx) hN1.arr ?_)
    try simp only [Act.put, zqA, zqB, zqC]
    (refine wpFp_eff rfl ?_ (fun wf hXf hE K hK => ?_); rfl; obtain ⟨osf, df, rfl⟩ := hXf.more; go_simp; refine (ho2 _).mono ?_; rintro e w' ⟨E2, k2, rfl, hN2, hb⟩; refine hK _ _ (fun W => ArrIn W E1 1 k1 lx ∧ ArrIn W E2 1 k2 ly) (by (try simp only [more_drew, more_more, Array.append_assoc]); exact hb) (fun _ _ hx h => ⟨h.1.ext hx, h.2.ext hx⟩) ⟨hE.ext (by (try simp only [more_drew, more_more, Array.append_assoc]); exact hb), hN2.arr⟩ ?_)
    try simp only [Act.put, zqA, zqB, zqC]
    (refine wpFp_eff rfl ?_ (fun wf hXf hE K hK => ?_); rfl; obtain ⟨osf, df, rfl⟩ := hXf.more; go_simp; refine (binary_yes g s 1 1 1 1 E1 E2 1 k1 1 k2 lx ly _ (HT.out.ext (hwW.trans (by repeat (first | (with_reducible (first | exact Ext.refl _ | exact ext_d _ _ _ _ | exact ext_app _ _ _ _ _ | exact ext_app2 _ _ _ _ _ _ | exact ext_app3 _ _ _ _ _ _ _)) | ((with_reducible refine ext_suffix ⟨_, ?_⟩); (try simp only [Array.append_assoc]); rfl) | (with_reducible (first | apply Ext.drew | apply Ext.alloc | apply Ext.more_)))))) hsm HG2.out hE.1 hE.2 ⟨1, 1, [z]⟩ HG.out).mono ?_; rintro e w' ⟨E3, mm3, k3, rfl, hN3, hb⟩; refine hK _ _ (fun W => ArrIn W E3 mm3 k3 [z]) (by (try simp only [more_drew, more_more, Array.append_assoc]); exact hb) (fun _ _ hx h => h.ext hx) hN3.arr ?_)
    try simp only [Act.put, zqA, zqB, zqC]
    iterate 2 ((refine wpFp_read (v := ?_) rfl ?_ (fun w1 h1 => ?_) ?_; rotate_left 1; rfl; (obtain ⟨os1, d1, rfl⟩ := h1.more; go_simp; first | done | rfl)); try simp only [Act.put, zqA, zqB, zqC])
    (refine wpFp_pure (v := ?_) rfl ?_ (fun w1 => ?_) ?_; rotate_left 1; rfl; (go_simp; first | done | rfl))
    try simp only [Act.put, zqA, zqB, zqC]
    refine wpFp_one fun osa da osb db hE => ?_
    try simp only [Act.put, zqA, zqB, zqC]
    iterate 2 ((refine wpTl_op rfl ?_ (fun K hK => ?_); rfl; go_simp; refine hK _ _ ?_); try simp only [Act.put, zqA, zqB, zqC])
    refine wpTl_nil ?_
    have hR := hE.box #[.int .i64 1, .int .i64 1, .slice E3 mm3 k3] 34 db
    clear hE
    (try simp only [more_more, drew_more, more_drew, Array.append_assoc] at hR)
    obtain rfl : mm3 = 1 := by have := hR.len; simpa using this.symm
    go_upto_region 15 with fail
    refine wp_plan (S := Ext _) [(0, 0), (1, 0), (2, 0), (3, 0), (4, 1), (5, 1), (6, 0), (7, 0)] [] (by kernel_rfl) (by kernel_rfl) (by kernel_rfl) (fun _ _ d _ _ h => by cases d <;> exact h) (Ext.drew (Ext.refl _)) ?_
    iterate 2 ((refine wpPl_read (v := ?_) rfl ?_ (fun _ h => ?_) ?_; rotate_left 1; rfl; (obtain ⟨_, _, rfl⟩ := h.more; go_simp; try rfl)); try simp only [Act.put, zqA, zqB, zqC])
    iterate 2 ((first | (refine wpPl_skip rfl rfl ?_) | (refine wpPl_read (v := ?_) rfl ?_ (fun w1 h1 => ?_) ?_; rotate_left 1; rfl; (obtain ⟨os1, d1, rfl⟩ := h1.more; go_simp; first | done | rfl)) | (refine wpPl_gread (v := ?_) (c := ?_) rfl rfl rfl rfl ?_ (fun hc w1 h1 => ?_) ?_; rotate_left 2; (first | exact gc_t _ | exact gc_f _ | exact gc_gt _ _ | exact gc_gf _ _); (obtain ⟨os1, d1, rfl⟩ := h1.more; (try simp only [gv_of hc]); (try (have hc1 := and_l hc; (try simp only [gv_of hc1]); (try (have hc2 := and_l hc1; (try simp only [gv_of hc2]))))); go_simp; first | done | rfl))); try simp only [Act.put, zqA, zqB, zqC])
    (refine wpPl_eff rfl ?_ (fun K hK => ?_); (first | with_reducible rfl | rfl | (go_simp; done)); go_simp; refine (ho3 _).mono ?_; rintro e w' ⟨D6, c6, rfl, hN6, hb⟩; obtain ⟨os6, d6, rfl⟩ := hb.more; clear hb; have hD6 := hN6.arr; clear hN6; (try simp only [more_more, drew_more, more_drew, Array.append_assoc] at hD6); refine hK _ _ ?_ ?_; (repeat (first | (with_reducible (first | exact Ext.refl _ | exact ext_d _ _ _ _ | exact ext_app _ _ _ _ _ | exact ext_app2 _ _ _ _ _ _ | exact ext_app3 _ _ _ _ _ _ _ | exact ext_app4 _ _ _ _ _ _ _ _ | exact ext_app5 _ _ _ _ _ _ _ _ _)) | ((with_reducible refine ext_suffix ⟨_, ?_⟩); (try simp only [Array.append_assoc]); rfl) | (with_reducible (first | apply Ext.drew | apply Ext.alloc | apply Ext.more_)) | apply Ext.drew | apply Ext.alloc | apply Ext.more_)))
    try simp only [Act.put, zqA, zqB, zqC]
    (refine wpPl_eff rfl ?_ (fun K hK => ?_); (first | with_reducible rfl | rfl | (go_simp; done)); go_simp; refine (refSame_any _ _ _ _ _ _ _ _ _ _ [z] [z] _ (hR.ext (by repeat (first | (with_reducible (first | exact Ext.refl _ | exact ext_d _ _ _ _ | exact ext_app _ _ _ _ _ | exact ext_app2 _ _ _ _ _ _ | exact ext_app3 _ _ _ _ _ _ _)) | ((with_reducible refine ext_suffix ⟨_, ?_⟩); (try simp only [Array.append_assoc]); rfl) | (with_reducible (first | apply Ext.drew | apply Ext.alloc | apply Ext.more_))))) (hD6.ext (by repeat (first | (with_reducible (first | exact Ext.refl _ | exact ext_d _ _ _ _ | exact ext_app _ _ _ _ _ | exact ext_app2 _ _ _ _ _ _ | exact ext_app3 _ _ _ _ _ _ _)) | ((with_reducible refine ext_suffix ⟨_, ?_⟩); (try simp only [Array.append_assoc]); rfl) | (with_reducible (first | apply Ext.drew | apply Ext.alloc | apply Ext.more_)))))).mono ?_; rintro e w' ⟨rfl, hb⟩; obtain ⟨os7, d7, rfl⟩ := hb.more; clear hb; refine hK _ _ ?_ ?_; (repeat (first | (with_reducible (first | exact Ext.refl _ | exact ext_d _ _ _ _ | exact ext_app _ _ _ _ _ | exact ext_app2 _ _ _ _ _ _ | exact ext_app3 _ _ _ _ _ _ _ | exact ext_app4 _ _ _ _ _ _ _ _ | exact ext_app5 _ _ _ _ _ _ _ _ _)) | ((with_reducible refine ext_suffix ⟨_, ?_⟩); (try simp only [Array.append_assoc]); rfl) | (with_reducible (first | apply Ext.drew | apply Ext.alloc | apply Ext.more_)) | apply Ext.drew | apply Ext.alloc | apply Ext.more_)))
    try simp only [Act.put, zqA, zqB, zqC]
    first | (refine wpPl_pick_and rfl rfl rfl rfl rfl rfl ?_) | (refine wpPl_pick_or rfl rfl rfl rfl rfl rfl ?_) | (refine wpPl_read (v := ?_) rfl ?_ (fun w1 h1 => ?_) ?_; rotate_left 1; rfl; (obtain ⟨os1, d1, rfl⟩ := h1.more; go_simp; first | done | rfl))
    try simp only [Act.put, zqA, zqB, zqC]
    (refine wpPl_read (v := ?_) rfl ?_ (fun _ h => ?_) ?_; rotate_left 1; rfl; (obtain ⟨_, _, rfl⟩ := h.more; go_simp; try rfl))
    try simp only [Act.put, zqA, zqB, zqC]
    refine wpPl_nil ?_
    go_wp2_with fail
    go_ret
    exact ⟨rfl, hwW.trans (by repeat (first | (with_reducible (first | exact Ext.refl _ | exact ext_d _ _ _ _ | exact ext_app _ _ _ _ _ | exact ext_app2 _ _ _ _ _ _ | exact ext_app3 _ _ _ _ _ _ _)) | ((with_reducible refine ext_suffix ⟨_, ?_⟩); (try simp only [Array.append_assoc]); rfl) | (with_reducible (first | apply Ext.drew | apply Ext.alloc | apply Ext.more_))))⟩
set_option maxHeartbeats 4000000 in
theorem operPlaces_any (s : ByteArray) (r1 c1 r2 c2 row col : Int) (A1 A2 : Option Addr) (n1 cap1 n2 cap2 : Nat) (l1 l2 : List Val) (w : World) (htab : Tab w) (h1 : ArrIn w A1 n1 cap1 l1) (h2 : ArrIn w A2 n2 cap2 l2) (hrow0 : 0 ≤ row) (hrow : row ≤ 255) (hcol0 : 0 ≤ col) (hcol : col ≤ 255) :
    Calls Tryz.prog 7 #[.string s, AV r1 c1 (.slice A1 n1 cap1), AV r2 c2 (.slice A2 n2 cap2), .int .u8 row, .int .u8 col] w fun e w' => e = .returned (.bool true) ∧ Ext w w' := by
  cases hb1 : greatB r1 c1 n1 with
  | true =>
    have g1 := fun W => great_any r1 c1 A1 n1 cap1 W
    rw [hb1] at g1
    have HT := Lib.hid htab
    clear htab hb1
    go_enter Tryz.func7, Tryz.ntmps7; go_wp2_with fail; refine (awake10_any _ (HT.out.ext (by repeat (first | (with_reducible (first | exact Ext.refl _ | exact ext_d _ _ _ _ | exact ext_app _ _ _ _ _ | exact ext_app2 _ _ _ _ _ _ | exact ext_app3 _ _ _ _ _ _ _)) | ((with_reducible refine ext_suffix ⟨_, ?_⟩); (try simp only [Array.append_assoc]); rfl) | (with_reducible (first | apply Ext.drew | apply Ext.alloc | apply Ext.more_)))))).mono ?_; rintro e w' ⟨rfl, hb⟩; obtain ⟨os1, d1, rfl⟩ := hb.more; clear hb; go_wp2_with fail; refine (g1 _).mono ?_; rintro e w' ⟨rfl, hb⟩; obtain ⟨os2, d2, rfl⟩ := hb.more; clear hb
    go_wp2_with fail; go_ret; exact ⟨rfl, by repeat (first | (with_reducible (first | exact Ext.refl _ | exact ext_d _ _ _ _ | exact ext_app _ _ _ _ _ | exact ext_app2 _ _ _ _ _ _ | exact ext_app3 _ _ _ _ _ _ _)) | ((with_reducible refine ext_suffix ⟨_, ?_⟩); (try simp only [Array.append_assoc]); rfl) | (with_reducible (first | apply Ext.drew | apply Ext.alloc | apply Ext.more_)))⟩
  | false =>
    cases hb2 : greatB r2 c2 n2 with
    | true =>
      have g1 := fun W => great_any r1 c1 A1 n1 cap1 W
      have g2 := fun W => great_any r2 c2 A2 n2 cap2 W
      rw [hb1] at g1
      rw [hb2] at g2
      have HT := Lib.hid htab
      clear htab hb1 hb2
      go_enter Tryz.func7, Tryz.ntmps7; go_wp2_with fail; refine (awake10_any _ (HT.out.ext (by repeat (first | (with_reducible (first | exact Ext.refl _ | exact ext_d _ _ _ _ | exact ext_app _ _ _ _ _ | exact ext_app2 _ _ _ _ _ _ | exact ext_app3 _ _ _ _ _ _ _)) | ((with_reducible refine ext_suffix ⟨_, ?_⟩); (try simp only [Array.append_assoc]); rfl) | (with_reducible (first | apply Ext.drew | apply Ext.alloc | apply Ext.more_)))))).mono ?_; rintro e w' ⟨rfl, hb⟩; obtain ⟨os1, d1, rfl⟩ := hb.more; clear hb; go_wp2_with fail; refine (g1 _).mono ?_; rintro e w' ⟨rfl, hb⟩; obtain ⟨os2, d2, rfl⟩ := hb.more; clear hb; go_wp2_with fail; refine (g2 _).mono ?_; rintro e w' ⟨rfl, hb⟩; obtain ⟨os3, d3, rfl⟩ := hb.more; clear hb
      go_wp2_with fail; go_ret; exact ⟨rfl, by repeat (first | (with_reducible (first | exact Ext.refl _ | exact ext_d _ _ _ _ | exact ext_app _ _ _ _ _ | exact ext_app2 _ _ _ _ _ _ | exact ext_app3 _ _ _ _ _ _ _)) | ((with_reducible refine ext_suffix ⟨_, ?_⟩); (try simp only [Array.append_assoc]); rfl) | (with_reducible (first | apply Ext.drew | apply Ext.alloc | apply Ext.more_)))⟩
    | false =>
      cases hg : sgOf s.data.toList with
      | none =>
        have g1 := fun W => great_any r1 c1 A1 n1 cap1 W
        have g2 := fun W => great_any r2 c2 A2 n2 cap2 W
        rw [hb1] at g1
        rw [hb2] at g2
        have hlv := fun W => rlevel_no s hg W
        have HT := Lib.hid htab
        clear htab hb1 hb2 hg
        go_enter Tryz.func7, Tryz.ntmps7; go_wp2_with fail; refine (awake10_any _ (HT.out.ext (by repeat (first | (with_reducible (first | exact Ext.refl _ | exact ext_d _ _ _ _ | exact ext_app _ _ _ _ _ | exact ext_app2 _ _ _ _ _ _ | exact ext_app3 _ _ _ _ _ _ _)) | ((with_reducible refine ext_suffix ⟨_, ?_⟩); (try simp only [Array.append_assoc]); rfl) | (with_reducible (first | apply Ext.drew | apply Ext.alloc | apply Ext.more_)))))).mono ?_; rintro e w' ⟨rfl, hb⟩; obtain ⟨os1, d1, rfl⟩ := hb.more; clear hb; go_wp2_with fail; refine (g1 _).mono ?_; rintro e w' ⟨rfl, hb⟩; obtain ⟨os2, d2, rfl⟩ := hb.more; clear hb; go_wp2_with fail; refine (g2 _).mono ?_; rintro e w' ⟨rfl, hb⟩; obtain ⟨os3, d3, rfl⟩ := hb.more; clear hb; go_wp2_with fail; refine (hlv _).mono ?_; rintro e w' ⟨rfl, hb⟩; obtain ⟨os4, d4, rfl⟩ := hb.more; clear hb
        go_wp2_with fail; go_ret; exact ⟨rfl, by repeat (first | (with_reducible (first | exact Ext.refl _ | exact ext_d _ _ _ _ | exact ext_app _ _ _ _ _ | exact ext_app2 _ _ _ _ _ _ | exact ext_app3 _ _ _ _ _ _ _)) | ((with_reducible refine ext_suffix ⟨_, ?_⟩); (try simp only [Array.append_assoc]); rfl) | (with_reducible (first | apply Ext.drew | apply Ext.alloc | apply Ext.more_)))⟩
      | some g =>
        cases hr1 : rightA r1 c1 l1 with
        | false =>
          have g1 := fun W => great_any r1 c1 A1 n1 cap1 W
          have g2 := fun W => great_any r2 c2 A2 n2 cap2 W
          rw [hb1] at g1
          rw [hb2] at g2
          have hlv := fun W => rlevel_yes g W
          rw [← sg_lit hg] at hlv
          have q := level_ne g
          generalize g.level = lv at *
          have hf1 : refRightA r1 c1 l1 = false := by rw [← rightA_eq _ _ l1 h1.ok]; exact hr1
          have HT := Lib.hid htab
          clear htab hb1 hb2 hg hr1
          go_enter Tryz.func7, Tryz.ntmps7; go_wp2_with fail; refine (awake10_any _ (HT.out.ext (by repeat (first | (with_reducible (first | exact Ext.refl _ | exact ext_d _ _ _ _ | exact ext_app _ _ _ _ _ | exact ext_app2 _ _ _ _ _ _ | exact ext_app3 _ _ _ _ _ _ _)) | ((with_reducible refine ext_suffix ⟨_, ?_⟩); (try simp only [Array.append_assoc]); rfl) | (with_reducible (first | apply Ext.drew | apply Ext.alloc | apply Ext.more_)))))).mono ?_; rintro e w' ⟨rfl, hb⟩; obtain ⟨os1, d1, rfl⟩ := hb.more; clear hb; go_wp2_with fail; refine (g1 _).mono ?_; rintro e w' ⟨rfl, hb⟩; obtain ⟨os2, d2, rfl⟩ := hb.more; clear hb; go_wp2_with fail; refine (g2 _).mono ?_; rintro e w' ⟨rfl, hb⟩; obtain ⟨os3, d3, rfl⟩ := hb.more; clear hb; go_wp2_with fail; refine (hlv _).mono ?_; rintro e w' ⟨rfl, hb⟩; obtain ⟨os4, d4, rfl⟩ := hb.more; clear hb; go_wp2_with fail; refine (refRightA_any _ _ _ _ _ _ _ (h1.ext (by repeat (first | (with_reducible (first | exact Ext.refl _ | exact ext_d _ _ _ _ | exact ext_app _ _ _ _ _ | exact ext_app2 _ _ _ _ _ _ | exact ext_app3 _ _ _ _ _ _ _)) | ((with_reducible refine ext_suffix ⟨_, ?_⟩); (try simp only [Array.append_assoc]); rfl) | (with_reducible (first | apply Ext.drew | apply Ext.alloc | apply Ext.more_)))))).mono ?_; rintro e w' ⟨rfl, hb⟩; obtain ⟨os5, d5, rfl⟩ := hb.more; clear hb
          go_wp2_with fail; go_ret; exact ⟨rfl, by repeat (first | (with_reducible (first | exact Ext.refl _ | exact ext_d _ _ _ _ | exact ext_app _ _ _ _ _ | exact ext_app2 _ _ _ _ _ _ | exact ext_app3 _ _ _ _ _ _ _)) | ((with_reducible refine ext_suffix ⟨_, ?_⟩); (try simp only [Array.append_assoc]); rfl) | (with_reducible (first | apply Ext.drew | apply Ext.alloc | apply Ext.more_)))⟩
        | true =>
          cases hr2 : rightA r2 c2 l2 with
          | false =>
            have g1 := fun W => great_any r1 c1 A1 n1 cap1 W
            have g2 := fun W => great_any r2 c2 A2 n2 cap2 W
            rw [hb1] at g1
            rw [hb2] at g2
            have hlv := fun W => rlevel_yes g W
            rw [← sg_lit hg] at hlv
            have q := level_ne g
            generalize g.level = lv at *
            have hf1 : refRightA r1 c1 l1 = true := by rw [← rightA_eq _ _ l1 h1.ok]; exact hr1
            have hf2 : refRightA r2 c2 l2 = false := by rw [← rightA_eq _ _ l2 h2.ok]; exact hr2
            have HT := Lib.hid htab
            clear htab hb1 hb2 hg hr1 hr2
            go_enter Tryz.func7, Tryz.ntmps7; go_wp2_with fail; refine (awake10_any _ (HT.out.ext (by repeat (first | (with_reducible (first | exact Ext.refl _ | exact ext_d _ _ _ _ | exact ext_app _ _ _ _ _ | exact ext_app2 _ _ _ _ _ _ | exact ext_app3 _ _ _ _ _ _ _)) | ((with_reducible refine ext_suffix ⟨_, ?_⟩); (try simp only [Array.append_assoc]); rfl) | (with_reducible (first | apply Ext.drew | apply Ext.alloc | apply Ext.more_)))))).mono ?_; rintro e w' ⟨rfl, hb⟩; obtain ⟨os1, d1, rfl⟩ := hb.more; clear hb; go_wp2_with fail; refine (g1 _).mono ?_; rintro e w' ⟨rfl, hb⟩; obtain ⟨os2, d2, rfl⟩ := hb.more; clear hb; go_wp2_with fail; refine (g2 _).mono ?_; rintro e w' ⟨rfl, hb⟩; obtain ⟨os3, d3, rfl⟩ := hb.more; clear hb; go_wp2_with fail; refine (hlv _).mono ?_; rintro e w' ⟨rfl, hb⟩; obtain ⟨os4, d4, rfl⟩ := hb.more; clear hb; go_wp2_with fail; refine (refRightA_any _ _ _ _ _ _ _ (h1.ext (by repeat (first | (with_reducible (first | exact Ext.refl _ | exact ext_d _ _ _ _ | exact ext_app _ _ _ _ _ | exact ext_app2 _ _ _ _ _ _ | exact ext_app3 _ _ _ _ _ _ _)) | ((with_reducible refine ext_suffix ⟨_, ?_⟩); (try simp only [Array.append_assoc]); rfl) | (with_reducible (first | apply Ext.drew | apply Ext.alloc | apply Ext.more_)))))).mono ?_; rintro e w' ⟨rfl, hb⟩; obtain ⟨os5, d5, rfl⟩ := hb.more; clear hb; go_wp2_with fail; refine (refRightA_any _ _ _ _ _ _ _ (h2.ext (by repeat (first | (with_reducible (first | exact Ext.refl _ | exact ext_d _ _ _ _ | exact ext_app _ _ _ _ _ | exact ext_app2 _ _ _ _ _ _ | exact ext_app3 _ _ _ _ _ _ _)) | ((with_reducible refine ext_suffix ⟨_, ?_⟩); (try simp only [Array.append_assoc]); rfl) | (with_reducible (first | apply Ext.drew | apply Ext.alloc | apply Ext.more_)))))).mono ?_; rintro e w' ⟨rfl, hb⟩; obtain ⟨os6, d6, rfl⟩ := hb.more; clear hb
            go_wp2_with fail; go_ret; exact ⟨rfl, by repeat (first | (with_reducible (first | exact Ext.refl _ | exact ext_d _ _ _ _ | exact ext_app _ _ _ _ _ | exact ext_app2 _ _ _ _ _ _ | exact ext_app3 _ _ _ _ _ _ _)) | ((with_reducible refine ext_suffix ⟨_, ?_⟩); (try simp only [Array.append_assoc]); rfl) | (with_reducible (first | apply Ext.drew | apply Ext.alloc | apply Ext.more_)))⟩
          | true =>
            obtain ⟨R1, C1, rfl, rfl, _⟩ := right_parts hr1
            obtain ⟨R2, C2, rfl, rfl, _⟩ := right_parts hr2
            obtain ⟨a, rfl⟩ : ∃ a : Nat, row = a := ⟨row.toNat, by omega⟩
            obtain ⟨b, rfl⟩ : ∃ b : Nat, col = b := ⟨col.toNat, by omega⟩
            exact places_main g s R1 C1 R2 C2 a b A1 A2 n1 cap1 n2 cap2 l1 l2 w htab h1 h2 hg hr1 hr2 hb1 hb2 (by omega) (by omega)
end Go.Proofs.YteigcfflljoioaaGreatDoor
namespace Go.Proofs.YteigcfflljoioaaGreatDoor
open Go.ChangeShapes Go.WideShapes Go.ChangeAt Go.RowKit Go.Deep
set_option maxRecDepth 100000
section
variable {H : Type} {enc : TypeId × Value → H} {w : World} {base : Nat} {spare : Nat → Bool} {held : Bool}
theorem open_byte {r : Reach} {b0 : Nat} {v : Value} {d : DataW H} {p : List MemPlace} (hv : Value.okWide Tryz.prog w r b0 5 v) (h : DataW.Trod enc Tryz.prog w base spare held 5 v d p) :
    ∃ b : Int, v = .int .u8 b ∧ 0 ≤ b ∧ b ≤ 255 := by
  obtain ⟨b, rfl⟩ := okWide_int Tryz.underlying5 hv
  obtain ⟨fuel, hf⟩ := h
  obtain ⟨m, e0, _, w0⟩ := DataW.trod_int Tryz.underlying5 hf
  have e1 : b = m := by simpa [Value.cells] using e0
  subst e1
  have : 0 ≤ b ∧ b ≤ 255 := by simpa [Lit.wf, IntKind.min, IntKind.max, IntKind.signed, IntKind.bits] using w0
  exact ⟨b, rfl, this⟩
end
end Go.Proofs.YteigcfflljoioaaGreatDoor
