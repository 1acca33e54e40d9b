/- What the rows' proofs lean on: the contracts of the functions that they reach, and plain facts (part D1). -/
import Derived.WalkKit
import Derived.WalkLawsBesides
import Derived.WalkSpells
import Derived.Outline
import Derived.Below
import Derived.Deep.RegionHeld3
import Derived.Deep.DeepCutAuto
import Derived.Deep.AppendLies
import Derived.Maps.AppendAt
import Derived.Lib.Hide
import Derived.OrdersHeld
import Derived.Test.YteigcfflljoioaaGreatDoorProg
import Derived.Shelf.Strings.Builder1
import Derived.Shelf.Strings.Builder2
import Derived.Shelf.Small.Bits
import Derived.Shelf.Small.Strs
import Derived.Shelf.Strings.BuilderF
import Derived.Shelf.Strconv.Itoa0
import Derived.Shelf.Strconv.Itoa1
import Derived.Shelf.LaysM
import Derived.Shelf.Strconv.Itoa2
import Derived.Shelf.Strings.Prefix
import Derived.Shelf.Bits.Mul64
import Derived.Shelf.Strings.Repeat
import Derived.Lib.ItoaMem
import Derived.Lib.OthersKept
import Derived.Deep.CutBlock
import Derived.Laws.Bits64b
import Derived.Lib.AppendZeros
import Derived.Lib.Bytealg
import Derived.Laws.RangeAny
import Derived.Lib.ConvBytes
import Derived.Lib.SlBytesRow
import Derived.Lib.SmallJoins
import Derived.RegionTactic
import Derived.Maps.OwnSet
import Derived.Maps.Own
import Derived.Laws.EntriesVeiled
import Derived.Test.YteigcfflljoioaaGreatDoorRows
import Derived.Test.YteigcfflljoioaaGreatDoorCards
import Derived.Test.YteigcfflljoioaaGreatDoorTie
import Derived.ProofKit
import Derived.LaidMore
import Derived.OpenShut
import Derived.ShutString
import Derived.ChangeOld
import Derived.Stop.Joined
import Derived.Deep.Slices
import Derived.SevenTiedAt
import Derived.Test.YteigcfflljoioaaGreatDoorM6
set_option linter.unusedSimpArgs false
set_option linter.unusedVariables false
set_option maxRecDepth 100000
namespace Go.Proofs.YteigcfflljoioaaGreatDoor.NM
/-- A value as so many of 10 to the power -100. -/
def sc (m e : Int) : Int := m * (T (e + 100).toNat : Nat)
theorem sc_trim {N : Nat} {e : Int} (h : N ≠ 0) (he : -100 ≤ e) : (trim N e).1 * T ((trim N e).2 + 100).toNat = N * T (e + 100).toNat := by
  obtain ⟨k, a, b, c⟩ := trim_spec N e h
  have : N * T (e + 100).toNat = (trim N e).1 * T k * T (e + 100).toNat := by rw [← a]
  rw [this, b, Nat.mul_assoc, ← T_add]; congr 2; omega
end Go.Proofs.YteigcfflljoioaaGreatDoor.NM
namespace Go.Proofs.YteigcfflljoioaaGreatDoor
open Go.RowKit NM
theorem rnd_far_down {neg : Bool} {N : Nat} {e : Int} (h : (nd N : Int) + e < -41) : rnd neg N false e = some (0, 0) := by
  apply rnd_of_zero
  unfold n2
  apply cutN_far
  by_cases h15 : nd N ≤ 15
  · have : n1 N false = N := by unfold n1; rw [show nd N - 15 = 0 by omega, cutN_zero]
    rw [this, show nd N - 15 = 0 by omega]; omega
  · have := (nd_le_iff (n1 N false) 16).2 (Nat.lt_of_le_of_lt (n1_le N false) (T_lt (by omega)))
    omega
set_option maxHeartbeats 1000000 in
theorem rmake_any (m ex : Int) (w : World) (hm : I64 m) :
    Calls Tryz.prog 35 #[.int .i64 m, .int .i64 ex] w fun e w' => e = .returned (rnV (rnd (decide (m < 0)) m.natAbs false ex)) ∧ Ext w w' := by
  by_cases h0 : m = 0
  · subst h0
    have hr : rnd (decide ((0 : Int) < 0)) (0 : Int).natAbs false ex = some (0, 0) := rnd_of_zero (n2_zero _ _)
    rw [hr]
    go_enter Tryz.func35, Tryz.ntmps35
    go_wp2
    exact bodyPost_ret (v := .tuple #[NV 0 0, .bool true]) (by simp [results, Tryz.results35, go_sem]) rfl ⟨rfl, by repeat (first | exact Ext.refl _ | apply Ext.drew | apply Ext.alloc | apply Ext.more_)⟩
  · have h0' : (m == 0) = false := by simp [h0]
    by_cases h1 : 100 < ex
    · rw [rnd_far_up (by omega) (by omega)]
      clear h0
      go_enter Tryz.func35, Tryz.ntmps35
      go_wp2
      exact bodyPost_ret (v := .tuple #[NV 0 0, .bool false]) (by simp [results, Tryz.results35, go_sem]) rfl ⟨rfl, by repeat (first | exact Ext.refl _ | apply Ext.drew | apply Ext.alloc | apply Ext.more_)⟩
    · have hnd : nd m.natAbs ≤ 20 := (nd_le_iff _ _).2 (Nat.lt_of_lt_of_le (show m.natAbs < 18446744073709551616 by obtain ⟨h1, h2⟩ := hm; omega) (by decide))
      by_cases h2 : ex < -100
      · rw [rnd_far_down (by omega)]
        clear h0
        go_enter Tryz.func35, Tryz.ntmps35
        go_wp2
        exact bodyPost_ret (v := .tuple #[NV 0 0, .bool true]) (by simp [results, Tryz.results35, go_sem]) rfl ⟨rfl, by repeat (first | exact Ext.refl _ | apply Ext.drew | apply Ext.alloc | apply Ext.more_)⟩
      · clear h0
        have HA := Lib.hid (dig_all m.natAbs)
        have HL := Lib.hid (dig_length m.natAbs)
        have HV := Lib.hid (val_dig m.natAbs)
        go_enter Tryz.func35, Tryz.ntmps35
        go_wp2_with (first | (go_at_call 63; refine (rdigits m _ hm).mono ?_; rintro e w' ⟨A, c, rfl, hr, hc, hx⟩; obtain ⟨os, d, rfl⟩ := hx.more) | (go_at_call 62; refine (near_any _ _ _ _ _ (dig m.natAbs) m.natAbs _ _ _ HL.out hr hc (by omega) HA.out HV.out (by omega) (by simp)).mono ?_; rintro e w' ⟨rfl, hx2⟩; obtain ⟨os2, d2, rfl⟩ := hx2.more))
        exact bodyPost_ret (v := rnV (rnd (decide (m < 0)) m.natAbs false ex)) (by simp [results, Tryz.results35, go_sem]) rfl ⟨rfl, by repeat (first | exact Ext.refl _ | apply Ext.drew | apply Ext.alloc | apply Ext.more_)⟩
end Go.Proofs.YteigcfflljoioaaGreatDoor
namespace Go.Proofs.YteigcfflljoioaaGreatDoor
open NM
theorem T_cast_mul (a b : Nat) : ((T (a + b) : Nat) : Int) = (T a : Nat) * (T b : Nat) := by rw [T_add, Int.natCast_mul]
theorem sum_sc {ma ea mb eb : Int} (h1 : -100 ≤ ea) (h2 : -100 ≤ eb) : sumI ma ea mb eb * (T (min ea eb + 100).toNat : Nat) = sc ma ea + sc mb eb := by
  unfold sumI sc
  rw [Int.add_mul, Int.mul_assoc, Int.mul_assoc, ← T_cast_mul, ← T_cast_mul]
  congr 3
  · congr 2; omega
  · congr 2; omega
theorem sc_neg (m e : Int) : sc (-m) e = - sc m e := by unfold sc; rw [Int.neg_mul]
end Go.Proofs.YteigcfflljoioaaGreatDoor
namespace Go.Proofs.YteigcfflljoioaaGreatDoor
open Go.RowKit
section
variable {P : Program} {ops : Array Oper} {Q : Exit → Act → World → Prop} {tl : List Nat}
variable {W0 : World} {fs : List FL} {tp : List Nat} {a : Act} {E : World → Prop} {i : Nat} {rest : List (Nat × Nat)} {o : Oper}
theorem wpFp_pure {v : Value} (hi : ops.toList[i]? = some o) (hw : Region.wanted o (yielded ops a.tmps) = true) (h : ∀ w, (execOp a.eval o).run P w = .ok (.value v) w) (k : wpFp P ops Q W0 fs tp rest (a.put o.dst v) E) :
    wpFp P ops Q W0 fs tp ((i, 2) :: rest) a E := ⟨o, v, by simpa using hi, .inl ⟨hw, fun w _ => h w⟩, k⟩
/-- One new variable: the world behind the others. -/
theorem wpFp_one {i t : Nat} {ob : Obj} (h : ∀ os1 d1 os2 d2, E (more ((more W0 os1 d1).alloc ob) os2 d2) → wpTl P ops Q tp (a.put (some t) (.pointer (some ⟨W0.heap.size + os1.size, 0, none⟩))) (more ((more W0 os1 d1).alloc ob) os2 d2)) :
    wpFp P ops Q W0 [(i, t, ob)] tp [] a E := by
  intro β w hX hE hb _
  obtain ⟨b, hb1, hb2, hb3⟩ := hb _ (List.mem_singleton.2 rfl)
  obtain ⟨os, d, rfl⟩ := hX.more
  obtain ⟨k, rfl⟩ : ∃ k, b = W0.heap.size + k := ⟨b - W0.heap.size, by omega⟩
  have hk : os[k]? = some ob := by
    have : (W0.heap ++ os)[W0.heap.size + k]? = some ob := hb2
    rw [Array.getElem?_append_right (by omega)] at this
    simpa using this
  have hklt : k < os.size := (Array.getElem?_eq_some_iff.1 hk).1
  have hos : os = (os.extract 0 k).push ob ++ os.extract (k + 1) os.size := by
    apply Array.ext_getElem?
    intro j
    have hs : (os.extract 0 k).size = k := by simp; omega
    rcases Nat.lt_trichotomy j k with hj | rfl | hj
    · rw [Array.getElem?_append_left (by simp; omega), Array.getElem?_push, if_neg (by omega), Array.getElem?_extract]
      simp
      omega
    · rw [Array.getElem?_append_left (by simp; omega), Array.getElem?_push, if_pos (by omega)]; exact hk
    · rw [Array.getElem?_append_right (by simp; omega), Array.getElem?_extract]
      by_cases h2 : j < os.size
      · rw [if_pos (by simp; omega)]
        congr 1
        simp
        omega
      · rw [if_neg (by simp; omega), Array.getElem?_eq_none (by omega)]
  have hw : more W0 os d = more ((more W0 (os.extract 0 k) d).alloc ob) (os.extract (k + 1) os.size) d := by
    simp only [more, World.alloc]
    congr 1
    conv => lhs; rw [hos]
    simp
  have hsz : (os.extract 0 k).size = k := by simp; omega
  have := h (os.extract 0 k) d (os.extract (k + 1) os.size) d (by rw [← hw]; exact hE)
  rw [← hw, hsz] at this
  have hp : putF [(i, t, ob)] β a = a.put (some t) (ptrB (W0.heap.size + k)) := by
    unfold putF
    rw [hb1]
    rfl
  rw [hp]
  exact this
/-- Two new variables: the world behind the others. -/
theorem wpFp_two {i1 t1 i2 t2 : Nat} {ob1 ob2 : Obj} (hne : i1 ≠ i2) (h : ∀ b1 b2 w, Ext W0 w → E w → w.heap[b1]? = some ob1 → w.heap[b2]? = some ob2 → W0.heap.size ≤ b1 → W0.heap.size ≤ b2 → b1 ≠ b2 →
      wpTl P ops Q tp ((a.put (some t2) (.pointer (some ⟨b2, 0, none⟩))).put (some t1) (.pointer (some ⟨b1, 0, none⟩))) w) :
    wpFp P ops Q W0 [(i1, t1, ob1), (i2, t2, ob2)] tp [] a E := by
  intro β w hX hE hb hinj
  obtain ⟨b1, h1, h2, h3⟩ := hb (i1, t1, ob1) (by simp)
  obtain ⟨b2, g1, g2, g3⟩ := hb (i2, t2, ob2) (by simp)
  have hbb : b1 ≠ b2 := fun e => by
    subst e
    exact hne (hinj (i1, t1, ob1) (by simp) (i2, t2, ob2) (by simp) b1 h1 g1)
  have hp : putF [(i1, t1, ob1), (i2, t2, ob2)] β a = (a.put (some t2) (ptrB b2)).put (some t1) (ptrB b1) := by
    unfold putF
    rw [h1]
    unfold putF
    rw [g1]
    rfl
  rw [hp]
  exact h b1 b2 w hX hE h2 g2 h3 g3 hbb
end
end Go.Proofs.YteigcfflljoioaaGreatDoor
namespace Go.Proofs.YteigcfflljoioaaGreatDoor
open Go.RowKit
/-- An array's values stand in no array's variable: that one may turn. -/
theorem ArrIn.box {X : World} {os : Array Obj} {d : Nat} {i0 i1 : Int} {p : Option Addr} {q r : Nat} {ty : TypeId} {A : Option Addr} {n cap : Nat} {l : List Val} (h : ArrIn (more (X.alloc (.cells #[.int .i64 i0, .int .i64 i1, .slice p q r] ty)) os d) A n cap l) (C' : Array Value) (ty' : TypeId) (d' : Nat) :
    ArrIn (more (X.alloc (.cells C' ty')) os d') A n cap l := by
  refine ⟨fun j u hu => ?_, h.len, h.cap, h.small, h.ok⟩
  obtain ⟨b, off, hA, hb, hc⟩ := h.rd j u hu
  refine ⟨b, off, hA, hb, ?_⟩
  have hne : b ≠ X.heap.size := by
    intro e
    cases l with
    | nil => simp [vcells] at hu
    | cons x l =>
      obtain ⟨b', off', hA', _, hc3⟩ := h.rd 3 (.string x.text) (by simp [vcells, Val.cells])
      rw [hA] at hA'
      simp only [Option.some.injEq, Addr.mk.injEq, and_true] at hA'
      obtain ⟨rfl, rfl⟩ := hA'
      subst e
      rw [more_cell _ _ _ _ _ (by simp), World.cell?_alloc_at _ _ _ _ rfl] at hc3
      simp at hc3
  rw [← hc]
  refine World.cell?_of_block ?_
  show (more (X.alloc (.cells C' ty')) os d').heap[b]? = (more (X.alloc _) os d).heap[b]?
  simp only [more, World.alloc, Array.getElem?_append, Array.size_push, Array.getElem?_push]
  by_cases hlt : b < X.heap.size + 1
  · rw [if_pos hlt, if_pos hlt, if_neg hne, if_neg hne]
  · rw [if_neg hlt, if_neg hlt]
end Go.Proofs.YteigcfflljoioaaGreatDoor
namespace Go.Proofs.YteigcfflljoioaaGreatDoor
open Go.RowKit NM
theorem rndx_scale (x e : Int) (i : Nat) : rndI (x * (T i : Nat)) (e - i) = rndI x e := by
  unfold rndI
  have h0 := T_pos i
  have h1 : decide (x * ((T i : Nat) : Int) < 0) = decide (x < 0) := by
    by_cases hx : x < 0
    · rw [decide_eq_true hx, decide_eq_true (Int.mul_neg_of_neg_of_pos hx (by omega))]
    · rw [decide_eq_false hx, decide_eq_false (Int.not_lt.2 (Int.mul_nonneg (by omega) (by omega)))]
  rw [h1, Int.natAbs_mul, Int.natAbs_natCast, rnd_scale]
/-- A number at the scale of 10^-100. -/
theorem rndx_sc (x : Int) {e : Int} (he : -100 ≤ e) : rndI (x * (T (e + 100).toNat : Nat)) (-100) = rndI x e := by
  have := rndx_scale x e (e + 100).toNat
  rw [show e - ((e + 100).toNat : Int) = -100 by omega] at this
  exact this
theorem rt_lo {m e : Int} (h : Rt m e) : -40 ≤ e := by
  rcases h with ⟨_, h⟩ | ⟨_, _, _, h, _⟩ <;> omega
theorem addx {ma ea mb eb : Int} (h1 : Rt ma ea) (h2 : Rt mb eb) : addS ma ea mb eb = rndI (sc ma ea + sc mb eb) (-100) := by
  have e1 := rt_lo h1
  have e2 := rt_lo h2
  unfold addS
  rw [if_pos ⟨h1, h2⟩, ← sum_sc (by omega) (by omega), rndx_sc _ (by omega)]
theorem subx {ma ea mb eb : Int} (h1 : Rt ma ea) (h2 : Rt mb eb) : subS ma ea mb eb = rndI (sc ma ea - sc mb eb) (-100) := by
  have e1 := rt_lo h1
  have e2 := rt_lo h2
  unfold subS
  rw [if_pos ⟨h1, h2⟩]
  have := sum_sc (ma := ma) (ea := ea) (mb := -mb) (eb := eb) (by omega) (by omega)
  rw [sc_neg] at this
  rw [Int.sub_eq_add_neg, ← this, rndx_sc _ (by omega)]
/-- A number of at most 15 digits is what it is. -/
theorem exactx {x e : Int} (hx : x.natAbs < T 15) (h1 : -40 ≤ e) (h2 : e ≤ 25) : ∃ m k, rndI x e = some (m, k) ∧ Rt m k ∧ sc m k = sc x e ∧ (m = 0 ↔ x = 0) ∧ (x ≠ 0 → e ≤ k) := by
  have hn : nd x.natAbs ≤ 15 := (nd_le_iff _ _).2 hx
  have hz : nd x.natAbs - 15 = 0 := by omega
  by_cases h0 : x = 0
  · subst h0
    refine ⟨0, 0, ?_, rt_zero, ?_, ⟨fun _ => rfl, fun _ => rfl⟩, fun h => absurd rfl h⟩
    · unfold rndI; exact rnd_nought _ _ _
    · unfold sc; rw [Int.zero_mul, Int.zero_mul]
  · have hN : x.natAbs ≠ 0 := by omega
    have e1 : n1 x.natAbs false = x.natAbs := by unfold n1; rw [hz, cutN_zero]
    have e2' : n2 x.natAbs false e = x.natAbs := by
      unfold n2; rw [e1, hz, show (-40 - (e + ((0 : Nat) : Int))).toNat = 0 by omega, cutN_zero]
    have e3 : NM.e2 x.natAbs e = e := by unfold NM.e2; rw [hz]; omega
    have hr : rndI x e = some (sg (decide (x < 0)) (trim x.natAbs e).1, (trim x.natAbs e).2) := by
      unfold rndI
      rw [rnd_fin, e2', e3]
      unfold fin
      rw [if_neg hN, if_neg (by omega)]
    obtain ⟨k, g1, g2, g3⟩ := trim_spec x.natAbs e hN
    have g4 : (trim x.natAbs e).1 ≠ 0 := fun h => g3 (by rw [h])
    refine ⟨_, _, hr, ?_, ?_, ⟨fun h => absurd (sg_zero.1 h) g4, fun h => absurd h h0⟩, fun _ => by rw [g2]; omega⟩
    · have := hr; unfold rndI at this; exact rnd_right this
    · have g5 := sc_trim (N := x.natAbs) (e := e) hN (by omega)
      unfold sc
      rw [← sg_mul_nat, g5, sg_mul_nat, sg_nat]
/-- The number of a whole number. -/
def wholeN (n : Int) : Int × Int := (rndI n 0).getD (0, 0)
theorem wholex {n : Int} (h : n.natAbs < T 15) : rndI n 0 = some (wholeN n) ∧ Rt (wholeN n).1 (wholeN n).2 ∧ sc (wholeN n).1 (wholeN n).2 = sc n 0 ∧ ((wholeN n).1 = 0 ↔ n = 0) ∧ 0 ≤ (wholeN n).2 := by
  obtain ⟨m, k, h1, h2, h3, h4, h5⟩ := exactx h (e := 0) (by omega) (by omega)
  have hw : wholeN n = (m, k) := by unfold wholeN; rw [h1]; rfl
  rw [hw]
  refine ⟨h1, h2, h3, h4, ?_⟩
  by_cases h0 : n = 0
  · have hm := h4.2 h0
    rcases h2 with ⟨_, hk⟩ | ⟨hm', _⟩
    · show 0 ≤ k; omega
    · exact absurd hm hm'
  · exact h5 h0
theorem sc_whole0 (n : Int) : sc n 0 = n * (T 100 : Nat) := rfl
theorem rnd_whole (n : Int) : rndI (n * (T 100 : Nat)) (-100) = rndI n 0 := rndx_sc n (e := 0) (by omega)
theorem sub_whole {a b : Int} (ha : a.natAbs < T 15) (hb : b.natAbs < T 15) : subS (wholeN a).1 (wholeN a).2 (wholeN b).1 (wholeN b).2 = rndI (a - b) 0 := by
  obtain ⟨_, a1, a2, _⟩ := wholex ha
  obtain ⟨_, b1, b2, _⟩ := wholex hb
  rw [subx a1 b1, a2, b2, sc_whole0, sc_whole0, ← Int.sub_mul, rnd_whole]
theorem add_whole {a b : Int} (ha : a.natAbs < T 15) (hb : b.natAbs < T 15) : addS (wholeN a).1 (wholeN a).2 (wholeN b).1 (wholeN b).2 = rndI (a + b) 0 := by
  obtain ⟨_, a1, a2, _⟩ := wholex ha
  obtain ⟨_, b1, b2, _⟩ := wholex hb
  rw [addx a1 b1, a2, b2, sc_whole0, sc_whole0, ← Int.add_mul, rnd_whole]
theorem rt_hundred : Rt 1 2 := rt_lit (by decide) (by decide) (by decide) (by decide) (by decide)
/-- Its hundredth part, and a hundred times that. -/
theorem div_hundred {m e : Int} (h : Rt m e) (he : 0 ≤ e) : divS m e 1 2 = some (if m = 0 then (0, 0) else (m, e - 2)) := by
  unfold divS
  rw [if_pos ⟨h, rt_hundred, by decide⟩]
  have h1 := divR_done (ngB m 1) (P := m.natAbs) (Q := 1) (j := 0) (e - 2) (by omega) (by omega) (Nat.mod_one _)
  rw [show (1 : Int).natAbs = 1 from rfl, ← h1, Nat.div_one, show T 0 = 1 from rfl, Nat.mul_one, show e - 2 - ((0 : Nat) : Int) = e - 2 by omega]
  have hn : ngB m 1 = decide (m < 0) := by unfold ngB; cases decide (m < 0) <;> rfl
  rw [hn]
  by_cases h0 : m = 0
  · subst h0; rw [if_pos rfl]; exact rnd_nought _ _ _
  · rw [if_neg h0]
    refine rndx_right (m := m) (e := e - 2) ?_
    rcases h with ⟨h, _⟩ | ⟨g1, g2, g3, g4, g5⟩
    · exact absurd h h0
    · exact Or.inr ⟨g1, g2, g3, by omega, by omega⟩
theorem mul_hundred {m e : Int} (h : Rt m e) (he : 0 ≤ e) : mulS (if m = 0 then ((0 : Int), (0 : Int)) else (m, e - 2)).1 (if m = 0 then ((0 : Int), (0 : Int)) else (m, e - 2)).2 1 2 = some (m, e) := by
  by_cases h0 : m = 0
  · rw [if_pos h0]
    unfold mulS
    rw [if_pos ⟨rt_zero, rt_hundred⟩]
    subst h0
    rcases h with ⟨_, h⟩ | ⟨h, _⟩
    · subst h; exact rnd_nought _ _ _
    · exact absurd rfl h
  · rw [if_neg h0]
    unfold mulS
    have hr : Rt m (e - 2) := by
      rcases h with ⟨h, _⟩ | ⟨g1, g2, g3, g4, g5⟩
      · exact absurd h h0
      · exact Or.inr ⟨g1, g2, g3, by omega, by omega⟩
    rw [if_pos ⟨hr, rt_hundred⟩, Int.mul_one, show e - 2 + 2 = e by omega]
    exact rndx_right h
end Go.Proofs.YteigcfflljoioaaGreatDoor
namespace Go.Proofs.YteigcfflljoioaaGreatDoor
open Go.RowKit NM
theorem putb_block {W : World} {b : Nat} {p q r : Value} {ty : TypeId} (hb : W.heap[b]? = some (.cells #[p, q, r] ty)) (u v x : Value) : (((W.setCell ⟨b, 0, none⟩ u).setCell ⟨b, 1, none⟩ v).setCell ⟨b, 2, none⟩ x).heap[b]? = some (.cells #[u, v, x] ty) := by
  simp [World.setCell, Array.getElem?_modify, hb]
theorem putb_other {W : World} {b b' : Nat} (h : b' ≠ b) (u v x : Value) : (((W.setCell ⟨b, 0, none⟩ u).setCell ⟨b, 1, none⟩ v).setCell ⟨b, 2, none⟩ x).heap[b']? = W.heap[b']? := by
  rw [Below.heap_setCell _ _ _ _ h, Below.heap_setCell _ _ _ _ h, Below.heap_setCell _ _ _ _ h]
theorem ArrIn.putb {W : World} {A : Option Addr} {n cap : Nat} {l : List Val} (h : ArrIn W A n cap l) {b : Nat} {p q r : Value} {ty : TypeId} (hb : W.heap[b]? = some (.cells #[p, q, r] ty)) (u v x : Value) : ArrIn (((W.setCell ⟨b, 0, none⟩ u).setCell ⟨b, 1, none⟩ v).setCell ⟨b, 2, none⟩ x) A n cap l := by
  refine ⟨fun j y hu => ?_, h.len, h.cap, h.small, h.ok⟩
  obtain ⟨b', off, hA, hl, hc⟩ := h.rd j y hu
  refine ⟨b', off, hA, hl, ?_⟩
  have hne : b' ≠ b := by
    intro e
    cases l with
    | nil => simp [vcells] at hu
    | cons z l =>
      obtain ⟨b2, off2, hA', _, hc3⟩ := h.rd 3 (.string z.text) (by simp [vcells, Val.cells])
      rw [hA] at hA'
      simp only [Option.some.injEq, Addr.mk.injEq, and_true] at hA'
      obtain ⟨rfl, rfl⟩ := hA'
      subst e
      simp [World.cell?, hb] at hc3
  rw [← hc]
  exact World.cell?_of_block (a := ⟨b', off + j, none⟩) (putb_other hne u v x)
theorem nums_at (w : World) (o1 o2 : Obj) (osa osb : Array Obj) (da db : Nat) {W : World} (hW : W = (more ((more w osa da).alloc o1) osb db).alloc o2) : W.heap[w.heap.size + osa.size]? = some o1 ∧ W.heap[w.heap.size + osa.size + 1 + osb.size]? = some o2 ∧ Ext w W := by
  subst hW
  have x0 : Ext ((more w osa da).alloc o1) ((more ((more w osa da).alloc o1) osb db).alloc o2) := by repeat (first | (with_reducible (first | exact Ext.refl _ | exact ext_d _ _ _ _ | exact ext_app _ _ _ _ _ | exact ext_app2 _ _ _ _ _ _ | exact ext_app3 _ _ _ _ _ _ _)) | ((with_reducible refine ext_suffix ⟨_, ?_⟩); (try simp only [Array.append_assoc]); rfl) | (with_reducible (first | apply Ext.drew | apply Ext.alloc | apply Ext.more_)))
  refine ⟨?_, ?_, by repeat (first | (with_reducible (first | exact Ext.refl _ | exact ext_d _ _ _ _ | exact ext_app _ _ _ _ _ | exact ext_app2 _ _ _ _ _ _ | exact ext_app3 _ _ _ _ _ _ _)) | ((with_reducible refine ext_suffix ⟨_, ?_⟩); (try simp only [Array.append_assoc]); rfl) | (with_reducible (first | apply Ext.drew | apply Ext.alloc | apply Ext.more_)))⟩
  · have h := heap_alloc_new (more w osa da) o1
    rw [show (more w osa da).heap.size = w.heap.size + osa.size by simp] at h
    rw [x0.block (b := w.heap.size + osa.size) (by simp)]
    exact h
  · have h := heap_alloc_new (more ((more w osa da).alloc o1) osb db) o2
    rw [show (more ((more w osa da).alloc o1) osb db).heap.size = w.heap.size + osa.size + 1 + osb.size by simp] at h
    exact h
def numP (p : Int × Int) : Val := ⟨1, p.1, p.2, ⟨#[]⟩, false, 0⟩
theorem back_plain {m n : Int} (hm : m.natAbs ≤ 1000000000000) (hn : n.natAbs ≤ 1000000000000) :
    ∃ D U H : Val, (numP (wholeN m)).right ∧ (numP (wholeN n)).right ∧ D.right ∧ U.right ∧ H.right ∧ opV .sub (numP (wholeN m)) (numP (wholeN n)) = D ∧ opV .add D (numP (wholeN n)) = numP (wholeN m) ∧ negV (numP (wholeN m)) = U ∧ negV U = numP (wholeN m) ∧ centV (numP (wholeN m)) = H ∧ opV .mul H hundV = numP (wholeN m) ∧ rndI m 0 = some (wholeN m) ∧ rndI n 0 = some (wholeN n) := by
  have b15 : T 15 = 1000000000000000 := by decide
  have am : m.natAbs < T 15 := by rw [b15]; omega
  have an : n.natAbs < T 15 := by rw [b15]; omega
  have amn : (m - n).natAbs < T 15 := by rw [b15]; omega
  have anm : (-m).natAbs < T 15 := by rw [b15]; omega
  have a0 : (0 : Int).natAbs < T 15 := by rw [b15]; decide
  obtain ⟨w1, w2, w3, w4, w5⟩ := wholex am
  obtain ⟨x1, x2, _, _, _⟩ := wholex an
  obtain ⟨d1, d2, _, _, _⟩ := wholex amn
  obtain ⟨u1, u2, _, _, _⟩ := wholex anm
  have w0 : wholeN 0 = (0, 0) := by unfold wholeN rndI; rw [show (0 : Int).natAbs = 0 from rfl, rnd_nought]; rfl
  have s1 := sub_whole am an
  have s2 := add_whole amn an
  have s3 := sub_whole a0 am
  have s4 := sub_whole a0 anm
  rw [w0] at s3 s4
  rw [d1] at s1
  rw [show m - n + n = m by omega, w1] at s2
  rw [show 0 - m = -m by omega, u1] at s3
  rw [show 0 - -m = m by omega, w1] at s4
  have r1 : (numP (wholeN m)).right := right_num w2
  refine ⟨numP (wholeN (m - n)), numP (wholeN (-m)), numP (if (wholeN m).1 = 0 then (0, 0) else ((wholeN m).1, (wholeN m).2 - 2)), r1, right_num x2, right_num d2, right_num u2, ?_, ?_, ?_, ?_, ?_, ?_, ?_, w1, x1⟩
  · have : (centV (numP (wholeN m))).right := right_reck (fun _ _ _ _ _ => divS_rt) _ _
    have e : centV (numP (wholeN m)) = numP (if (wholeN m).1 = 0 then (0, 0) else ((wholeN m).1, (wholeN m).2 - 2)) := by
      show numRes (divS _ _ 1 2) = _
      show numRes (divS (wholeN m).1 (wholeN m).2 1 2) = _
      rw [div_hundred w2 w5]; rfl
    rw [e] at this; exact this
  · show numRes (subS _ _ _ _) = _
    show numRes (subS (wholeN m).1 (wholeN m).2 (wholeN n).1 (wholeN n).2) = _
    rw [s1]; rfl
  · show numRes (addS (wholeN (m - n)).1 (wholeN (m - n)).2 (wholeN n).1 (wholeN n).2) = _
    rw [s2]; rfl
  · show numRes (subS 0 0 (wholeN m).1 (wholeN m).2) = _
    rw [s3]; rfl
  · show numRes (subS 0 0 (wholeN (-m)).1 (wholeN (-m)).2) = _
    rw [s4]; rfl
  · show numRes (divS (wholeN m).1 (wholeN m).2 1 2) = _
    rw [div_hundred w2 w5]; rfl
  · show numRes (mulS (if (wholeN m).1 = 0 then ((0 : Int), (0 : Int)) else ((wholeN m).1, (wholeN m).2 - 2)).1 (if (wholeN m).1 = 0 then ((0 : Int), (0 : Int)) else ((wholeN m).1, (wholeN m).2 - 2)).2 1 2) = _
    rw [mul_hundred w2 w5]; rfl
theorem each_one {t : Val → Val} (ht : ∀ x, x.right → (t x).right) {x : Val} (hx : x.right) : eachRes t 1 1 [x] = ⟨1, 1, [t x]⟩ := each_right (R := 1) (C := 1) (rightA_one hx) ht
set_option maxHeartbeats 4000000 in
theorem back_yes (m n : Int) (w : World) (htab : Tab w) (hmi : I64 m) (hni : I64 n) (hm : m.natAbs ≤ 1000000000000) (hn : n.natAbs ≤ 1000000000000) :
    Calls Tryz.prog 10 #[.int .i64 m, .int .i64 n] w fun e w' => e = .returned (.bool true) ∧ Ext w w' := by
  obtain ⟨D, U, Hv, ra, rb, rd, ru, rh, e1, e2, e3, e4, e5, e6, k1, k2⟩ := back_plain hm hn
  have f1 := both_one .sub ra rb
  have f2 := both_one .add rd rb
  have f3 := each_one neg_right ra
  have f4 := each_one neg_right ru
  have f5 := each_one cent_right ra
  have f6 := both_one .mul rh right_hund
  rw [e1] at f1
  rw [e2] at f2
  rw [e3] at f3
  rw [e4] at f4
  rw [e5] at f5
  rw [e6] at f6
  have hk1 := fun W => rmake_any m 0 W hmi
  have hk2 := fun W => rmake_any n 0 W hni
  rw [show rnd (decide (m < 0)) m.natAbs false 0 = some (wholeN m) from k1] at hk1
  rw [show rnd (decide (n < 0)) n.natAbs false 0 = some (wholeN n) from k2] at hk2
  simp only [rnV, rm, re, Option.getD_some, Option.isSome_some] at hk1 hk2
  have hn1 := fun W => rnumber_any (wholeN m).1 (wholeN m).2 W
  have hn2 := fun W => rnumber_any (wholeN n).1 (wholeN n).2 W
  have hn3 := fun W => rnumber_any 1 2 W
  have ho1 := fun W => one10_any (numP (wholeN m)) W ra.ok
  have ho2 := fun W => one10_any (numP (wholeN n)) W rb.ok
  have ho3 := fun W => one10_any hundV W right_hund.ok
  generalize hA : [numP (wholeN m)] = lA at *
  generalize hB : [numP (wholeN n)] = lB at *
  generalize hH : [hundV] = lH at *
  simp only [numP, hundV] at ho1 ho2 ho3
  have HF := Lib.hid (And.intro f1 (And.intro f2 (And.intro f3 (And.intro f4 (And.intro f5 f6)))))
  have hs1 : sameA 1 1 lA 1 1 lA = true := by simp [sameA]
  generalize (wholeN m).1 = m1 at *
  generalize (wholeN m).2 = m2 at *
  generalize (wholeN n).1 = n1 at *
  generalize (wholeN n).2 = n2 at *
  have q1 : ¬ m < -1000000000000 := by omega
  have q2 : ¬ 1000000000000 < m := by omega
  have q3 : ¬ n < -1000000000000 := by omega
  have q4 : ¬ 1000000000000 < n := by omega
  have HT := Lib.hid htab
  clear f1 f2 f3 f4 f5 f6 e1 e2 e3 e4 e5 e6 ra rb rd ru rh hA hB hH htab hm hn hmi hni k1 k2
  go_enter Tryz.func10, Tryz.ntmps10
  go_wp2_with fail
  refine (awake10_any _ (HT.out.ext (by repeat (first | (with_reducible (first | exact Ext.refl _ | exact ext_d _ _ _ _ | exact ext_app _ _ _ _ _ | exact ext_app2 _ _ _ _ _ _ | exact ext_app3 _ _ _ _ _ _ _)) | ((with_reducible refine ext_suffix ⟨_, ?_⟩); (try simp only [Array.append_assoc]); rfl) | (with_reducible (first | apply Ext.drew | apply Ext.alloc | apply Ext.more_)))))).mono ?_; rintro e w' ⟨rfl, hb⟩; obtain ⟨os1, d1, rfl⟩ := hb.more; clear hb
  go_wp2_with fail
  refine (hk1 _).mono ?_; rintro e w' ⟨rfl, hb⟩; obtain ⟨os2, d2, rfl⟩ := hb.more; clear hb
  go_wp2_with fail
  refine (hk2 _).mono ?_; rintro e w' ⟨rfl, hb⟩; obtain ⟨os3, d3, rfl⟩ := hb.more; clear hb
  go_upto_region 7 with fail
  refine wp_world fun W0 hW0 => ?_
  obtain ⟨r1, r2, hwW⟩ := nums_at _ _ _ _ _ _ _ hW0
  clear hW0
  simp only [Array.size_append] at r1 r2
  have b1 := lt_of_block r1
  have b2 := lt_of_block r2
  have a0 := cell_of_row _ _ 0 _ _ _ r1
  have a1 := cell_of_row _ _ 1 _ _ _ r1
  have a2 := cell_of_row _ _ 0 _ _ _ r2
  have a3 := cell_of_row _ _ 1 _ _ _ r2
  refine wp_float [(6, 9, (.cells #[.int .i64 0, .int .i64 0, .slice none 0 0] 34)), (7, 10, (.cells #[.int .i64 0, .int .i64 0, .slice none 0 0] 34))] [(0, 0), (3, 0), (1, 1), (2, 1), (4, 1), (5, 1)] [8, 9] [8, 9] [] (by kernel_rfl) (by kernel_rfl) (by kernel_rfl) (fun _ _ d _ _ h => by cases d <;> exact h) (fun _ _ d _ _ h => by cases d <;> exact h) (fun x hx o ho a w => by (rcases List.mem_cons.1 hx with rfl | hx); (focus (obtain rfl := Option.some.inj ho); (first | rfl | (simp [go_sem, ptrB]; done) | (go_simp; rfl))); (obtain rfl := List.mem_singleton.1 hx); (obtain rfl := Option.some.inj ho); (first | rfl | (simp [go_sem, ptrB]; done) | (go_simp; rfl))) ?_
  iterate 2 ((refine wpFp_read (v := ?_) rfl ?_ (fun w1 h1 => ?_) ?_; rotate_left 1; rfl; (obtain ⟨os1, d1, rfl⟩ := h1.more; go_simp; first | done | rfl)); try simp only [Act.put, zqA, zqB, zqC])
  (refine wpFp_eff rfl ?_ (fun wf hXf hE K hK => ?_); rfl; obtain ⟨osf, df, rfl⟩ := hXf.more; go_simp; refine (hn1 _).mono ?_; rintro e w' ⟨rfl, hb⟩; refine hK _ _ (fun _ => True) (by (try simp only [more_drew, more_more, Array.append_assoc]); exact hb) (fun _ _ _ _ => trivial) trivial ?_)
  try simp only [Act.put, zqA, zqB, zqC]
  (refine wpFp_eff rfl ?_ (fun wf hXf hE K hK => ?_); rfl; obtain ⟨osf, df, rfl⟩ := hXf.more; go_simp; refine (ho1 _).mono ?_; rintro e w' ⟨D1, c1, rfl, hN1, hb⟩; refine hK _ _ (fun W => ArrIn W D1 1 c1 lA) (by (try simp only [more_drew, more_more, Array.append_assoc]); exact hb) (fun _ _ hx h => h.ext hx) hN1.arr ?_)
  try simp only [Act.put, zqA, zqB, zqC]
  (refine wpFp_eff rfl ?_ (fun wf hXf hE K hK => ?_); rfl; obtain ⟨osf, df, rfl⟩ := hXf.more; go_simp; refine (hn2 _).mono ?_; rintro e w' ⟨rfl, hb⟩; refine hK _ _ (fun W => ArrIn W D1 1 c1 lA) (by (try simp only [more_drew, more_more, Array.append_assoc]); exact hb) (fun _ _ hx h => h.ext hx) (hE.ext (by (try simp only [more_drew, more_more, Array.append_assoc]); exact hb)) ?_)
  try simp only [Act.put, zqA, zqB, zqC]
  (refine wpFp_eff rfl ?_ (fun wf hXf hE K hK => ?_); rfl; obtain ⟨osf, df, rfl⟩ := hXf.more; go_simp; refine (ho2 _).mono ?_; rintro e w' ⟨D2, c2, rfl, hN2, hb⟩; refine hK _ _ (fun W => ArrIn W D1 1 c1 lA ∧ ArrIn W D2 1 c2 lB) (by (try simp only [more_drew, more_more, Array.append_assoc]); exact hb) (fun _ _ hx h => ⟨h.1.ext hx, h.2.ext hx⟩) ⟨hE.ext (by (try simp only [more_drew, more_more, Array.append_assoc]); exact hb), hN2.arr⟩ ?_)
  try simp only [Act.put, zqA, zqB, zqC]
  refine wpFp_two (by decide) fun fb1 fb2 wf hXf hE hf1 hf2 hl1 hl2 hfn => ?_
  try simp only [Act.put, zqA, zqB, zqC]
  skip
  have u10 := cell_of_row _ _ 0 _ _ _ hf1
  have u11 := cell_of_row _ _ 1 _ _ _ hf1
  have u12 := cell_of_row _ _ 2 _ _ _ hf1
  have u20 := cell_of_row _ _ 0 _ _ _ hf2
  have u21 := cell_of_row _ _ 1 _ _ _ hf2
  have u22 := cell_of_row _ _ 2 _ _ _ hf2
  have v10 := frozen_of_row _ _ 0 _ _ hf1
  have v11 := frozen_of_row _ _ 1 _ _ hf1
  have v12 := frozen_of_row _ _ 2 _ _ hf1
  have v20 := frozen_of_row _ _ 0 _ _ hf2
  have v21 := frozen_of_row _ _ 1 _ _ hf2
  have v22 := frozen_of_row _ _ 2 _ _ hf2
  have hfn2 := Ne.symm hfn
  iterate 2 ((refine wpTl_op rfl ?_ (fun K hK => ?_); rfl; go_simp; refine hK _ _ ?_); try simp only [Act.put, zqA, zqB, zqC])
  refine wpTl_nil ?_
  generalize hV : (((((wf.setCell ⟨fb1, 0, none⟩ (.int .i64 1)).setCell ⟨fb1, 1, none⟩ (.int .i64 1)).setCell ⟨fb1, 2, none⟩ (.slice D1 1 c1)).setCell ⟨fb2, 0, none⟩ (.int .i64 1)).setCell ⟨fb2, 1, none⟩ (.int .i64 1)).setCell ⟨fb2, 2, none⟩ (.slice D2 1 c2) = V
  have hg2 : (((wf.setCell ⟨fb1, 0, none⟩ (.int .i64 1)).setCell ⟨fb1, 1, none⟩ (.int .i64 1)).setCell ⟨fb1, 2, none⟩ (.slice D1 1 c1)).heap[fb2]? = some (.cells #[.int .i64 0, .int .i64 0, .slice none 0 0] 34) := (putb_other hfn2 _ _ _).trans hf2
  have x1 : V.heap[fb1]? = some (.cells #[.int .i64 1, .int .i64 1, .slice D1 1 c1] 34) := by rw [← hV, putb_other hfn]; exact putb_block hf1 _ _ _
  have x2 : V.heap[fb2]? = some (.cells #[.int .i64 1, .int .i64 1, .slice D2 1 c2] 34) := by rw [← hV]; exact putb_block hg2 _ _ _
  have hAv : ArrIn V D1 1 c1 lA := by rw [← hV]; exact (hE.1.putb hf1 _ _ _).putb hg2 _ _ _
  have hBv : ArrIn V D2 1 c2 lB := by rw [← hV]; exact (hE.2.putb hf1 _ _ _).putb hg2 _ _ _
  (try simp only [more_drew] at hXf hl1 hl2)
  have hXd : Ext W0 V := by
    refine Ext.trans ((Ext.refl W0).drew) ?_
    rw [← hV]
    refine Ext.set (Ext.set (Ext.set (Ext.set (Ext.set (Ext.set hXf _ ?_) _ ?_) _ ?_) _ ?_) _ ?_) _ ?_
    all_goals first | exact hl1 | exact hl2
  have hwV := hwW.trans hXd
  clear hV hg2 hE hXf hXd hwW u10 u11 u12 u20 u21 u22 v10 v11 v12 v20 v21 v22 hf1 hf2 hl1 hl2 a0 a1 a2 a3 r1 r2 b1 b2 hfn hfn2
  have b1 := lt_of_block x1
  have b2 := lt_of_block x2
  have p0 := cell_of_row _ _ 0 _ _ _ x1
  have p1 := cell_of_row _ _ 1 _ _ _ x1
  have p2 := cell_of_row _ _ 2 _ _ _ x1
  have p3 := cell_of_row _ _ 0 _ _ _ x2
  have p4 := cell_of_row _ _ 1 _ _ _ x2
  have p5 := cell_of_row _ _ 2 _ _ _ x2
  go_wp2_with fail
  refine (binary_yes .sub ⟨#[45]⟩ 1 1 1 1 D1 D2 1 c1 1 c2 lA lB _ (HT.out.ext (hwV.trans (by repeat (first | (with_reducible (first | exact Ext.refl _ | exact ext_d _ _ _ _ | exact ext_app _ _ _ _ _ | exact ext_app2 _ _ _ _ _ _ | exact ext_app3 _ _ _ _ _ _ _)) | ((with_reducible refine ext_suffix ⟨_, ?_⟩); (try simp only [Array.append_assoc]); rfl) | (with_reducible (first | apply Ext.drew | apply Ext.alloc | apply Ext.more_)))))) (by decide) rfl (hAv.ext (by repeat (first | (with_reducible (first | exact Ext.refl _ | exact ext_d _ _ _ _ | exact ext_app _ _ _ _ _ | exact ext_app2 _ _ _ _ _ _ | exact ext_app3 _ _ _ _ _ _ _)) | ((with_reducible refine ext_suffix ⟨_, ?_⟩); (try simp only [Array.append_assoc]); rfl) | (with_reducible (first | apply Ext.drew | apply Ext.alloc | apply Ext.more_))))) (hBv.ext (by repeat (first | (with_reducible (first | exact Ext.refl _ | exact ext_d _ _ _ _ | exact ext_app _ _ _ _ _ | exact ext_app2 _ _ _ _ _ _ | exact ext_app3 _ _ _ _ _ _ _)) | ((with_reducible refine ext_suffix ⟨_, ?_⟩); (try simp only [Array.append_assoc]); rfl) | (with_reducible (first | apply Ext.drew | apply Ext.alloc | apply Ext.more_))))) ⟨1, 1, [D]⟩ HF.out.1).mono ?_; rintro e w' ⟨D8, m8, c8, rfl, hN8, hb⟩; obtain ⟨os8, d8, rfl⟩ := hb.more; clear hb; have hD8 := hN8.arr; clear hN8; (try simp only [more_more, drew_more, more_drew, Array.append_assoc] at hD8)
  go_wp2_with fail
  refine (binary_yes .add ⟨#[43]⟩ 1 1 1 1 D8 D2 m8 c8 1 c2 [D] lB _ (HT.out.ext (hwV.trans (by repeat (first | (with_reducible (first | exact Ext.refl _ | exact ext_d _ _ _ _ | exact ext_app _ _ _ _ _ | exact ext_app2 _ _ _ _ _ _ | exact ext_app3 _ _ _ _ _ _ _)) | ((with_reducible refine ext_suffix ⟨_, ?_⟩); (try simp only [Array.append_assoc]); rfl) | (with_reducible (first | apply Ext.drew | apply Ext.alloc | apply Ext.more_)))))) (by decide) rfl (hD8.ext (by repeat (first | (with_reducible (first | exact Ext.refl _ | exact ext_d _ _ _ _ | exact ext_app _ _ _ _ _ | exact ext_app2 _ _ _ _ _ _ | exact ext_app3 _ _ _ _ _ _ _)) | ((with_reducible refine ext_suffix ⟨_, ?_⟩); (try simp only [Array.append_assoc]); rfl) | (with_reducible (first | apply Ext.drew | apply Ext.alloc | apply Ext.more_))))) (hBv.ext (by repeat (first | (with_reducible (first | exact Ext.refl _ | exact ext_d _ _ _ _ | exact ext_app _ _ _ _ _ | exact ext_app2 _ _ _ _ _ _ | exact ext_app3 _ _ _ _ _ _ _)) | ((with_reducible refine ext_suffix ⟨_, ?_⟩); (try simp only [Array.append_assoc]); rfl) | (with_reducible (first | apply Ext.drew | apply Ext.alloc | apply Ext.more_))))) ⟨1, 1, lA⟩ HF.out.2.1).mono ?_; rintro e w' ⟨D9, m9, c9, rfl, hN9, hb⟩; obtain ⟨os9, d9, rfl⟩ := hb.more; clear hb; have hD9 := hN9.arr; clear hN9; (try simp only [more_more, drew_more, more_drew, Array.append_assoc] at hD9)
  go_wp2_with fail
  refine (unary_minus 1 1 D1 1 c1 lA _ (HT.out.ext (hwV.trans (by repeat (first | (with_reducible (first | exact Ext.refl _ | exact ext_d _ _ _ _ | exact ext_app _ _ _ _ _ | exact ext_app2 _ _ _ _ _ _ | exact ext_app3 _ _ _ _ _ _ _)) | ((with_reducible refine ext_suffix ⟨_, ?_⟩); (try simp only [Array.append_assoc]); rfl) | (with_reducible (first | apply Ext.drew | apply Ext.alloc | apply Ext.more_)))))) (hAv.ext (by repeat (first | (with_reducible (first | exact Ext.refl _ | exact ext_d _ _ _ _ | exact ext_app _ _ _ _ _ | exact ext_app2 _ _ _ _ _ _ | exact ext_app3 _ _ _ _ _ _ _)) | ((with_reducible refine ext_suffix ⟨_, ?_⟩); (try simp only [Array.append_assoc]); rfl) | (with_reducible (first | apply Ext.drew | apply Ext.alloc | apply Ext.more_))))) ⟨1, 1, [U]⟩ HF.out.2.2.1).mono ?_; rintro e w' ⟨D10, m10, c10, rfl, hN10, hb⟩; obtain ⟨os10, d10, rfl⟩ := hb.more; clear hb; have hD10 := hN10.arr; clear hN10; (try simp only [more_more, drew_more, more_drew, Array.append_assoc] at hD10)
  go_wp2_with fail
  refine (unary_minus 1 1 D10 m10 c10 [U] _ (HT.out.ext (hwV.trans (by repeat (first | (with_reducible (first | exact Ext.refl _ | exact ext_d _ _ _ _ | exact ext_app _ _ _ _ _ | exact ext_app2 _ _ _ _ _ _ | exact ext_app3 _ _ _ _ _ _ _)) | ((with_reducible refine ext_suffix ⟨_, ?_⟩); (try simp only [Array.append_assoc]); rfl) | (with_reducible (first | apply Ext.drew | apply Ext.alloc | apply Ext.more_)))))) (hD10.ext (by repeat (first | (with_reducible (first | exact Ext.refl _ | exact ext_d _ _ _ _ | exact ext_app _ _ _ _ _ | exact ext_app2 _ _ _ _ _ _ | exact ext_app3 _ _ _ _ _ _ _)) | ((with_reducible refine ext_suffix ⟨_, ?_⟩); (try simp only [Array.append_assoc]); rfl) | (with_reducible (first | apply Ext.drew | apply Ext.alloc | apply Ext.more_))))) ⟨1, 1, lA⟩ HF.out.2.2.2.1).mono ?_; rintro e w' ⟨D11, m11, c11, rfl, hN11, hb⟩; obtain ⟨os11, d11, rfl⟩ := hb.more; clear hb; have hD11 := hN11.arr; clear hN11; (try simp only [more_more, drew_more, more_drew, Array.append_assoc] at hD11)
  go_wp2_with fail
  refine (unary_cent 1 1 D1 1 c1 lA _ (HT.out.ext (hwV.trans (by repeat (first | (with_reducible (first | exact Ext.refl _ | exact ext_d _ _ _ _ | exact ext_app _ _ _ _ _ | exact ext_app2 _ _ _ _ _ _ | exact ext_app3 _ _ _ _ _ _ _)) | ((with_reducible refine ext_suffix ⟨_, ?_⟩); (try simp only [Array.append_assoc]); rfl) | (with_reducible (first | apply Ext.drew | apply Ext.alloc | apply Ext.more_)))))) (hAv.ext (by repeat (first | (with_reducible (first | exact Ext.refl _ | exact ext_d _ _ _ _ | exact ext_app _ _ _ _ _ | exact ext_app2 _ _ _ _ _ _ | exact ext_app3 _ _ _ _ _ _ _)) | ((with_reducible refine ext_suffix ⟨_, ?_⟩); (try simp only [Array.append_assoc]); rfl) | (with_reducible (first | apply Ext.drew | apply Ext.alloc | apply Ext.more_))))) ⟨1, 1, [Hv]⟩ HF.out.2.2.2.2.1).mono ?_; rintro e w' ⟨D12, m12, c12, rfl, hN12, hb⟩; obtain ⟨os12, d12, rfl⟩ := hb.more; clear hb; have hD12 := hN12.arr; clear hN12; (try simp only [more_more, drew_more, more_drew, Array.append_assoc] at hD12)
  go_upto_region 13 with fail
  refine wp_float [(8, 21, (.cells #[.int .i64 0, .int .i64 0, .slice none 0 0] 34))] [(0, 0), (1, 0), (2, 1), (3, 1), (4, 1), (5, 0), (6, 0), (7, 2)] [9, 10] [9, 10] [7] (by kernel_rfl) (by kernel_rfl) (by kernel_rfl) (fun _ _ d _ _ h => by cases d <;> exact h) (fun _ _ d _ _ h => by cases d <;> exact h) (fun x hx o ho a w => by (obtain rfl := List.mem_singleton.1 hx); (obtain rfl := Option.some.inj ho); (first | rfl | (simp [go_sem, ptrB]; done) | (go_simp; rfl))) ?_
  iterate 2 ((refine wpFp_read (v := ?_) rfl ?_ (fun w1 h1 => ?_) ?_; rotate_left 1; rfl; (obtain ⟨os1, d1, rfl⟩ := h1.more; go_simp; first | done | rfl)); try simp only [Act.put, zqA, zqB, zqC])
  (refine wpFp_eff rfl ?_ (fun wf hXf hE K hK => ?_); rfl; obtain ⟨osf, df, rfl⟩ := hXf.more; go_simp; refine (hn3 _).mono ?_; rintro e w' ⟨rfl, hb⟩; refine hK _ _ (fun _ => True) (by (try simp only [more_drew, more_more, Array.append_assoc]); exact hb) (fun _ _ _ _ => trivial) trivial ?_)
  try simp only [Act.put, zqA, zqB, zqC]
  (refine wpFp_eff rfl ?_ (fun wf hXf hE K hK => ?_); rfl; obtain ⟨osf, df, rfl⟩ := hXf.more; go_simp; refine (ho3 _).mono ?_; rintro e w' ⟨D14, c14, rfl, hN1, hb⟩; refine hK _ _ (fun W => ArrIn W D14 1 c14 lH) (by (try simp only [more_drew, more_more, Array.append_assoc]); exact hb) (fun _ _ hx h => h.ext hx) hN1.arr ?_)
  try simp only [Act.put, zqA, zqB, zqC]
  (refine wpFp_eff rfl ?_ (fun wf hXf hE K hK => ?_); rfl; obtain ⟨osf, df, rfl⟩ := hXf.more; go_simp; refine (binary_yes .mul ⟨#[42]⟩ 1 1 1 1 D12 D14 m12 c12 1 c14 [Hv] lH _ (HT.out.ext (hwV.trans (by repeat (first | (with_reducible (first | exact Ext.refl _ | exact ext_d _ _ _ _ | exact ext_app _ _ _ _ _ | exact ext_app2 _ _ _ _ _ _ | exact ext_app3 _ _ _ _ _ _ _)) | ((with_reducible refine ext_suffix ⟨_, ?_⟩); (try simp only [Array.append_assoc]); rfl) | (with_reducible (first | apply Ext.drew | apply Ext.alloc | apply Ext.more_)))))) (by decide) rfl (hD12.ext (by repeat (first | (with_reducible (first | exact Ext.refl _ | exact ext_d _ _ _ _ | exact ext_app _ _ _ _ _ | exact ext_app2 _ _ _ _ _ _ | exact ext_app3 _ _ _ _ _ _ _)) | ((with_reducible refine ext_suffix ⟨_, ?_⟩); (try simp only [Array.append_assoc]); rfl) | (with_reducible (first | apply Ext.drew | apply Ext.alloc | apply Ext.more_))))) hE ⟨1, 1, lA⟩ HF.out.2.2.2.2.2).mono ?_; rintro e w' ⟨D15, m15, c15, rfl, hN3, hb⟩; refine hK _ _ (fun W => ArrIn W D15 m15 c15 lA) (by (try simp only [more_drew, more_more, Array.append_assoc]); exact hb) (fun _ _ hx h => h.ext hx) hN3.arr ?_)
  try simp only [Act.put, zqA, zqB, zqC]
  iterate 2 ((refine wpFp_read (v := ?_) rfl ?_ (fun w1 h1 => ?_) ?_; rotate_left 1; rfl; (obtain ⟨os1, d1, rfl⟩ := h1.more; go_simp; first | done | rfl)); try simp only [Act.put, zqA, zqB, zqC])
  (refine wpFp_pure (v := ?_) rfl ?_ (fun w1 => ?_) ?_; rotate_left 1; rfl; (go_simp; first | done | rfl))
  try simp only [Act.put, zqA, zqB, zqC]
  refine wpFp_one fun osa da osb db hE => ?_
  try simp only [Act.put, zqA, zqB, zqC]
  iterate 2 ((refine wpTl_op rfl ?_ (fun K hK => ?_); rfl; go_simp; refine hK _ _ ?_); try simp only [Act.put, zqA, zqB, zqC])
  refine wpTl_nil ?_
  have hR := hE.box #[.int .i64 1, .int .i64 1, .slice D15 m15 c15] 34 db
  clear hE
  (try simp only [more_more, drew_more, more_drew, Array.append_assoc] at hR)
  go_wp2_with fail
  refine (refSame_any _ _ _ _ _ _ _ _ _ _ lA lA _ (hD9.ext (by repeat (first | (with_reducible (first | exact Ext.refl _ | exact ext_d _ _ _ _ | exact ext_app _ _ _ _ _ | exact ext_app2 _ _ _ _ _ _ | exact ext_app3 _ _ _ _ _ _ _)) | ((with_reducible refine ext_suffix ⟨_, ?_⟩); (try simp only [Array.append_assoc]); rfl) | (with_reducible (first | apply Ext.drew | apply Ext.alloc | apply Ext.more_))))) (hAv.ext (by repeat (first | (with_reducible (first | exact Ext.refl _ | exact ext_d _ _ _ _ | exact ext_app _ _ _ _ _ | exact ext_app2 _ _ _ _ _ _ | exact ext_app3 _ _ _ _ _ _ _)) | ((with_reducible refine ext_suffix ⟨_, ?_⟩); (try simp only [Array.append_assoc]); rfl) | (with_reducible (first | apply Ext.drew | apply Ext.alloc | apply Ext.more_)))))).mono ?_; rintro e w' ⟨rfl, hb⟩; obtain ⟨os21, d21, rfl⟩ := hb.more; clear hb
  go_wp2_with fail
  refine (refSame_any _ _ _ _ _ _ _ _ _ _ lA lA _ (hD11.ext (by repeat (first | (with_reducible (first | exact Ext.refl _ | exact ext_d _ _ _ _ | exact ext_app _ _ _ _ _ | exact ext_app2 _ _ _ _ _ _ | exact ext_app3 _ _ _ _ _ _ _)) | ((with_reducible refine ext_suffix ⟨_, ?_⟩); (try simp only [Array.append_assoc]); rfl) | (with_reducible (first | apply Ext.drew | apply Ext.alloc | apply Ext.more_))))) (hAv.ext (by repeat (first | (with_reducible (first | exact Ext.refl _ | exact ext_d _ _ _ _ | exact ext_app _ _ _ _ _ | exact ext_app2 _ _ _ _ _ _ | exact ext_app3 _ _ _ _ _ _ _)) | ((with_reducible refine ext_suffix ⟨_, ?_⟩); (try simp only [Array.append_assoc]); rfl) | (with_reducible (first | apply Ext.drew | apply Ext.alloc | apply Ext.more_)))))).mono ?_; rintro e w' ⟨rfl, hb⟩; obtain ⟨os22, d22, rfl⟩ := hb.more; clear hb
  go_wp2_with fail
  refine (refSame_any _ _ _ _ _ _ _ _ _ _ lA lA _ (hR.ext (by repeat (first | (with_reducible (first | exact Ext.refl _ | exact ext_d _ _ _ _ | exact ext_app _ _ _ _ _ | exact ext_app2 _ _ _ _ _ _ | exact ext_app3 _ _ _ _ _ _ _)) | ((with_reducible refine ext_suffix ⟨_, ?_⟩); (try simp only [Array.append_assoc]); rfl) | (with_reducible (first | apply Ext.drew | apply Ext.alloc | apply Ext.more_))))) (hAv.ext (by repeat (first | (with_reducible (first | exact Ext.refl _ | exact ext_d _ _ _ _ | exact ext_app _ _ _ _ _ | exact ext_app2 _ _ _ _ _ _ | exact ext_app3 _ _ _ _ _ _ _)) | ((with_reducible refine ext_suffix ⟨_, ?_⟩); (try simp only [Array.append_assoc]); rfl) | (with_reducible (first | apply Ext.drew | apply Ext.alloc | apply Ext.more_)))))).mono ?_; rintro e w' ⟨rfl, hb⟩; obtain ⟨os23, d23, rfl⟩ := hb.more; clear hb
  go_wp2_with fail
  go_ret
  exact ⟨rfl, hwV.trans (by repeat (first | (with_reducible (first | exact Ext.refl _ | exact ext_d _ _ _ _ | exact ext_app _ _ _ _ _ | exact ext_app2 _ _ _ _ _ _ | exact ext_app3 _ _ _ _ _ _ _)) | ((with_reducible refine ext_suffix ⟨_, ?_⟩); (try simp only [Array.append_assoc]); rfl) | (with_reducible (first | apply Ext.drew | apply Ext.alloc | apply Ext.more_))))⟩
set_option maxHeartbeats 4000000 in
theorem operBack_any (m n : Int) (w : World) (htab : Tab w) (hmi : I64 m) (hni : I64 n) :
    Calls Tryz.prog 10 #[.int .i64 m, .int .i64 n] w fun e w' => e = .returned (.bool true) ∧ Ext w w' := by
  by_cases h : m.natAbs ≤ 1000000000000 ∧ n.natAbs ≤ 1000000000000
  · exact back_yes m n w htab hmi hni h.1 h.2
  · have HT := Lib.hid htab
    have q : (decide (m < -1000000000000) || decide (1000000000000 < m) || decide (n < -1000000000000) || decide (1000000000000 < n)) = true := by
      simp only [Bool.or_eq_true, decide_eq_true_eq]
      omega
    clear htab hmi hni h
    go_enter Tryz.func10, Tryz.ntmps10
    go_wp2_with fail
    refine (awake10_any _ (HT.out.ext (by repeat (first | (with_reducible (first | exact Ext.refl _ | exact ext_d _ _ _ _ | exact ext_app _ _ _ _ _ | exact ext_app2 _ _ _ _ _ _ | exact ext_app3 _ _ _ _ _ _ _)) | ((with_reducible refine ext_suffix ⟨_, ?_⟩); (try simp only [Array.append_assoc]); rfl) | (with_reducible (first | apply Ext.drew | apply Ext.alloc | apply Ext.more_)))))).mono ?_; rintro e w' ⟨rfl, hb⟩; obtain ⟨os1, d1, rfl⟩ := hb.more; clear hb
    go_wp2_with fail
    all_goals (go_ret; exact ⟨rfl, by repeat (first | (with_reducible (first | exact Ext.refl _ | exact ext_d _ _ _ _ | exact ext_app _ _ _ _ _ | exact ext_app2 _ _ _ _ _ _ | exact ext_app3 _ _ _ _ _ _ _)) | ((with_reducible refine ext_suffix ⟨_, ?_⟩); (try simp only [Array.append_assoc]); rfl) | (with_reducible (first | apply Ext.drew | apply Ext.alloc | apply Ext.more_)))⟩)
end Go.Proofs.YteigcfflljoioaaGreatDoor
namespace Go.Proofs.YteigcfflljoioaaGreatDoor
open Go.ChangeShapes Go.WideShapes Go.ChangeAt Go.RowKit Go.Deep
set_option maxRecDepth 100000
section
variable {H : Type} {enc : TypeId × Value → H} {w : World} {base : Nat} {spare : Nat → Bool} {held : Bool}
theorem open_i64 {r : Reach} {b0 : Nat} {v : Value} {d : DataW H} {p : List MemPlace} (hv : Value.okWide Tryz.prog w r b0 3 v) (h : DataW.Trod enc Tryz.prog w base spare held 3 v d p) : ∃ n : Int, v = .int .i64 n ∧ I64 n := by
  obtain ⟨b, rfl⟩ := okWide_int Tryz.underlying3 hv
  obtain ⟨fuel, hf⟩ := h
  obtain ⟨m, e0, _, w0⟩ := DataW.trod_int Tryz.underlying3 hf
  have e1 : b = m := by simpa [Value.cells] using e0
  subst e1
  exact ⟨b, rfl, i64_of w0⟩
end
end Go.Proofs.YteigcfflljoioaaGreatDoor
