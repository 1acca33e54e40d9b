/- What the rows' proofs lean on: the contracts of the functions that they reach, and plain facts (part P4). -/
import Derived.WalkKit
import Derived.WalkLawsBesides
import Derived.WalkSpells
import Derived.Outline
import Derived.Below
import Derived.Deep.RegionHeld3
import Derived.Deep.DeepCutAuto
import Derived.Deep.AppendLies
import Derived.Maps.AppendAt
import Derived.Lib.Hide
import Derived.OrdersHeld
import Derived.Test.YtkcoikelcmpceaaGreatDoorProg
import Derived.Shelf.Strings.Builder1
import Derived.Shelf.Strings.Builder2
import Derived.Shelf.Small.Bits
import Derived.Shelf.Small.Strs
import Derived.Shelf.Small.Wraps
import Derived.Shelf.Strings.BuilderF
import Derived.Shelf.Strconv.Itoa0
import Derived.Shelf.Strconv.Itoa1
import Derived.Shelf.LaysM
import Derived.Shelf.Strconv.Itoa2
import Derived.Shelf.Strings.Prefix
import Derived.Shelf.Bits.Mul64
import Derived.Shelf.Strings.Repeat
import Derived.Lib.ItoaMem
import Derived.Lib.OthersKept
import Derived.Deep.CutBlock
import Derived.Laws.Bits64b
import Derived.Lib.AppendZeros
import Derived.Lib.Bytealg
import Derived.Laws.RangeAny
import Derived.Maps.OwnSet
import Derived.Maps.Own
import Derived.Laws.EntriesVeiled
import Derived.Lib.ConvBytes
import Derived.Lib.SlBytesRow
import Derived.Lib.SmallJoins
import Derived.RegionTactic
import Derived.Test.YtkcoikelcmpceaaGreatDoorP3
set_option linter.unusedSimpArgs false
set_option linter.unusedVariables false
set_option maxRecDepth 100000
namespace Go.Proofs.YtkcoikelcmpceaaGreatDoor
open Go.RowKit NM
def CS.str (c : CS) : ByteArray := ⟨c.key.toArray⟩
set_option maxHeartbeats 4000000 in
theorem kfits_any (c : CS) (x s : Val) (w : World) (hx : x.right) (hs : s.right) :
    Calls Tryz.prog 160 #[VV x.kind x.mant x.exp x.text x.truth x.fault, .string c.str, VV s.kind s.mant s.exp s.text s.truth s.fault] w fun e w' => e = .returned (.bool (kfitB c s x)) ∧ Ext w w' := by
  have hc := fun W => vcmp_any x s W hx.ok hs.ok
  have htri := cmpV_tri x s
  unfold kfitB
  by_cases hk : x.kind = s.kind
  · rw [if_pos hk]
    have hk' : (x.kind != s.kind) = false := by simpa using hk
    clear hk hx hs
    generalize cmpV x s = n at *
    cases c <;> (rcases htri with rfl | rfl | rfl) <;> (simp only [CS.str, CS.key]; go_enter Tryz.func160, Tryz.ntmps160; go_wp2_with (first | (go_at_call 189; (with_reducible refine (hc _).mono ?_); rintro e w' ⟨rfl, hb⟩; obtain ⟨os, d, rfl⟩ := hb.more; clear hb)); go_ret; exact ⟨rfl, by with_reducible repeat (first | exact Ext.refl _ | apply Ext.drew | apply Ext.alloc | apply Ext.more_)⟩)
  · rw [if_neg hk]
    have hk' : (x.kind != s.kind) = true := by simpa using hk
    clear hk hx hs hc htri
    cases c <;> (simp only [CS.str, CS.key]; go_enter Tryz.func160, Tryz.ntmps160; go_wp2_with fail; go_ret; exact ⟨rfl, by with_reducible repeat (first | exact Ext.refl _ | apply Ext.drew | apply Ext.alloc | apply Ext.more_)⟩)
/-- The signs, in the order in which they are sought. -/
def csL : List CS := [.ge, .le, .ne, .gt, .lt, .eq]
def csOf (s : ByteArray) : Option CS := csL.find? fun c => Lib.hasPrefix s.data.toList c.key
/-- A criterion: its sign, what is sought. -/
def critO (v : Val) : CS × Val := if v.kind = 2 then match csOf v.text with
  | some c => (c, readV ⟨(Lib.trimPrefix v.text.data.toList c.key).toArray⟩)
  | none => (.eq, v) else (.eq, v)
theorem csOf_at {s : ByteArray} {k : Nat} {c : CS} (h : ∀ j c', j < k → csL[j]? = some c' → Lib.hasPrefix s.data.toList c'.key = false) (hc : csL[k]? = some c) (hp : Lib.hasPrefix s.data.toList c.key = true) : csOf s = some c := by
  unfold csOf
  generalize csL = L at *
  induction L generalizing k with
  | nil => simp at hc
  | cons a L ih =>
    cases k with
    | zero =>
      obtain rfl : a = c := by simpa using hc
      rw [List.find?_cons_of_pos (by exact hp)]
    | succ k =>
      rw [List.find?_cons_of_neg (by rw [h 0 a (by omega) rfl]; simp)]
      exact ih (k := k) (fun j c' hj hc' => h (j + 1) c' (by omega) (by simpa using hc')) (by simpa using hc)
theorem csOf_none {s : ByteArray} (h : ∀ j c', j < 6 → csL[j]? = some c' → Lib.hasPrefix s.data.toList c'.key = false) : csOf s = none := by
  unfold csOf
  rw [List.find?_eq_none]
  intro c hc
  obtain ⟨j, hj, rfl⟩ := List.mem_iff_getElem.1 hc
  rw [h j _ (by simpa [csL] using hj) (List.getElem?_eq_getElem hj)]
  simp
theorem trim_size (s : ByteArray) (p : List UInt8) : (ByteArray.mk (Lib.trimPrefix s.data.toList p).toArray).size ≤ s.size := by
  show (Lib.trimPrefix s.data.toList p).toArray.size ≤ s.data.size
  rw [List.size_toArray]
  unfold Lib.trimPrefix
  split
  · rw [List.length_drop, Array.length_toList]; omega
  · rw [Array.length_toList]; omega
theorem cutPrefix_any (s p : ByteArray) (w : World) :
    Calls Tryz.prog 157 #[.string s, .string p] w fun e w' => e = .returned (.tuple #[.string ⟨(Lib.trimPrefix s.data.toList p.data.toList).toArray⟩, .bool (Lib.hasPrefix s.data.toList p.data.toList)]) ∧ Ext w w' :=
  (Tryz.strings_CutPrefix s p w).mono fun e w' ⟨h1, h2⟩ => ⟨h1, by rw [h2]; exact Ext.refl _⟩
/-- The variables of a criterion's function. -/
structure CritAt (w : World) (p1 p2 : Nat) (c : CS) (s : Val) : Prop where
  sign : w.cell? ⟨p1, 0, none⟩ = some (.string c.str)
  val : ValAt w p2 0 s
theorem CritAt.ext {w w' : World} {p1 p2 : Nat} {c : CS} {s : Val} (h : CritAt w p1 p2 c s) (hx : Ext w w') : CritAt w' p1 p2 c s := ⟨hx.cell_some h.sign, h.val.ext hx⟩
theorem criterion_bad (x : Val) (w : World) (h4 : x.kind = 4) :
    Calls Tryz.prog 113 #[VV x.kind x.mant x.exp x.text x.truth x.fault] w fun e w' => e = .returned (.tuple #[.nilFunc, .int .i64 x.fault]) ∧ Ext w w' := by
  obtain ⟨xk, xm, xe, xt, xb, xf⟩ := x
  simp only at h4
  subst h4
  simp only
  go_enter Tryz.func113, Tryz.ntmps113
  go_upto_region 2 with fail
  go_region
  all_goals
    go_wp2_with fail
    exact bodyPost_ret (v := .tuple #[.nilFunc, .int .i64 xf]) (by simp [results, Tryz.results113, go_sem]) rfl ⟨rfl, by with_reducible repeat (first | exact Ext.refl _ | apply Ext.drew | apply Ext.alloc | apply Ext.more_)⟩
set_option maxHeartbeats 4000000 in
theorem criterion_any (x : Val) (w : World) (hx : x.right) (h4 : x.kind ≠ 4) (hft : FTab w) :
    Calls Tryz.prog 113 #[VV x.kind x.mant x.exp x.text x.truth x.fault] w fun e w' => ∃ p1 p2, e = .returned (.tuple #[.func (.func 159) #[] #[.pointer (some ⟨p1, 0, none⟩), .pointer (some ⟨p2, 0, none⟩)], .int .i64 0]) ∧ CritAt w' p1 p2 (critO x).1 (critO x).2 ∧ w.heap.size ≤ p1 ∧ w.heap.size ≤ p2 ∧ Ext w w' := by
  have h4' : (x.kind == 4) = false := by simpa using h4
  have hts : x.kind = 2 → x.text.size ≤ 255 := (right_cases hx).2.2.1
  have HT := Lib.hid hft
  obtain ⟨X, hX⟩ : ∃ X, critO x = X := ⟨_, rfl⟩
  rw [hX]
  have HX := Lib.hid hX
  obtain ⟨xk, xm, xe, xt, xb, xf⟩ := x
  simp only at h4' hts
  clear hx h4 hft hX
  go_enter Tryz.func113, Tryz.ntmps113
  go_upto_region 3 with fail
  go_cut [4, 5] (fun s4 s5 wx => ∃ pa pb : Nat, s4 = .pointer (some ⟨pa, 0, none⟩) ∧ s5 = .pointer (some ⟨pb, 0, none⟩) ∧ Ext w wx ∧ w.heap.size < pa ∧ w.heap.size < pb ∧ pa ≠ pb ∧ wx.cell? ⟨pa, 0, none⟩ = some (.string ⟨#[61]⟩) ∧ wx.frozen? ⟨pa, 0, none⟩ = false ∧ VS pb xk xm xe xt xb xf wx ∧ (∀ j, j < 6 → wx.frozen? ⟨pb, j, none⟩ = false) ∧ VS w.heap.size xk xm xe xt xb xf wx)
  case first =>
    go_region
    · go_wp2_with fail
      go_meet
      refine ⟨_, _, rfl, rfl, by with_reducible repeat (first | exact Ext.refl _ | apply Ext.drew | apply Ext.alloc | apply Ext.more_), ?_, ?_, ?_, ?_, ?_, ?_, ?_, ?_⟩
      all_goals first | (simp; done) | (simp; omega) | (simp [go_sem]; done) | (refine ⟨by first | (simp; done) | (simp; omega), ?_, ?_, ?_, ?_, ?_, ?_⟩ <;> (simp [go_sem]; done)) | (intro j hj; simp [go_sem]; done)
    · go_wp2_with fail
      go_meet
      refine ⟨_, _, rfl, rfl, by with_reducible repeat (first | exact Ext.refl _ | apply Ext.drew | apply Ext.alloc | apply Ext.more_), ?_, ?_, ?_, ?_, ?_, ?_, ?_, ?_⟩
      all_goals first | (simp; done) | (simp; omega) | (simp [go_sem]; done) | (refine ⟨by first | (simp; done) | (simp; omega), ?_, ?_, ?_, ?_, ?_, ?_⟩ <;> (simp [go_sem]; done)) | (intro j hj; simp [go_sem]; done)
  case rest =>
  obtain ⟨pa, pb, rfl, rfl, hxU, ha, hb, hne, c0, f0, ⟨lb, e0, e1, e2, e3, e4, e5⟩, fb, ⟨lw, g0, g1, g2, g3, g4, g5⟩⟩ := hcut
  have la := lt_of_cell c0
  have fb0 := fb 0 (by omega)
  have fb1 := fb 1 (by omega)
  have fb2 := fb 2 (by omega)
  have fb3 := fb 3 (by omega)
  have fb4 := fb 4 (by omega)
  have fb5 := fb 5 (by omega)
  have hne' := Ne.symm hne
  by_cases k2 : xk = 2
  · subst k2
    have hts2 := hts rfl
    have hXo := HX.out
    unfold critO at hXo
    rw [if_pos rfl] at hXo
    simp only at hXo
    have HXo := Lib.hid hXo
    clear hts HX hXo fb
    go_upto_region 6 with fail
    refine wp_world fun U hU => ?_
    have hx0 : Ext wc U := by rw [hU]; exact (by with_reducible repeat (first | exact Ext.refl _ | apply Ext.drew | apply Ext.alloc | apply Ext.more_))
    have hrow : U.heap[wc.heap.size]? = some (.cells (csL.map fun c => Value.string c.str).toArray 9) := by rw [hU]; exact kalloc_new _ _
    have hrd := Rd.of_row hrow 0 (Nat.zero_le _)
    have hbs := lt_block hrow
    have HLA := Lib.hid la
    have HLB := Lib.hid lb
    generalize wc.heap.size = bs at hrow hrd hbs la lb lw ⊢
    clear hU hrow
    go_loopw [21] (fun i wr => ∃ k : Nat, k ≤ 6 ∧ i = .int .i64 (k : Int) ∧ Hid (∀ j c', j < k → csL[j]? = some c' → Lib.hasPrefix xt.data.toList c'.key = false) ∧ Ext U wr) (fun i _ => 6 - (intOf i).toNat)
    case atStart => exact ⟨0, by omega, rfl, fun j c' hj => absurd hj (by omega), Ext.refl _⟩
    case round =>
      obtain ⟨k, hk, rfl, HN, hxr⟩ := hrel
      have hx1 : Ext wc wr := hx0.trans hxr
      replace f0 : wr.frozen? ⟨pa, 0, none⟩ = false := by rw [hx1.frozen (p := ⟨pa, 0, none⟩) HLA.out]; exact f0
      replace fb0 : wr.frozen? ⟨pb, 0, none⟩ = false := by rw [hx1.frozen (p := ⟨pb, 0, none⟩) HLB.out]; exact fb0
      replace fb1 : wr.frozen? ⟨pb, 1, none⟩ = false := by rw [hx1.frozen (p := ⟨pb, 1, none⟩) HLB.out]; exact fb1
      replace fb2 : wr.frozen? ⟨pb, 2, none⟩ = false := by rw [hx1.frozen (p := ⟨pb, 2, none⟩) HLB.out]; exact fb2
      replace fb3 : wr.frozen? ⟨pb, 3, none⟩ = false := by rw [hx1.frozen (p := ⟨pb, 3, none⟩) HLB.out]; exact fb3
      replace fb4 : wr.frozen? ⟨pb, 4, none⟩ = false := by rw [hx1.frozen (p := ⟨pb, 4, none⟩) HLB.out]; exact fb4
      replace fb5 : wr.frozen? ⟨pb, 5, none⟩ = false := by rw [hx1.frozen (p := ⟨pb, 5, none⟩) HLB.out]; exact fb5
      replace c0 := hx1.cell_some c0
      replace e0 := hx1.cell_some e0
      replace e1 := hx1.cell_some e1
      replace e2 := hx1.cell_some e2
      replace e3 := hx1.cell_some e3
      replace e4 := hx1.cell_some e4
      replace e5 := hx1.cell_some e5
      replace g2 := hx1.cell_some g3
      clear g0 g1 g3 g4 g5
      replace la := lt_of_cell c0
      replace lb := lt_of_cell e0
      replace lw := lt_of_cell g2
      replace hbs := Nat.lt_of_lt_of_le hbs hxr.size
      have HT2 := Lib.hid ((HT.out.ext hxU).ext hx1)
      by_cases hlt : k < 6
      · have hc : csL[k]? = some (csL[k]'(by simpa [csL] using hlt)) := List.getElem?_eq_getElem _
        generalize csL[k]'(by simpa [csL] using hlt) = c at hc
        obtain ⟨b', off', he, _, qk⟩ := hrd k (.string c.str) (by simp [hc])
        simp only [Option.some.injEq, Addr.mk.injEq, and_true] at he
        obtain ⟨rfl, rfl⟩ := he
        rw [Nat.zero_add] at qk
        replace qk := hxr.cell_some qk
        have hcp := fun W => cutPrefix_any xt c.str W
        rw [show c.str.data.toList = c.key from rfl] at hcp
        have hts3 := trim_size xt c.key
        generalize hr : (ByteArray.mk (Lib.trimPrefix xt.data.toList c.key).toArray) = rest at *
        have HX2 := HXo.out
        cases hp : Lib.hasPrefix xt.data.toList c.key with
        | true =>
          rw [csOf_at HN.out hc hp] at HX2
          simp only [hr] at HX2
          rw [hp] at hcp
          have hrdv := fun W h => vread_any rest W (by omega) h
          have HX3 := Lib.hid HX2
          generalize readV rest = y at *
          generalize hcs : c.str = cs at *
          have HCS := Lib.hid hcs
          clear hcs
          clear HN hc hp HX2 hr hrd HXo
          go_wp2_with (first | (go_at_call 157; (with_reducible refine (hcp _).mono ?_); rintro e w' ⟨rfl, hb⟩; obtain ⟨os1, d1, rfl⟩ := hb.more; clear hb) | (go_at_call 158; (with_reducible refine (hrdv _ (HT2.out.ext (by with_reducible repeat (first | exact Ext.refl _ | apply Ext.drew | apply Ext.alloc | apply Ext.more_)))).mono ?_); rintro e w' ⟨rfl, hb⟩; obtain ⟨os2, d2, rfl⟩ := hb.more; clear hb))
          refine bodyPost_ret (v := .tuple #[.func (.func 159) #[] #[.pointer (some ⟨pa, 0, none⟩), .pointer (some ⟨pb, 0, none⟩)], .int .i64 0]) (by simp [results, Tryz.results113, go_sem]) rfl ⟨pa, pb, rfl, ?_, by omega, by omega, Ext.more_ (Ext.set (Ext.set (Ext.set (Ext.set (Ext.set (Ext.set (Ext.set (hxU.trans hx1) _ (by first | omega | (simp; omega))) _ (by first | omega | (simp; omega))) _ (by first | omega | (simp; omega))) _ (by first | omega | (simp; omega))) _ (by first | omega | (simp; omega))) _ (by first | omega | (simp; omega))) _ (by first | omega | (simp; omega))) _ _⟩
          rw [← HX3.out]
          refine ⟨?_, ?_, ?_, ?_, ?_, ?_, ?_⟩
          · rw [HCS.out]; go_simp
          all_goals go_simp
        | false =>
          rw [hp] at hcp
          have HN2 : Hid (∀ j c', j < k + 1 → csL[j]? = some c' → Lib.hasPrefix xt.data.toList c'.key = false) := fun j c' hj hc' => by
            by_cases e : j = k
            · subst e; rw [hc] at hc'; obtain rfl := Option.some.inj hc'; exact hp
            · exact HN.out j c' (by omega) hc'
          clear HN hc hp HX2 hr hrd HXo
          generalize c.str = cs at *
          go_wp2_with (first | (go_at_call 157; (with_reducible refine (hcp _).mono ?_); rintro e w' ⟨rfl, hb⟩; obtain ⟨os1, d1, rfl⟩ := hb.more; clear hb))
          exact ⟨⟨k + 1, by omega, by go_num, HN2, hxr.trans (by with_reducible repeat (first | exact Ext.refl _ | apply Ext.drew | apply Ext.alloc | apply Ext.more_))⟩, by simp [intOf]; omega⟩
      · obtain rfl : k = 6 := by omega
        have HX2 := HXo.out
        rw [csOf_none HN.out] at HX2
        simp only at HX2
        clear hrd HN HXo
        go_wp2_with fail
        exact bodyPost_ret (v := .tuple #[.func (.func 159) #[] #[.pointer (some ⟨pa, 0, none⟩), .pointer (some ⟨pb, 0, none⟩)], .int .i64 0]) (by simp [results, Tryz.results113, go_sem]) rfl ⟨pa, pb, rfl, by rw [← HX2]; exact ⟨c0, e0, e1, e2, e3, e4, e5⟩, by omega, by omega, hxU.trans hx1⟩
  · have k2' : (xk == 2) = false := by simpa using k2
    have hXo : (CS.eq, (⟨xk, xm, xe, xt, xb, xf⟩ : Val)) = X := by rw [← HX.out]; unfold critO; rw [if_neg k2]
    clear hts HX fb k2
    go_wp2_with fail
    exact bodyPost_ret (v := .tuple #[.func (.func 159) #[] #[.pointer (some ⟨pa, 0, none⟩), .pointer (some ⟨pb, 0, none⟩)], .int .i64 0]) (by simp [results, Tryz.results113, go_sem]) rfl ⟨pa, pb, rfl, by rw [← hXo]; exact ⟨c0, e0, e1, e2, e3, e4, e5⟩, by omega, by omega, hxU⟩
end Go.Proofs.YtkcoikelcmpceaaGreatDoor
namespace Go.Proofs.YtkcoikelcmpceaaGreatDoor
open Go.RowKit NM
abbrev CallG (w : World) (X : NA) : Ending → World → Prop := fun e w' => ∃ D m cc, e = .returned (.tuple #[AV X.R X.C (.slice D m cc), .bool true]) ∧ ArrN w.heap.size w' D m cc X.l ∧ Ext w w'
theorem all_at {gs : List GA} (h : ∀ j g, j < gs.length → gs[j]? = some g → g.right = true) : ∀ g ∈ gs, g.right = true := by
  intro g hg
  obtain ⟨j, hj, rfl⟩ := List.mem_iff_getElem.1 hg
  exact h j _ hj (List.getElem?_eq_getElem hj)
end Go.Proofs.YtkcoikelcmpceaaGreatDoor
namespace Go.Proofs.YtkcoikelcmpceaaGreatDoor
open Go.RowKit NM
@[go_sem] theorem run_field_L (r c : Int) (s : Value) (w : World) : (Instr.field 33 (AV r c s) 2).run Tryz.prog w = .ok s w := by
  first | rfl | kernel_rfl
end Go.Proofs.YtkcoikelcmpceaaGreatDoor
namespace Go.Proofs.YtkcoikelcmpceaaGreatDoor
open Go.RowKit NM
/-- Is the argument of that place given? -/
def givenB (xs : List Ar) (k : Nat) : Bool := match xs[k]? with
  | none => false
  | some a => !(a.x.R == 1 && a.x.C == 1 && (getV a.x.l 0).kind == 0)
def argV (xs : List Ar) (k : Nat) : Val := match xs[k]? with
  | none => Val.zero
  | some a => getV a.x.l 0
def argN (xs : List Ar) (k : Nat) : NA := match xs[k]? with
  | none => ⟨0, 0, []⟩
  | some a => a.x
end Go.Proofs.YtkcoikelcmpceaaGreatDoor
namespace Go.Proofs.YtkcoikelcmpceaaGreatDoor
open Go.RowKit NM
/-- An argument, and its first value. -/
theorem ArgsIn.first {w : World} {A : Option Addr} {n cap : Nat} {xs : List Ar} (h : ArgsIn w A n cap xs) {k : Nat} (hk : k < n) :
    ∃ (R C : Nat) (l : List Val) (b1 off1 n1 cap1 b off : Nat) (x : Val), xs[k]? = some ⟨⟨R, C, l⟩, some ⟨b1, off1, none⟩, n1, cap1⟩ ∧ A = some ⟨b, off, none⟩ ∧ ArAt w b (off + k * 3) ⟨⟨R, C, l⟩, some ⟨b1, off1, none⟩, n1, cap1⟩ ∧ 0 < n1 ∧ n1 ≤ cap1 ∧ ValAt w b1 off1 x ∧ getV l 0 = x ∧ x.right ∧ b < w.heap.size ∧ b1 < w.heap.size ∧ argV xs k = x ∧ givenB xs k = !(R == 1 && C == 1 && x.kind == 0) ∧ ArrIn w (some ⟨b1, off1, none⟩) n1 cap1 l ∧ l[0]? = some x := by
  obtain ⟨⟨⟨R, C, l⟩, A1, n1, cap1⟩, b, off, ha, rfl, hat, hok⟩ := h.at hk
  obtain ⟨r1, r2, r3, r4, r5⟩ := rightA_nat.1 hok.right
  have hl : l.length = n1 := hok.arr.len
  have hn1 : 0 < n1 := by rw [← hl, r4]; exact Nat.mul_pos r1 r2
  obtain ⟨x, b1, off1, hx, _, hA, hv⟩ := hok.arr.at hn1
  rw [Nat.zero_mul, Nat.add_zero] at hv
  have hA' : A1 = some ⟨b1, off1, none⟩ := hA
  subst hA'
  have hgv : getV l 0 = x := by unfold getV; rw [hx]; rfl
  have hxr : x.right := r5 x (List.mem_of_getElem? hx)
  have hav : argV xs k = x := by unfold argV; rw [ha]; exact hgv
  have hgb : givenB xs k = !(R == 1 && C == 1 && x.kind == 0) := by unfold givenB; rw [ha, ← hgv]
  exact ⟨R, C, l, b1, off1, n1, cap1, b, off, x, ha, rfl, hat, hn1, hok.arr.cap, hv, hgv, hxr, lt_of_cell hat.1, lt_of_cell hv.1, hav, hgb, hok.arr, hx⟩
end Go.Proofs.YtkcoikelcmpceaaGreatDoor
namespace Go.Proofs.YtkcoikelcmpceaaGreatDoor
open Go.RowKit NM
theorem cnt_ok {n : Int} (h : n.natAbs < T 15) : (cntV n).ok := (right_num (wholex h).2.1).ok
theorem cnt_right15 {n : Int} (h : n.natAbs < T 15) : (cntV n).right := right_num (wholex h).2.1
end Go.Proofs.YtkcoikelcmpceaaGreatDoor
namespace Go.Proofs.YtkcoikelcmpceaaGreatDoor
open Go.RowKit NM
theorem ext_grownN {X W w3 : World} {ty : TypeId} {size n : Nat} {v : Value} {xs : List Value} (hx : Ext X W) (ho : W.ownsRow X.heap.size ty size v n xs) (hg : W.grownBy w3 v.ownBlock) : Ext X w3 :=
  ⟨hg.os.trans hx.os, hg.tape.trans hx.tape, hg.output.trans hx.output, Nat.le_trans hx.size hg.size, fun b hb => (hg.block b (Nat.lt_of_lt_of_le hb hx.size) (fun e => by have := own_block ho _ e.symm; omega)).trans (hx.block hb)⟩
end Go.Proofs.YtkcoikelcmpceaaGreatDoor
namespace Go.Proofs.YtkcoikelcmpceaaGreatDoor
open Go.RowKit NM
theorem info_num : (Tryz.prog.info? 26).map (fun i => (i.zero, i.size, i.bytes)) = some (some (NV 0 0), 2, 16) := by kernel_rfl
set_option maxHeartbeats 1000000 in
theorem kwhole_any (n : Int) (w : World) (htab : Tab w) (hn : n.natAbs < T 15) :
    Calls Tryz.prog 102 #[.int .i64 n] w fun e w' => e = .returned (NV (wholeN n).1 (wholeN n).2) ∧ Ext w w' := by
  have hi : I64 n := by have : T 15 = 1000000000000000 := (by decide); unfold I64; omega
  have hm := fun W h => make_any n 0 W h hi (by unfold I64; omega)
  rw [show rnd (decide (n < 0)) n.natAbs false 0 = some (wholeN n) from (wholex hn).1] at hm
  simp only [rnV, rm, re, Option.getD_some, Option.isSome_some] at hm
  have HT := Lib.hid htab
  clear htab hn hi
  generalize (wholeN n).1 = m1 at *
  generalize (wholeN n).2 = m2 at *
  go_enter Tryz.func102, Tryz.ntmps102
  go_wp2_with (first | (go_at_call 148; (with_reducible refine (hm _ (HT.out.ext (by with_reducible repeat (first | exact Ext.refl _ | apply Ext.drew | apply Ext.alloc | apply Ext.more_)))).mono ?_); rintro e w' ⟨rfl, hb⟩; obtain ⟨os, d, rfl⟩ := hb.more; clear hb))
  exact bodyPost_ret (v := NV m1 m2) (by simp [results, Tryz.results102, go_sem]) rfl ⟨rfl, by with_reducible repeat (first | exact Ext.refl _ | apply Ext.drew | apply Ext.alloc | apply Ext.more_)⟩
set_option maxHeartbeats 1000000 in
theorem ktold_any (r : Option Nm) (w : World) :
    Calls Tryz.prog 97 #[NV (rm r) (re r), .bool r.isSome] w fun e w' => e = .returned (VV (numRes r).kind (numRes r).mant (numRes r).exp (numRes r).text (numRes r).truth (numRes r).fault) ∧ Ext w w' := by
  cases r with
  | none =>
    show Calls _ _ #[NV 0 0, .bool false] w fun e w' => e = .returned (VV 4 0 0 ⟨#[]⟩ false 5) ∧ Ext w w'
    have hb := fun W => bad_any 5 W
    simp only [show badF 5 = 5 by decide] at hb
    go_enter Tryz.func97, Tryz.ntmps97
    go_wp2_with (first | (go_at_call 65; (with_reducible refine (hb _).mono ?_); rintro e w' ⟨rfl, hb⟩; obtain ⟨os, d, rfl⟩ := hb.more; clear hb))
    exact bodyPost_ret (v := VV 4 0 0 ⟨#[]⟩ false 5) (by simp [results, Tryz.results97, go_sem]) rfl ⟨rfl, by with_reducible repeat (first | exact Ext.refl _ | apply Ext.drew | apply Ext.alloc | apply Ext.more_)⟩
  | some p =>
    obtain ⟨m, e⟩ := p
    show Calls _ _ #[NV m e, .bool true] w fun e' w' => e' = .returned (VV 1 m e ⟨#[]⟩ false 0) ∧ Ext w w'
    go_enter Tryz.func97, Tryz.ntmps97
    go_wp2_with (first | (go_at_call 99; (with_reducible refine (of_any _ _ _).mono ?_); rintro e w' ⟨rfl, hb⟩; obtain ⟨os, d, rfl⟩ := hb.more; clear hb))
    exact bodyPost_ret (v := VV 1 m e ⟨#[]⟩ false 0) (by simp [results, Tryz.results97, go_sem]) rfl ⟨rfl, by with_reducible repeat (first | exact Ext.refl _ | apply Ext.drew | apply Ext.alloc | apply Ext.more_)⟩
/-- Numbers in memory of their own. -/
def Nms (base : Nat) (w : World) (v : Value) (l : List Nm) : Prop := w.ownsRow base 26 2 v l.length (ncells l)
theorem ncells_one (l : List Nm) : ∀ u ∈ ncells l, u.oneCell' = true := by
  intro u hu
  simp only [ncells, List.mem_flatMap] at hu
  obtain ⟨p, _, hp⟩ := hu
  simp only [List.mem_cons, List.not_mem_nil, or_false] at hp
  rcases hp with rfl | rfl <;> rfl
def noF (l : List Val) : Prop := ∀ x ∈ l, x.kind ≠ 4
theorem ffL_no {l : List Val} (h : noF l) : ffL l = 0 := by
  induction l with
  | nil => rfl
  | cons v l ih => unfold ffL; rw [if_neg (h v (by simp))]; exact ih fun x hx => h x (by simp [hx])
theorem ffL_at {l : List Val} {k : Nat} {x : Val} (h : noF (l.take k)) (hx : l[k]? = some x) (h4 : x.kind = 4) : ffL l = x.fault := by
  induction l generalizing k with
  | nil => simp at hx
  | cons v l ih =>
    cases k with
    | zero =>
      obtain rfl : v = x := by simpa using hx
      unfold ffL; rw [if_pos h4]
    | succ k =>
      unfold ffL; rw [if_neg (h v (by simp))]
      exact ih (fun y hy => h y (by rw [List.take_succ_cons]; exact List.mem_cons_of_mem _ hy)) (by simpa using hx)
theorem noF_succ {l : List Val} {k : Nat} {x : Val} (h : noF (l.take k)) (hx : l[k]? = some x) (h4 : x.kind ≠ 4) : noF (l.take (k + 1)) := by
  intro y hy
  rw [List.take_add_one, hx] at hy
  rcases List.mem_append.1 hy with hy | hy
  · exact h y hy
  · obtain rfl : y = x := by simpa using hy
    exact h4
theorem noF_of {l : List Val} (hr : ∀ x ∈ l, x.right) (h : ffL l = 0) : noF l := by
  induction l with
  | nil => intro x hx; cases hx
  | cons v l ih =>
    have hv : v.kind ≠ 4 := by
      intro h4
      unfold ffL at h; rw [if_pos h4] at h
      have := (right_cases (hr v (by simp))).2.2.2 h4
      omega
    unfold ffL at h; rw [if_neg hv] at h
    intro x hx
    rcases List.mem_cons.1 hx with rfl | hx
    · exact hv
    · exact ih (fun y hy => hr y (by simp [hy])) h x hx
theorem numsL_append (l l' : List Val) : numsL (l ++ l') = numsL l ++ numsL l' := by
  induction l with
  | nil => rfl
  | cons v l ih => simp only [List.cons_append, numsL]; split <;> simp [ih]
theorem numsL_succ {l : List Val} {k : Nat} {x : Val} (hx : l[k]? = some x) : numsL (l.take (k + 1)) = numsL (l.take k) ++ (if x.kind = 1 then [(x.mant, x.exp)] else []) := by
  rw [List.take_add_one, hx, numsL_append]
  congr 1
theorem numsL_length (l : List Val) : (numsL l).length ≤ l.length := by
  induction l with
  | nil => simp [numsL]
  | cons v l ih => unfold numsL; split <;> simp <;> omega
set_option maxHeartbeats 2000000 in
theorem knumbers_any (A : Option Addr) (n cap : Nat) (l : List Val) (w : World) (h : ArrIn w A n cap l) (hn : n ≤ 1000000) :
    Calls Tryz.prog 95 #[.slice A n cap] w fun e w' => ∃ v, e = .returned (.tuple #[v, .int .i64 (ffL l)]) ∧ (noF l → Nms w.heap.size w' v (numsL l)) ∧ Ext w w' := by
  obtain ⟨i0, hi0, hz0, hz1, hz2⟩ := info_parts info_num
  have hlen := h.len
  have H := Lib.hid h
  have HL := Lib.hid hlen
  clear h hlen
  generalize hFF : ffL l = F at *
  have HF := Lib.hid hFF
  clear hFF
  go_enter Tryz.func95, Tryz.ntmps95
  go_wp2_with fail
  go_loopw [4, 9] (fun v i wr => ∃ k : Nat, k ≤ n ∧ i = .int .i64 (k : Int) ∧ Hid (noF (l.take k)) ∧ Hid (Nms w.heap.size wr v (numsL (l.take k))) ∧ Ext w wr) (fun _ i _ => n - (intOf i).toNat)
  case atStart => exact ⟨0, Nat.zero_le _, rfl, fun x hx => by simp at hx, World.ownsRow_nil _ _ _ _, Ext.refl _⟩
  case round =>
    obtain ⟨k, hk, rfl, HN, HW, hxr⟩ := hrel
    have hsz := hxr.size
    by_cases hlt : k < n
    · obtain ⟨x, b, off, hx, hxo, rfl, hat⟩ := H.out.at hlt
      have hcap := H.out.cap
      obtain ⟨v0, v1, v2, v3, v4, v5⟩ := hat.ext hxr
      have hbl := lt_of_cell v0
      obtain ⟨xk, xm, xe, xt, xb, xf⟩ := x
      simp only at v0 v1 v2 v3 v4 v5
      by_cases h4 : xk = 4
      · subst h4
        have hf := ffL_at HN.out hx rfl
        rw [HF.out] at hf
        simp only at hf
        subst hf
        clear HN HW hat
        go_upto_region 7 with fail
        go_region
        all_goals
          go_wp2_with fail
          exact bodyPost_ret (v := .tuple #[.slice none 0 0, .int .i64 F]) (by simp [results, Tryz.results95, go_sem]) rfl ⟨_, rfl, fun hno => absurd rfl (hno _ (List.mem_of_getElem? hx)), hxr.trans (by with_reducible repeat (first | exact Ext.refl _ | apply Ext.drew | apply Ext.alloc | apply Ext.more_))⟩
      · have h4' : (xk == 4) = false := by simpa using h4
        have HN2 : Hid (noF (l.take (k + 1))) := Lib.hid (noF_succ HN.out hx h4)
        have HS := Lib.hid (numsL_succ hx)
        by_cases h1 : xk = 1
        · subst h1
          have hle : (numsL (l.take k)).length ≤ 1000000 := by have := numsL_length (l.take k); rw [List.length_take] at this; omega
          clear hx hat HN h4
          go_wp2_with (at_builtin; refine wpList_append_own _ rfl _ _ _ rfl w.heap.size 26 i0 (NV 0 0) 2 16 Tryz.underlying79 hi0 hz0 hz1 hz2 rfl (by decide) _ (numsL (l.take k)).length (ncells (numsL (l.take k))) rfl (own_ext HW.out (by with_reducible repeat (first | exact Ext.refl _ | apply Ext.drew | apply Ext.alloc | apply Ext.more_))) _ 1 1 [.int .i64 xm, .int .i64 xe] rfl rfl (new_cells_at _ _ _ (by first | rfl | (simp; done)) rfl _) (ncells_one [(xm, xe)]) (by simp only [maxLen]; omega) (by omega) (by simp; omega) ?_; intro v4 w4 ho4 hg4 _)
          have hx4 := ext_grownN (hxr.trans (by with_reducible repeat (first | exact Ext.refl _ | apply Ext.drew | apply Ext.alloc | apply Ext.more_))) (own_ext HW.out (by with_reducible repeat (first | exact Ext.refl _ | apply Ext.drew | apply Ext.alloc | apply Ext.more_))) hg4
          refine ⟨⟨k + 1, by omega, by go_num, HN2, ?_, hx4⟩, by simp [intOf]; omega⟩
          show World.ownsRow _ _ _ _ _ _ _
          rw [HS.out, if_pos rfl, ncells_append, List.length_append]
          exact ho4
        · have h1' : (xk == 1) = false := by simpa using h1
          clear hx hat HN h4
          go_wp2_with fail
          refine ⟨⟨k + 1, by omega, by go_num, HN2, ?_, hxr.trans (by with_reducible repeat (first | exact Ext.refl _ | apply Ext.drew | apply Ext.alloc | apply Ext.more_))⟩, by simp [intOf]; omega⟩
          show World.ownsRow _ _ _ _ _ _ _
          rw [HS.out, if_neg h1, List.append_nil]
          exact own_ext HW.out (by with_reducible repeat (first | exact Ext.refl _ | apply Ext.drew | apply Ext.alloc | apply Ext.more_))
    · obtain rfl : k = n := by omega
      go_wp2_with fail
      have htk : l.take k = l := by rw [← HL.out]; exact List.take_length
      refine bodyPost_ret (v := .tuple #[u4, .int .i64 0]) (by simp [results, Tryz.results95, go_sem]) rfl ⟨u4, ?_, fun _ => ?_, hxr⟩
      · rw [← HF.out, ffL_no (by have := HN.out; rwa [htk] at this)]
      · have := HW.out; rwa [htk] at this
end Go.Proofs.YtkcoikelcmpceaaGreatDoor
namespace Go.Proofs.YtkcoikelcmpceaaGreatDoor
open Go.RowKit
/-- Blocks below lo but pa, and those from W0 on, are as they were. -/
structure Still (lo pa : Nat) (W0 W W' : World) : Prop where
  os : W'.os = W.os
  tape : W'.tape = W.tape
  output : W'.output = W.output
  size : W.heap.size ≤ W'.heap.size
  block : ∀ b, b < W.heap.size → (b < lo ∧ b ≠ pa) ∨ W0.heap.size ≤ b → W'.heap[b]? = W.heap[b]?
theorem Still.of_ext {lo pa : Nat} {W0 W W' : World} (h : Ext W W') : Still lo pa W0 W W' := ⟨h.os, h.tape, h.output, h.size, fun _ hb _ => h.block hb⟩
theorem Still.trans {lo pa : Nat} {W0 a b c : World} (h : Still lo pa W0 a b) (k : Still lo pa W0 b c) : Still lo pa W0 a c :=
  ⟨k.os.trans h.os, k.tape.trans h.tape, k.output.trans h.output, Nat.le_trans h.size k.size, fun i hi hc => (k.block i (Nat.lt_of_lt_of_le hi h.size) hc).trans (h.block i hi hc)⟩
theorem Still.set {lo pa : Nat} {W0 W W' : World} (h : Still lo pa W0 W W') {p : Addr} (v : Value) (hp : W.heap.size ≤ p.block) : Still lo pa W0 W (W'.setCell p v) :=
  ⟨h.os, h.tape, h.output, by simp only [World.setCell, Array.size_modify]; exact h.size, fun b hb hc => (Below.heap_setCell _ _ _ _ (by omega)).trans (h.block b hb hc)⟩
/-- All is as it was, but in the blocks from lo to hi. -/
structure Aside (lo hi : Nat) (W W' : World) : Prop where
  os : W'.os = W.os
  tape : W'.tape = W.tape
  output : W'.output = W.output
  size : W.heap.size ≤ W'.heap.size
  block : ∀ b, b < W.heap.size → ¬ (lo ≤ b ∧ b < hi) → W'.heap[b]? = W.heap[b]?
theorem Aside.of_ext {lo hi : Nat} {W W' : World} (h : Ext W W') : Aside lo hi W W' := ⟨h.os, h.tape, h.output, h.size, fun _ hb _ => h.block hb⟩
theorem Aside.trans {lo hi : Nat} {a b c : World} (h : Aside lo hi a b) (k : Aside lo hi b c) : Aside lo hi a c :=
  ⟨k.os.trans h.os, k.tape.trans h.tape, k.output.trans h.output, Nat.le_trans h.size k.size, fun i hi' hc => (k.block i (Nat.lt_of_lt_of_le hi' h.size) hc).trans (h.block i hi' hc)⟩
theorem Aside.set {lo hi : Nat} (W : World) {p : Addr} (v : Value) (h1 : lo ≤ p.block) (h2 : p.block < hi) : Aside lo hi W (W.setCell p v) :=
  ⟨rfl, rfl, rfl, by simp [World.setCell], fun b hb hc => Below.heap_setCell _ _ _ _ (by omega)⟩
end Go.Proofs.YtkcoikelcmpceaaGreatDoor
namespace Go.Proofs.YtkcoikelcmpceaaGreatDoor
open Go.RowKit
/-- Nothing that was there turned, but the block pa. -/
structure ExtBut (pa : Nat) (W W' : World) : Prop where
  os : W'.os = W.os
  tape : W'.tape = W.tape
  output : W'.output = W.output
  size : W.heap.size ≤ W'.heap.size
  block : ∀ b, b < W.heap.size → b ≠ pa → W'.heap[b]? = W.heap[b]?
theorem ExtBut.of_ext {pa : Nat} {W W' : World} (h : Ext W W') : ExtBut pa W W' := ⟨h.os, h.tape, h.output, h.size, fun _ hb _ => h.block hb⟩
theorem ExtBut.trans {pa : Nat} {a b c : World} (h : ExtBut pa a b) (k : ExtBut pa b c) : ExtBut pa a c :=
  ⟨k.os.trans h.os, k.tape.trans h.tape, k.output.trans h.output, Nat.le_trans h.size k.size, fun i hi hc => (k.block i (Nat.lt_of_lt_of_le hi h.size) hc).trans (h.block i hi hc)⟩
theorem ExtBut.set {pa : Nat} {W W' : World} (h : ExtBut pa W W') {p : Addr} (v : Value) (hp : W.heap.size ≤ p.block) : ExtBut pa W (W'.setCell p v) :=
  ⟨h.os, h.tape, h.output, by simp only [World.setCell, Array.size_modify]; exact h.size, fun b hb hc => (Below.heap_setCell _ _ _ _ (by omega)).trans (h.block b hb hc)⟩
theorem ArrIn.but {pa : Nat} {W W' : World} {A : Option Addr} {n cap : Nat} {l : List Val} (h : ArrIn W A n cap l) (hk : ExtBut pa W W') (hA : ∀ b off, A = some ⟨b, off, none⟩ → b ≠ pa) : ArrIn W' A n cap l := by
  refine ⟨fun j u hu => ?_, h.len, h.cap, h.small, h.ok⟩
  obtain ⟨b, off, e, hb, hc⟩ := h.rd j u hu
  refine ⟨b, off, e, hb, ?_⟩
  rw [World.cell?_of_block (a := ⟨b, off + j, none⟩) (hk.block b (lt_of_cell hc) (hA b off e))]; exact hc
end Go.Proofs.YtkcoikelcmpceaaGreatDoor
namespace Go.Proofs.YtkcoikelcmpceaaGreatDoor
open Go.RowKit
/-- All that lay in w lies in W. -/
def Low (w W : World) : Prop := ∀ b, b < w.heap.size → W.heap[b]? = w.heap[b]?
theorem Low.refl (w : World) : Low w w := fun _ _ => rfl
theorem Low.lt {w W : World} (h : Low w W) {b : Nat} (hb : b < w.heap.size) : b < W.heap.size := by
  have h1 := h b hb
  rw [Array.getElem?_eq_getElem hb] at h1
  exact lt_of_block h1
theorem Low.ext {w W W' : World} (h : Low w W) (hx : Ext W W') : Low w W' := fun b hb => (hx.block (h.lt hb)).trans (h b hb)
end Go.Proofs.YtkcoikelcmpceaaGreatDoor
namespace Go.Proofs.YtkcoikelcmpceaaGreatDoor
open Go.RowKit NM
theorem flat_m (W : World) (a b c : Array Obj) (x y z : Obj) (d : Nat) : more W (((a.push x ++ b).push y ++ c).push z) d = more W (a.push x ++ ((b.push y ++ c).push z)) d := by
  congr 1
  apply Array.ext'
  simp
theorem allV_succ {xs : List Ar} {k : Nat} {a : Ar} (ha : xs[k]? = some a) : allV (xs.take (k + 1)) = allV (xs.take k) ++ a.x.l := by
  rw [List.take_add_one, ha]; simp [allV]
theorem allV_right {w : World} {A : Option Addr} {n cap : Nat} {xs : List Ar} (h : ArgsIn w A n cap xs) : ∀ x ∈ allV xs, x.right := by
  intro x hx
  obtain ⟨a, ha, hx⟩ := List.mem_flatMap.1 hx
  exact (rightA_nat.1 (h.all a ha).right).2.2.2.2 x hx
set_option maxHeartbeats 2000000 in
theorem kall_any (A : Option Addr) (n cap : Nat) (xs : List Ar) (w : World) (h : ArgsIn w A n cap xs) (hn : n ≤ 100) :
    Calls Tryz.prog 96 #[.slice A n cap] w fun e w' => ∃ D m c, e = .returned (.slice D m c) ∧ ArrN w.heap.size w' D m c (allV xs) ∧ m ≤ 409600 ∧ Ext w w' := by
  obtain ⟨i0, hi0, hz0, hz1, hz2⟩ := info_parts info_val
  have H := Lib.hid h
  have HL := Lib.hid h.len
  have hR := Lib.hid (allV_right h)
  clear h
  go_enter Tryz.func96, Tryz.ntmps96
  go_wp2_with fail
  go_loopw [3, 8] (fun v i wr => ∃ k : Nat, k ≤ n ∧ i = .int .i64 (k : Int) ∧ (allV (xs.take k)).length ≤ k * 4096 ∧ Hid (wr.ownsRow w.heap.size 30 6 v (allV (xs.take k)).length (vcells (allV (xs.take k)))) ∧ Ext w wr) (fun _ i _ => n - (intOf i).toNat)
  case atStart => exact ⟨0, Nat.zero_le _, rfl, Nat.zero_le _, World.ownsRow_nil _ _ _ _, Ext.refl _⟩
  case round =>
    obtain ⟨k, hk, rfl, hle, HW, hxr⟩ := hrel
    have hsz := hxr.size
    by_cases hlt : k < n
    · obtain ⟨R, C, l, b1, off1, n1, cap1, b, off, x, ha, rfl, ⟨v0, v1, v2⟩, hn1, hc1, _, _, _, hbl, _, _, _, harr, _⟩ := H.out.first hlt
      obtain ⟨r1, r2, r3, r4, _⟩ := rightA_nat.1 (H.out.all _ (List.mem_of_getElem? ha)).right
      have hln := harr.len
      have hcap := H.out.cap
      simp only at v0 v1 v2 r3 r4
      replace v0 := hxr.cell_some v0
      replace v1 := hxr.cell_some v1
      replace v2 := hxr.cell_some v2
      replace hbl := lt_of_cell v0
      have hle1 : n1 ≤ 4096 := by omega
      have hrd := (harr.rd : Rd 0 w _ (vcells l)).ext hxr
      have HS := Lib.hid (allV_succ ha)
      have hlen : (vcells l).length = n1 * 6 := by rw [vcells_length, hln]
      have HLN := Lib.hid hln
      clear ha r3 r4 harr hln
      generalize hO : allV (xs.take k) = O at *
      go_wp2_with (at_builtin; refine wpList_append_own _ rfl _ _ _ rfl w.heap.size 30 i0 (VV 0 0 0 ⟨#[]⟩ false 0) 6 56 Tryz.underlying24 hi0 hz0 hz1 hz2 rfl (by decide) _ O.length (vcells O) rfl (own_ext HW.out (by with_reducible repeat (first | exact Ext.refl _ | apply Ext.drew | apply Ext.alloc | apply Ext.more_))) _ n1 _ (vcells l) rfl hlen (fun j u hu => (hrd.ext (by with_reducible repeat (first | exact Ext.refl _ | apply Ext.drew | apply Ext.alloc | apply Ext.more_))).add j u hu) vcells_one (by simp only [maxLen]; omega) (by omega) (by simp; omega) ?_; intro v4 w4 ho4 hg4 _)
      have hx4 := ext_grownN (hxr.trans (by with_reducible repeat (first | exact Ext.refl _ | apply Ext.drew | apply Ext.alloc | apply Ext.more_))) (own_ext HW.out (by with_reducible repeat (first | exact Ext.refl _ | apply Ext.drew | apply Ext.alloc | apply Ext.more_))) hg4
      refine ⟨⟨k + 1, by omega, by go_num, ?_, ?_, hx4⟩, by simp [intOf]; omega⟩
      · rw [HS.out, List.length_append, HLN.out]; omega
      · show World.ownsRow _ _ _ _ _ _ _
        rw [HS.out, vcells_append, List.length_append, HLN.out]
        exact ho4
    · obtain rfl : k = n := by omega
      have htk : xs.take k = xs := by rw [← HL.out]; exact List.take_length
      rw [htk] at hle HW
      obtain ⟨D, c, rfl, hrd, hc⟩ := Rd.of_own HW.out
      go_wp2_with fail
      exact bodyPost_ret (v := .slice D (allV xs).length c) (by simp [results, Tryz.results96, go_sem]) rfl ⟨_, _, _, rfl, ⟨hrd, rfl, hc, by omega, fun y hy => (hR.out y hy).ok⟩, by omega, hxr⟩
/-- A slice of numbers, wherever it lies. -/
structure NmIn (w : World) (A : Option Addr) (n cap : Nat) (l : List Nm) : Prop where
  rd : Rd 0 w A (ncells l)
  len : l.length = n
  cap : n ≤ cap
  small : n ≤ 9223372036854775807
  rt : NRt l
theorem NmIn.ext {w w' : World} {A : Option Addr} {n cap : Nat} {l : List Nm} (h : NmIn w A n cap l) (hx : Ext w w') : NmIn w' A n cap l := ⟨h.rd.ext hx, h.len, h.cap, h.small, h.rt⟩
theorem NmIn.at {w : World} {A : Option Addr} {n cap : Nat} {l : List Nm} (h : NmIn w A n cap l) {k : Nat} (hk : k < n) :
    ∃ p b off, l[k]? = some p ∧ Rt p.1 p.2 ∧ A = some ⟨b, off, none⟩ ∧ w.cell? ⟨b, off + k * 2, none⟩ = some (.int .i64 p.1) ∧ w.cell? ⟨b, off + k * 2 + 1, none⟩ = some (.int .i64 p.2) := by
  have hl : k < l.length := by rw [h.len]; exact hk
  have hk' : l[k]? = some l[k] := List.getElem?_eq_getElem hl
  obtain ⟨h0, h1⟩ := ncells_at l k _ hk'
  obtain ⟨b, off, rfl, _, e0⟩ := h.rd _ _ h0
  obtain ⟨b', off', he, _, e1⟩ := h.rd _ _ h1
  simp only [Option.some.injEq, Addr.mk.injEq, and_true] at he
  obtain ⟨rfl, rfl⟩ := he
  exact ⟨_, b, off, hk', h.rt _ (List.mem_of_getElem? hk'), rfl, e0, e1⟩
theorem Nms.in {base : Nat} {w : World} {v : Value} {l : List Nm} (h : Nms base w v l) (hs : l.length ≤ 9223372036854775807) (hr : NRt l) : ∃ A c, v = .slice A l.length c ∧ NmIn w A l.length c l := by
  obtain ⟨D, c, rfl, hrd, hc⟩ := Rd.of_own h
  exact ⟨D, c, rfl, hrd.mono (Nat.zero_le _), rfl, hc, hs, hr⟩
theorem numsL_rt {l : List Val} (h : ∀ x ∈ l, x.right) : NRt (numsL l) := by
  induction l with
  | nil => intro p hp; cases hp
  | cons v l ih =>
    intro p hp
    unfold numsL at hp
    by_cases h1 : v.kind = 1
    · rw [if_pos h1] at hp
      rcases List.mem_cons.1 hp with rfl | hp
      · exact (h v (by simp)).rt h1
      · exact ih (fun x hx => h x (by simp [hx])) p hp
    · rw [if_neg h1] at hp
      exact ih (fun x hx => h x (by simp [hx])) p hp
theorem sumO_rt {l : List Nm} {t u : Nm} (ht : Rt t.1 t.2) (h : sumO t l = some u) : Rt u.1 u.2 := by
  induction l generalizing t with
  | nil => cases h; exact ht
  | cons n l ih =>
    unfold sumO at h
    cases ha : addS t.1 t.2 n.1 n.2 with
    | none => rw [ha] at h; cases h
    | some z => rw [ha, Option.bind_some] at h; exact ih (addS_rt ha) h
theorem mulS_rt_ {a b c d : Int} {p : Int × Int} (h : mulS a b c d = some p) : Rt p.1 p.2 := by
  unfold mulS at h
  split at h
  · exact rnd_right h
  · cases h
theorem drop_get {l : List Nm} {k : Nat} {p : Nm} (h : l[k]? = some p) : l.drop k = p :: l.drop (k + 1) := by
  obtain ⟨hl, rfl⟩ := List.getElem?_eq_some_iff.1 h
  exact List.drop_eq_getElem_cons hl
set_option maxHeartbeats 2000000 in
theorem kadd_any (A : Option Addr) (n cap : Nat) (l : List Nm) (w : World) (htab : Tab w) (h : NmIn w A n cap l) :
    Calls Tryz.prog 98 #[.slice A n cap] w fun e w' => e = .returned (.tuple #[NV (rm (sumO (0, 0) l)) (re (sumO (0, 0) l)), .bool (sumO (0, 0) l).isSome]) ∧ Ext w w' := by
  have HT := Lib.hid htab
  have H := Lib.hid h
  have HL := Lib.hid h.len
  have hsm := h.small
  have hcap := h.cap
  clear htab h
  generalize hR : sumO (0, 0) l = r at *
  have HR := Lib.hid hR
  clear hR
  go_enter Tryz.func98, Tryz.ntmps98
  go_wp2_with fail
  go_loopw [12] (fun i wr => ∃ (k : Nat) (m ex : Int) (os : Array Obj) (d : Nat), k ≤ n ∧ i = .int .i64 (k : Int) ∧ wr = more ((w.alloc (Obj.cells #[.int .i64 0, .int .i64 0] 26)).alloc (Obj.cells #[.int .i64 m, .int .i64 ex] 26)) os d ∧ Hid (sumO (m, ex) (l.drop k) = r) ∧ Hid (Rt m ex)) (fun i _ => n - (intOf i).toNat)
  case atStart => exact ⟨0, _, _, #[], _, Nat.zero_le _, rfl, (more_none _).symm, HR.out, rt_zero⟩
  case round =>
    obtain ⟨k, m, ex, os, d, hk, rfl, rfl, HD, HI⟩ := hrel
    by_cases hlt : k < n
    · obtain ⟨p, b, off, hp, hpr, rfl, c0, c1⟩ := H.out.at hlt
      have hbl := lt_of_cell c0
      have hd := HD.out
      rw [drop_get hp] at hd
      unfold sumO at hd
      simp only at hd
      obtain ⟨pm, pe⟩ := p
      simp only at c0 c1 hd
      have hop := fun W h => add_any m ex pm pe W h (rt_i64 HI.out) (rt_i64 hpr)
      cases hs : addS m ex pm pe with
      | none =>
        rw [hs] at hop hd
        simp only [rnV, rm, re, Option.getD_none, Option.isSome_none, Option.bind_none] at hop hd
        subst hd
        clear hs hp hpr HD HI HR
        go_wp2_with (go_at_call 106; (with_reducible refine (hop _ (HT.out.ext (by with_reducible repeat (first | exact Ext.refl _ | apply Ext.drew | apply Ext.alloc | apply Ext.more_)))).mono ?_); rintro e w' ⟨rfl, hb⟩; obtain ⟨os, d, rfl⟩ := hb.more; clear hb)
        exact bodyPost_ret (v := .tuple #[NV 0 0, .bool false]) (by simp [results, Tryz.results98, go_sem]) rfl ⟨rfl, by with_reducible repeat (first | exact Ext.refl _ | apply Ext.drew | apply Ext.alloc | apply Ext.more_)⟩
      | some q =>
        obtain ⟨qm, qe⟩ := q
        have HQ := Lib.hid (addS_rt hs)
        rw [hs] at hop hd
        simp only [rnV, rm, re, Option.getD_some, Option.isSome_some, Option.bind_some] at hop hd
        have HD2 := Lib.hid hd
        clear hs hp hpr HD HI HR hd
        go_wp2_with (go_at_call 106; (with_reducible refine (hop _ (HT.out.ext (by with_reducible repeat (first | exact Ext.refl _ | apply Ext.drew | apply Ext.alloc | apply Ext.more_)))).mono ?_); rintro e w' ⟨rfl, hb⟩; obtain ⟨os, d, rfl⟩ := hb.more; clear hb)
        exact ⟨⟨k + 1, qm, qe, _, _, by omega, by go_num, (by (try simp only [more_alloc, more_more, drew_more, more_drew]); first | rfl | exact flat_m _ _ _ _ _ _ _ _), HD2, HQ⟩, by simp [intOf]; omega⟩
    · obtain rfl : k = n := by omega
      have hd := HD.out
      rw [List.drop_eq_nil_of_le (by rw [HL.out]; exact Nat.le_refl _)] at hd
      unfold sumO at hd
      subst hd
      clear HD HI HR
      go_wp2_with fail
      exact bodyPost_ret (v := .tuple #[NV m ex, .bool true]) (by simp [results, Tryz.results98, go_sem]) rfl ⟨rfl, by with_reducible repeat (first | exact Ext.refl _ | apply Ext.drew | apply Ext.alloc | apply Ext.more_)⟩
set_option maxHeartbeats 1000000 in
theorem ksum_any (A : Option Addr) (n cap : Nat) (l : List Nm) (w : World) (htab : Tab w) (h : NmIn w A n cap l) :
    Calls Tryz.prog 39 #[.slice A n cap] w fun e w' => e = .returned (VV (sumV l).kind (sumV l).mant (sumV l).exp (sumV l).text (sumV l).truth (sumV l).fault) ∧ Ext w w' := by
  have hs := fun W (hT : Tab W) (hN : NmIn W A n cap l) => kadd_any A n cap l W hT hN
  have ht := fun W => ktold_any (sumO (0, 0) l) W
  have HT := Lib.hid htab
  have H := Lib.hid h
  clear htab h
  unfold sumV
  generalize sumO (0, 0) l = r at *
  generalize numRes r = y at *
  go_enter Tryz.func39, Tryz.ntmps39
  go_wp2_with (first | (go_at_call 98; (with_reducible refine (hs _ (HT.out.ext (by with_reducible repeat (first | exact Ext.refl _ | apply Ext.drew | apply Ext.alloc | apply Ext.more_))) (H.out.ext (by with_reducible repeat (first | exact Ext.refl _ | apply Ext.drew | apply Ext.alloc | apply Ext.more_)))).mono ?_); rintro e w' ⟨rfl, hb⟩; obtain ⟨os1, d1, rfl⟩ := hb.more; clear hb) | (go_at_call 97; (with_reducible refine (ht _).mono ?_); rintro e w' ⟨rfl, hb⟩; obtain ⟨os2, d2, rfl⟩ := hb.more; clear hb))
  exact bodyPost_ret (v := VV y.kind y.mant y.exp y.text y.truth y.fault) (by simp [results, Tryz.results39, go_sem]) rfl ⟨rfl, by with_reducible repeat (first | exact Ext.refl _ | apply Ext.drew | apply Ext.alloc | apply Ext.more_)⟩
/-- A function that tells of each value whether it counts. -/
def Tells (w : World) (fid : FuncId) (capt : Array Value) (q : Val → Bool) : Prop :=
  ∀ x W, Low w W → x.right → Calls Tryz.prog fid (#[VV x.kind x.mant x.exp x.text x.truth x.fault] ++ capt) W fun e W' => e = .returned (.bool (q x)) ∧ Ext W W'
theorem filter_succ {l : List Val} {k : Nat} {x : Val} (q : Val → Bool) (hx : l[k]? = some x) : ((l.take (k + 1)).filter q).length = ((l.take k).filter q).length + if q x then 1 else 0 := by
  rw [List.take_add_one, hx, List.filter_append, List.length_append]
  congr 1
  cases h : q x <;> simp [h]
theorem klow_ext {w W : World} (h : Ext w W) : Low w W := fun b hb => h.block hb
set_option maxHeartbeats 2000000 in
theorem kcounted_any (A : Option Addr) (n cap : Nat) (xs : List Ar) (fid : FuncId) (capt : Array Value) (q : Val → Bool) (p : Nat) (w : World) (htab : Tab w) (h : ArgsIn w A n cap xs) (hn : n ≤ 100)
    (hp : w.cell? ⟨p, 0, none⟩ = some (.func (.func fid) #[] capt)) (hq : Tells w fid capt q) (hent : ∀ (args : Array Value) (W : World), (callFunc fid args).run Tryz.prog W = .ok (.enter fid args) W) :
    Calls Tryz.prog 101 #[.slice A n cap, .pointer (some ⟨p, 0, none⟩)] w fun e w' => ResA w (countedO q (allV xs)) e w' := by
  have hR := Lib.hid (allV_right h)
  have HT := Lib.hid htab
  have H := Lib.hid h
  have HQ := Lib.hid hq
  have hpl := lt_of_cell hp
  have hall := fun W (hW : ArgsIn W A n cap xs) => kall_any A n cap xs W hW hn
  obtain ⟨X, hX⟩ : ∃ X, countedO q (allV xs) = X := ⟨_, rfl⟩
  rw [hX]
  have HX := Lib.hid hX
  clear htab h hq hX
  go_enter Tryz.func101, Tryz.ntmps101
  go_upto_region 3 with (go_at_call 96; (with_reducible refine (hall _ (H.out.ext (by with_reducible repeat (first | exact Ext.refl _ | apply Ext.drew | apply Ext.alloc | apply Ext.more_)))).mono ?_); rintro e w' ⟨D, m, c, rfl, hN, hm, hb⟩; have harr := hN.arr; obtain ⟨os1, d1, rfl⟩ := hb.more; clear hb hN)
  clear hall
  have hlen := Lib.hid harr.len
  have hle : ∀ k, ((((allV xs).take k).filter q).length : Int) ≤ m := fun k => by
    have h1 := List.length_filter_le q ((allV xs).take k)
    have h2 := hlen.out
    rw [List.length_take] at h1; omega
  have hcapm := harr.cap
  have HA := Lib.hid harr
  clear harr
  go_loopw [4, 10] (fun c i wr => ∃ k : Nat, k ≤ m ∧ i = .int .i64 (k : Int) ∧ c = .int .i64 ((((allV xs).take k).filter q).length : Int) ∧ Ext (more (w.alloc (Obj.cells #[.int .i64 0, .int .i64 0, .slice none 0 0] 33)) os1 d1) wr) (fun _ i _ => m - (intOf i).toNat)
  case atStart => exact ⟨0, Nat.zero_le _, rfl, rfl, Ext.refl _⟩
  case round =>
    obtain ⟨k, hk, rfl, rfl, hxr⟩ := hrel
    by_cases hlt : k < m
    · obtain ⟨x, b, off, hx, hxo, rfl, hat⟩ := HA.out.at hlt
      obtain ⟨v0, v1, v2, v3, v4, v5⟩ := hat.ext hxr
      have hbl := lt_of_cell v0
      have hxR := hR.out x (List.mem_of_getElem? hx)
      have HS := Lib.hid (filter_succ q hx)
      have hle1 := hle (k + 1)
      rw [HS.out] at hle1
      have hpc : wr.cell? ⟨p, 0, none⟩ = some (.func (.func fid) #[] capt) := hxr.cell_some ((show Ext w _ from by with_reducible repeat (first | exact Ext.refl _ | apply Ext.drew | apply Ext.alloc | apply Ext.more_)).cell_some hp)
      have hpl2 := lt_of_cell hpc
      have hx0 : Ext w wr := (show Ext w _ from by with_reducible repeat (first | exact Ext.refl _ | apply Ext.drew | apply Ext.alloc | apply Ext.more_)).trans hxr
      have hcall := fun W (hW : Ext w W) => HQ.out x W (klow_ext hW) hxR
      clear hx hxR hat hp hpl
      generalize ((allV xs).take k).filter q = F at *
      cases hqx : q x with
      | true =>
        rw [hqx] at hcall hle1 HS
        rw [if_pos rfl] at hle1
        go_wp2_with (refine (hcall _ (hx0.trans (by with_reducible repeat (first | exact Ext.refl _ | apply Ext.drew | apply Ext.alloc | apply Ext.more_)))).mono ?_; rintro e w' ⟨rfl, hb⟩; obtain ⟨os2, d2, rfl⟩ := hb.more; clear hb)
        refine ⟨⟨k + 1, by omega, by go_num, ?_, hxr.trans (by with_reducible repeat (first | exact Ext.refl _ | apply Ext.drew | apply Ext.alloc | apply Ext.more_))⟩, by simp [intOf]; omega⟩
        rw [HS.out]; simp
      | false =>
        rw [hqx] at hcall hle1 HS
        go_wp2_with (refine (hcall _ (hx0.trans (by with_reducible repeat (first | exact Ext.refl _ | apply Ext.drew | apply Ext.alloc | apply Ext.more_)))).mono ?_; rintro e w' ⟨rfl, hb⟩; obtain ⟨os2, d2, rfl⟩ := hb.more; clear hb)
        refine ⟨⟨k + 1, by omega, by go_num, ?_, hxr.trans (by with_reducible repeat (first | exact Ext.refl _ | apply Ext.drew | apply Ext.alloc | apply Ext.more_))⟩, by simp [intOf]; omega⟩
        rw [HS.out]; simp
    · obtain rfl : k = m := by omega
      have htk : (allV xs).take k = allV xs := by rw [← hlen.out]; exact List.take_length
      have hlk := hle k
      rw [htk] at hlk ⊢
      have hXo := HX.out
      unfold countedO at hXo
      have hz0 : (0 : Int) ≤ (((allV xs).filter q).length : Int) := by omega
      generalize (((allV xs).filter q).length : Int) = z at *
      have hz : z.natAbs < T 15 := by have : T 15 = 1000000000000000 := (by decide); omega
      have hwh := fun W h => kwhole_any z W h hz
      have hone : ∀ W, Calls Tryz.prog 64 #[VV 1 (wholeN z).1 (wholeN z).2 ⟨#[]⟩ false 0] W (ResA W X) := fun W => by rw [← hXo]; exact one_res (cntV z) W (cnt_ok hz) (cnt_right15 hz)
      obtain ⟨os, d, rfl⟩ := hxr.more
      clear hxr hXo HX hlk hle hz hz0
      generalize (wholeN z).1 = m1 at *
      generalize (wholeN z).2 = e1 at *
      go_wp2_with (first | (go_at_call 102; (with_reducible refine (hwh _ (HT.out.ext (by with_reducible repeat (first | exact Ext.refl _ | apply Ext.drew | apply Ext.alloc | apply Ext.more_)))).mono ?_); rintro e w' ⟨rfl, hb⟩; obtain ⟨os2, d2, rfl⟩ := hb.more; clear hb) | (go_at_call 99; (with_reducible refine (of_any _ _ _).mono ?_); rintro e w' ⟨rfl, hb⟩; obtain ⟨os3, d3, rfl⟩ := hb.more; clear hb) | (go_at_call 64; (with_reducible refine (hone _).mono ?_); rintro e w' ⟨D2, m2, cc2, rfl, hD, hb⟩; obtain ⟨os5, d5, rfl⟩ := hb.more; clear hb; have hDr := hD.rd))
      exact bodyPost_ret (v := AV X.R X.C (.slice D2 m2 cc2)) (by simp [results, Tryz.results101, go_sem]) rfl ⟨D2, m2, cc2, rfl, ⟨(by (try simp only [more_more] at hDr); (try simp only [drew_more] at hDr); (try simp only [more_drew] at hDr); (try simp only [Array.append_assoc] at hDr); exact Rd.swap hDr (by first | (simp; done) | (simp; omega) | omega) (by first | (simp; done) | (simp; omega) | omega) (by first | (simp; done) | (simp; omega) | omega)), hD.len, hD.cap, hD.small, hD.ok⟩, by with_reducible repeat (first | exact Ext.refl _ | apply Ext.drew | apply Ext.alloc | apply Ext.more_)⟩
end Go.Proofs.YtkcoikelcmpceaaGreatDoor
namespace Go.Proofs.YtkcoikelcmpceaaGreatDoor
open Go.RowKit NM
def GA.toAr (g : GA) : Ar := ⟨⟨g.r.toNat, g.c.toNat, g.l⟩, g.A, g.n, g.cap⟩
def arsOf (gs : List GA) : List Ar := gs.map GA.toAr
theorem toAr_toG {g : GA} (h : g.right = true) : (GA.toAr g).toG = g ∧ (GA.toAr g).x.right := by
  have h' : rightA g.r g.c g.l = true := h
  obtain ⟨R, C, e1, e2⟩ := rightA_shape h'
  obtain ⟨r, c, A, n, cap, l⟩ := g
  simp only at e1 e2 h'
  subst e1 e2
  exact ⟨rfl, h'⟩
theorem arsOf_in {w : World} {A : Option Addr} {n cap : Nat} {gs : List GA} (h : ArgsG w A n cap gs) (hr : ∀ g ∈ gs, g.right = true) : ArgsIn w A n cap (arsOf gs) := by
  have e : (arsOf gs).map Ar.toG = gs := by
    unfold arsOf
    rw [List.map_map]
    conv => rhs; rw [← List.map_id gs]
    exact List.map_congr_left fun g hg => (toAr_toG (hr g hg)).1
  refine ArgsG.toIn (xs := arsOf gs) (by rw [e]; exact h) fun a ha => ?_
  obtain ⟨g, hg, rfl⟩ := List.mem_map.1 ha
  exact (toAr_toG (hr g hg)).2
/-- Arguments that may be. -/
theorem arsOf_toG {xs : List Ar} : arsOf (xs.map Ar.toG) = xs := by
  unfold arsOf
  rw [List.map_map]
  conv => rhs; rw [← List.map_id xs]
  refine List.map_congr_left fun a _ => ?_
  obtain ⟨⟨R, C, l⟩, A, n, cap⟩ := a
  rfl
theorem callX_in {lo hi : Nat} {xs : List Ar} (F : NA) (h1 : lo ≤ xs.length) (h2 : xs.length ≤ hi) (hr : ∀ a ∈ xs, a.x.right) : callX lo hi (xs.map Ar.toG) F = F := by
  unfold callX
  rw [if_neg (by rw [List.length_map]; omega), if_pos]
  rw [List.all_eq_true]
  intro g hg
  obtain ⟨a, ha, rfl⟩ := List.mem_map.1 hg
  exact hr a ha
end Go.Proofs.YtkcoikelcmpceaaGreatDoor
namespace Go.Proofs.YtkcoikelcmpceaaGreatDoor
open Go.RowKit NM
theorem low_at {w W : World} (h : Low w W) {p : Addr} {v : Value} (hp : w.cell? p = some v) : W.cell? p = some v := by
  rw [← hp]; exact World.cell?_of_block (h _ (lt_of_cell hp))
theorem right_crit {x : Val} (hx : x.right) : (critO x).2.right := by
  unfold critO
  split
  · split
    · exact right_read _
    · exact hx
  · exact hx
set_option maxHeartbeats 1000000 in
theorem crit_tells {w : World} {p1 p2 : Nat} {c : CS} {s : Val} (h : CritAt w p1 p2 c s) (hs : s.right) : Tells w 159 #[.pointer (some ⟨p1, 0, none⟩), .pointer (some ⟨p2, 0, none⟩)] (kfitB c s) := by
  intro x W hl hx
  have hf := fun V => kfits_any c x s V hx hs
  obtain ⟨h1, h2, h3, h4, h5, h6, h7⟩ := h
  replace h1 := low_at hl h1
  replace h2 := low_at hl h2
  replace h3 := low_at hl h3
  replace h4 := low_at hl h4
  replace h5 := low_at hl h5
  replace h6 := low_at hl h6
  replace h7 := low_at hl h7
  have l1 := lt_of_cell h1
  have l2 := lt_of_cell h2
  generalize kfitB c s x = r at *
  generalize c.str = cs at *
  clear hl hx hs
  show Calls Tryz.prog 159 #[VV x.kind x.mant x.exp x.text x.truth x.fault, .pointer (some ⟨p1, 0, none⟩), .pointer (some ⟨p2, 0, none⟩)] W _
  go_enter Tryz.func159, Tryz.ntmps159
  go_wp2_with (first | (go_at_call 160; (with_reducible refine (hf _).mono ?_); rintro e w' ⟨rfl, hb⟩; obtain ⟨os, d, rfl⟩ := hb.more; clear hb))
  exact bodyPost_ret (v := .bool r) (by simp [results, Tryz.results159, go_sem]) rfl ⟨rfl, by with_reducible repeat (first | exact Ext.refl _ | apply Ext.drew | apply Ext.alloc | apply Ext.more_)⟩
def countIfO (xs : List Ar) : NA := if (argV xs 1).kind = 4 then aloneO (argV xs 1).fault else countedO (kfitB (critO (argV xs 1)).1 (critO (argV xs 1)).2) (argN xs 0).l
theorem ArgsIn.one {w : World} {A : Option Addr} {n cap : Nat} {a : Ar} {xs : List Ar} (h : ArgsIn w A n cap (a :: xs)) : ArgsIn w A 1 cap [a] := by
  refine ⟨fun j u hu => h.rd j u ?_, rfl, by have := h.len; have := h.cap; simp at *; omega, by omega, fun b hb => h.all b (by rw [List.mem_singleton.1 hb]; simp)⟩
  have e : acells (a :: xs) = acells [a] ++ acells xs := by simp [acells]
  rw [e, List.getElem?_append_left (List.getElem?_eq_some_iff.1 hu).1]
  exact hu
theorem allV_one (a : Ar) : allV [a] = a.x.l := by simp [allV]
set_option maxHeartbeats 2000000 in
theorem kcountIf_any (A : Option Addr) (n cap : Nat) (xs : List Ar) (w : World) (htab : Tab w) (hft : FTab w) (h : ArgsIn w A n cap xs) (hn : n = 2) :
    Calls Tryz.prog 54 #[.slice A n cap] w fun e w' => ResA w (countIfO xs) e w' := by
  subst hn
  obtain ⟨R, C, l, b1, off1, n1, cap1, b, off, x, ha, rfl, ⟨v0, v1, v2⟩, hn1, hc1, ⟨y0, y1, y2, y3, y4, y5⟩, hgv, hxr, hbl, hb1, hav, _, _, _⟩ := h.first (k := 1) (by omega)
  have hcap := h.cap
  simp only [Nat.one_mul] at v0 v1 v2
  obtain ⟨a, xs', rfl⟩ : ∃ a xs', xs = a :: xs' := by
    cases xs with
    | nil => have := h.len; simp at this
    | cons a xs' => exact ⟨a, xs', rfl⟩
  have hone := h.one
  have h0 : argN (a :: xs') 0 = a.x := rfl
  obtain ⟨X, hX⟩ : ∃ X, countIfO (a :: xs') = X := ⟨_, rfl⟩
  rw [hX]
  unfold countIfO at hX
  rw [hav, h0] at hX
  have HT := Lib.hid htab
  have HF := Lib.hid hft
  have H1 := Lib.hid hone
  clear h hone htab hft ha hgv hav h0
  by_cases h4 : x.kind = 4
  · rw [if_pos h4] at hX
    have hcb := fun W => criterion_bad x W h4
    have hfa := fun W => kfault_any x.fault W
    rw [hX] at hfa
    have hne : (x.fault != 0) = true := by have := (right_cases hxr).2.2.2 h4; simp; omega
    clear hX h4 hxr
    go_enter Tryz.func54, Tryz.ntmps54
    go_wp2_with (first | (go_at_call 113; (with_reducible refine (hcb _).mono ?_); rintro e w' ⟨rfl, hb⟩; obtain ⟨os1, d1, rfl⟩ := hb.more; clear hb) | (go_at_call 22; (with_reducible refine (hfa _).mono ?_); rintro e w' ⟨D2, m2, cc2, rfl, hD, hb⟩; obtain ⟨os5, d5, rfl⟩ := hb.more; clear hb; have hDr := hD.rd))
    exact bodyPost_ret (v := AV X.R X.C (.slice D2 m2 cc2)) (by simp [results, Tryz.results54, go_sem]) rfl ⟨D2, m2, cc2, rfl, ⟨(by (try simp only [more_more] at hDr); (try simp only [drew_more] at hDr); (try simp only [more_drew] at hDr); (try simp only [Array.append_assoc] at hDr); exact Rd.swap hDr (by first | (simp; done) | (simp; omega) | omega) (by first | (simp; done) | (simp; omega) | omega) (by first | (simp; done) | (simp; omega) | omega)), hD.len, hD.cap, hD.small, hD.ok⟩, by with_reducible repeat (first | exact Ext.refl _ | apply Ext.drew | apply Ext.alloc | apply Ext.more_)⟩
  · rw [if_neg h4] at hX
    have hcr := fun W hW => criterion_any x W hxr h4 hW
    have hcnt := fun W hT hA p q hp hq => kcounted_any (some ⟨b, off, none⟩) 1 cap [a] 159 q (kfitB (critO x).1 (critO x).2) p W hT hA (by decide) hp hq (fun args W => by go_simp)
    rw [allV_one, hX] at hcnt
    have hsr := right_crit hxr
    have hcapI : (1 : Int) ≤ (cap : Int) := by omega
    clear hX h4 hxr
    go_enter Tryz.func54, Tryz.ntmps54
    go_upto_region 4 with (first | (go_at_call 113; (with_reducible refine (hcr _ (HF.out.ext (by with_reducible repeat (first | exact Ext.refl _ | apply Ext.drew | apply Ext.alloc | apply Ext.more_)))).mono ?_); rintro e w' ⟨p1, p2, rfl, hc, hp1, hp2, hb⟩; obtain ⟨os1, d1, rfl⟩ := hb.more; clear hb))
    refine wp_plan (S := Ext _) [(0, 0), (2, 0), (3, 0), (1, 1), (4, 1), (5, 2)] [5] (by kernel_rfl) (by kernel_rfl) (by kernel_rfl) (fun _ _ d _ _ h => by cases d <;> exact h) (Ext.drew (Ext.refl _)) ?_
    iterate 3 ((refine wpPl_read (v := ?_) rfl ?_ (fun _ h => ?_) ?_; rotate_left 1; rfl; (obtain ⟨_, _, rfl⟩ := h.more; go_simp; try rfl)); try simp only [Act.put, zqA, zqB, zqC])
    (refine wpPl_eff rfl ?_ (fun K hK => ?_); rfl; go_simp; refine (kcounted_mk _ _ _).mono ?_; rintro e w' ⟨rfl, rfl⟩; refine hK _ _ ?_ ?_; (repeat (first | (with_reducible (first | exact Ext.refl _ | exact ext_d _ _ _ _ | exact ext_app _ _ _ _ _ | exact ext_app2 _ _ _ _ _ _ | exact ext_app3 _ _ _ _ _ _ _ | exact ext_app4 _ _ _ _ _ _ _ _ | exact ext_app5 _ _ _ _ _ _ _ _ _)) | ((with_reducible refine ext_suffix ⟨_, ?_⟩); (try simp only [Array.append_assoc]); rfl) | (with_reducible (first | apply Ext.drew | apply Ext.alloc | apply Ext.more_)) | apply Ext.drew | apply Ext.alloc | apply Ext.more_)))
    try simp only [Act.put, zqA, zqB, zqC]
    (refine wpPl_eff rfl ?_ (fun K hK => ?_); rfl; go_simp; refine (hcnt _ ?_ ?_ _ #[.pointer (some ⟨p1, 0, none⟩), .pointer (some ⟨p2, 0, none⟩)] ?_ ?_).mono ?_; exact HT.out.ext (by with_reducible repeat (first | exact Ext.refl _ | apply Ext.drew | apply Ext.alloc | apply Ext.more_)); exact H1.out.ext (by with_reducible repeat (first | exact Ext.refl _ | apply Ext.drew | apply Ext.alloc | apply Ext.more_)); go_simp; exact crit_tells (hc.ext (by repeat (first | (with_reducible (first | exact Ext.refl _ | exact ext_d _ _ _ _ | exact ext_app _ _ _ _ _ | exact ext_app2 _ _ _ _ _ _)) | ((with_reducible refine ext_suffix ⟨_, ?_⟩); (try simp only [Array.append_assoc]); rfl) | (with_reducible (first | apply Ext.drew | apply Ext.alloc | apply Ext.more_))))) hsr; rintro e w' ⟨D2, m2, cc2, rfl, hD, hb⟩; obtain ⟨os5, d5, rfl⟩ := hb.more; clear hb; have hDr := hD.rd; refine hK _ _ ?_ ?_; (repeat (first | (with_reducible (first | exact Ext.refl _ | exact ext_d _ _ _ _ | exact ext_app _ _ _ _ _ | exact ext_app2 _ _ _ _ _ _ | exact ext_app3 _ _ _ _ _ _ _ | exact ext_app4 _ _ _ _ _ _ _ _ | exact ext_app5 _ _ _ _ _ _ _ _ _)) | ((with_reducible refine ext_suffix ⟨_, ?_⟩); (try simp only [Array.append_assoc]); rfl) | (with_reducible (first | apply Ext.drew | apply Ext.alloc | apply Ext.more_)) | apply Ext.drew | apply Ext.alloc | apply Ext.more_)))
    try simp only [Act.put, zqA, zqB, zqC]
    (refine wpPl_tail rfl ?_ (fun K hK => ?_); rfl; go_simp; refine hK _ _ ?_)
    try simp only [Act.put]
    refine wpPl_nil ?_
    go_wp2_with fail
    exact bodyPost_ret (v := AV X.R X.C (.slice D2 m2 cc2)) (by simp [results, Tryz.results54, go_sem]) rfl ⟨D2, m2, cc2, rfl, ⟨(by (try simp only [more_more] at hDr); (try simp only [drew_more] at hDr); (try simp only [more_drew] at hDr); (try simp only [Array.append_assoc] at hDr); exact Rd.swap hDr (by first | (simp; done) | (simp; omega) | omega) (by first | (simp; done) | (simp; omega) | omega) (by first | (simp; done) | (simp; omega) | omega)), hD.len, hD.cap, hD.small, hD.ok⟩, by with_reducible repeat (first | exact Ext.refl _ | apply Ext.drew | apply Ext.alloc | apply Ext.more_)⟩
end Go.Proofs.YtkcoikelcmpceaaGreatDoor
namespace Go.Proofs.YtkcoikelcmpceaaGreatDoor
open Go.RowKit NM
theorem textL_len {m e : Int} (h : Rt m e) : (textL m e).length ≤ 100 := by
  obtain ⟨b1, b2, b3⟩ := Rt_bd h
  have hn : (Lib.decDigits m.natAbs).length ≤ 15 := by
    have := decB_size m.natAbs
    have h1 : (decB m.natAbs).size = (Lib.decDigits m.natAbs).length := rfl
    have hnd : nd m.natAbs ≤ 15 := (nd_le_iff _ _).2 (by have : T 15 = 1000000000000000 := by decide
                                                         omega)
    omega
  unfold textL
  rw [List.length_append]
  have h1 : (if m < 0 then [(45 : UInt8)] else []).length ≤ 1 := by split <;> simp
  generalize (if m < 0 then [(45 : UInt8)] else []) = sg at *
  split
  · simp; omega
  · split
    · simp; omega
    · simp; omega
theorem textS_size {m e : Int} (h : Rt m e) : (textS m e).size ≤ 100 := by
  unfold textS
  rw [if_pos h]
  exact textL_len h
theorem back_textS {m e : Int} (h : Rt m e) : parS (textS m e) = some (m, e) := by
  unfold parS
  rw [if_neg (by have := textS_size h; omega)]
  have : bl (textS m e) = (textL m e).map (·.toNat) := by unfold textS; rw [if_pos h]; rfl
  rw [this]; exact text_back h
end Go.Proofs.YtkcoikelcmpceaaGreatDoor
namespace Go.Proofs.YtkcoikelcmpceaaGreatDoor
open Go.RowKit
def commonO (R C R' C' : Nat) : Option (Nat × Nat) := if max R R' * max C C' ≤ 4096 then some (max R R', max C C') else none
theorem common_at {R C R' C' x y : Nat} {k : Bool} (M N : Nat) (hM : M = max R R') (hN : N = max C C') (h1 : 1 ≤ M) (h2 : 1 ≤ N) (hx : ((commonO R C R' C').getD (0, 0)) = (x, y)) (hk : (commonO R C R' C').isSome = k) {fb : Bool} (hfb : fitsB M N = fb) : x = (if fb then M else 0) ∧ y = (if fb then N else 0) ∧ k = fb := by
  subst hM hN
  unfold commonO at hx hk
  by_cases h : max R R' * max C C' ≤ 4096
  · rw [if_pos h] at hx hk
    have : fb = true := by rw [← hfb]; exact fits_nat.2 ⟨h1, h2, h⟩
    subst this
    simp only [Option.getD_some, Prod.mk.injEq, Option.isSome_some] at hx hk
    exact ⟨hx.1.symm, hx.2.symm, hk.symm⟩
  · rw [if_neg h] at hx hk
    have : fb = false := by rw [← hfb]; exact fits_no h1 h2 h
    subst this
    simp only [Option.getD_none, Prod.mk.injEq, Option.isSome_none] at hx hk
    exact ⟨hx.1.symm, hx.2.symm, hk.symm⟩
set_option maxHeartbeats 800000 in
theorem common_c (R C R' C' : Nat) (A B : Option Addr) (n cap n' cap' : Nat) (l l' : List Val) (w : World) (h : ArrIn w A n cap l) (h' : ArrIn w B n' cap' l') (hr : rightA R C l = true) (hr' : rightA R' C' l' = true) (x y : Nat) (k : Bool) (hx : ((commonO R C R' C').getD (0, 0)) = (x, y)) (hk : (commonO R C R' C').isSome = k) :
    Calls Tryz.prog 165 #[AV R C (.slice A n cap), AV R' C' (.slice B n' cap')] w fun e w' => e = .returned (.tuple #[.int .i64 x, .int .i64 y, .bool k]) ∧ Ext w w' := by
  obtain ⟨r1, r2, r3, r4, r5, r6⟩ := right_bd hr
  obtain ⟨s1, s2, s3, s4, s5, s6⟩ := right_bd hr'
  clear r4 s4
  have HX := Lib.hid hx
  have HK := Lib.hid hk
  clear hx hk
  go_enter Tryz.func165, Tryz.ntmps165
  go_wp2_with fail
  refine (right_any _ _ _ _ _ _ _ (h.ext (by repeat (first | (with_reducible (first | exact Ext.refl _ | exact hX | exact ext_d _ _ _ _ | exact ext_app _ _ _ _ _)) | ((with_reducible refine ext_suffix ⟨_, ?_⟩); (try simp only [Array.append_assoc]); rfl) | (with_reducible (first | apply Ext.drew | apply Ext.alloc | apply Ext.more_)))))).mono ?_; rintro e w' ⟨rfl, hb⟩; obtain ⟨os1, d1, rfl⟩ := hb.more; clear hb
  go_wp2_with fail
  refine (right_any _ _ _ _ _ _ _ (h'.ext (by repeat (first | (with_reducible (first | exact Ext.refl _ | exact hX | exact ext_d _ _ _ _ | exact ext_app _ _ _ _ _)) | ((with_reducible refine ext_suffix ⟨_, ?_⟩); (try simp only [Array.append_assoc]); rfl) | (with_reducible (first | apply Ext.drew | apply Ext.alloc | apply Ext.more_)))))).mono ?_; rintro e w' ⟨rfl, hb⟩; obtain ⟨os2, d2, rfl⟩ := hb.more; clear hb
  go_wp2_with fail
  refine wp_plan (S := Ext _) [(0, 0), (1, 0), (2, 0), (3, 0), (4, 0), (5, 0), (6, 0), (7, 0), (8, 0), (9, 0), (10, 0), (11, 0)] [] (by kernel_rfl) (by kernel_rfl) (by kernel_rfl) (fun _ _ d _ _ h => by cases d <;> exact h) (Ext.drew (Ext.refl _)) ?_
  iterate 12 ((refine wpPl_read (v := ?_) rfl ?_ (fun _ h => ?_) ?_; rotate_left 1; rfl; (obtain ⟨_, _, rfl⟩ := h.more; go_simp; try rfl)); try simp only [Act.put, zqA, zqB, zqC])
  refine wpPl_nil ?_
  go_wp2_with fail
  all_goals
    (try simp only [show (max (R : Int) R') = ((max R R' : Nat) : Int) by omega, show (max (C : Int) C') = ((max C C' : Nat) : Int) by omega])
    refine (fits_any _ _ _).mono ?_
    rintro e w' ⟨rfl, rfl⟩
    generalize hfb : fitsB _ _ = fb
    obtain ⟨e1, e2, e3⟩ := common_at _ _ (by omega) (by omega) (by omega) (by omega) HX.out HK.out hfb
    subst e1 e2 e3
    clear HX HK hfb
    cases k
    · go_wp2
      go_ret3
      exact ⟨rfl, by repeat (first | (with_reducible (first | exact Ext.refl _ | exact hX | exact ext_d _ _ _ _ | exact ext_app _ _ _ _ _)) | ((with_reducible refine ext_suffix ⟨_, ?_⟩); (try simp only [Array.append_assoc]); rfl) | (with_reducible (first | apply Ext.drew | apply Ext.alloc | apply Ext.more_)))⟩
    · go_wp2
      go_ret3
      exact ⟨rfl, by repeat (first | (with_reducible (first | exact Ext.refl _ | exact hX | exact ext_d _ _ _ _ | exact ext_app _ _ _ _ _)) | ((with_reducible refine ext_suffix ⟨_, ?_⟩); (try simp only [Array.append_assoc]); rfl) | (with_reducible (first | apply Ext.drew | apply Ext.alloc | apply Ext.more_)))⟩
end Go.Proofs.YtkcoikelcmpceaaGreatDoor
namespace Go.Proofs.YtkcoikelcmpceaaGreatDoor
open Go.RowKit
def spI (R i : Nat) : Nat := if R = 1 then 0 else i
def spreadO (R C : Nat) (l : List Val) (i j : Nat) : Option Val := if spI R i < R ∧ spI C j < C then some (getV l (spI R i * C + spI C j)) else none
def orZero (o : Option Val) : Val := o.getD Val.zero
/-- The value at a place of the array, by the place that counts there. -/
def atO (R C : Nat) (l : List Val) (si sj : Nat) : Option Val := if si < R ∧ sj < C then some (getV l (si * C + sj)) else none
set_option maxHeartbeats 800000 in
theorem spread_at (R C i j si sj : Nat) (A : Option Addr) (n cap : Nat) (l : List Val) (w : World) (h : ArrIn w A n cap l) (hn : n = R * C) (hN : n ≤ 4096) (hi : ((R : Int) == 1) = true ∧ si = 0 ∨ ((R : Int) == 1) = false ∧ si = i) (hj : ((C : Int) == 1) = true ∧ sj = 0 ∨ ((C : Int) == 1) = false ∧ sj = j) (x : Val) (k : Bool) (hx0 : orZero (atO R C l si sj) = x) (hk0 : (atO R C l si sj).isSome = k) :
    Calls Tryz.prog 168 #[AV R C (.slice A n cap), .int .i64 i, .int .i64 j] w fun e w' => e = .returned (.tuple #[VV x.kind x.mant x.exp x.text x.truth x.fault, .bool k]) ∧ Ext w w' := by
  by_cases hh : si < R ∧ sj < C
  · have hx : getV l (si * C + sj) = x := by rw [← hx0]; simp [atO, hh, orZero]
    have hk1 : k = true := by rw [← hk0]; simp [atO, hh]
    subst hk1
    clear hx0 hk0
    obtain ⟨hk, hk2⟩ := cell_prod R hh.1 hh.2 (by omega)
    have hB : hasB R C si sj = true := hasB_iff.2 (by omega)
    subst hn
    obtain ⟨b, off, rfl, hv, ho⟩ := h.get hk
    rw [hx] at hv
    clear hx ho hh
    have w1 : IntKind.i64.wrap ((si : Int) * (C : Int)) = ((si * C : Nat) : Int) := by rw [IntKind.wrap_i64, Int.natCast_mul]; omega
    have hbl : b < w.heap.size := hv.lt
    rcases hi with ⟨hi, rfl⟩ | ⟨hi, rfl⟩ <;> rcases hj with ⟨hj, rfl⟩ | ⟨hj, rfl⟩
    all_goals
      (try simp only [Int.natCast_zero] at hB w1)
      (try simp only [Nat.zero_mul, Nat.zero_add, Nat.add_zero] at hv hk w1)
      obtain ⟨v0, v1, v2, v3, v4, v5⟩ := hv
      generalize hrc : R * C = rc at *
      clear hrc
      (try (generalize hjc : si * C = jc at *; clear hjc))
      go_enter Tryz.func168, Tryz.ntmps168
      go_wp2_with (go_at_call 191; refine (has_any _ _ _ _ _ _ rfl).mono ?_; rintro e w' ⟨rfl, hb⟩; obtain ⟨os1, d1, rfl⟩ := hb.more; clear hb)
      exact bodyPost_ret (v := .tuple #[VV x.kind x.mant x.exp x.text x.truth x.fault, .bool true]) (by simp [results, Tryz.results168, go_sem]) rfl ⟨rfl, by repeat (first | (with_reducible (first | exact Ext.refl _ | exact hX | exact ext_d _ _ _ _ | exact ext_app _ _ _ _ _)) | ((with_reducible refine ext_suffix ⟨_, ?_⟩); (try simp only [Array.append_assoc]); rfl) | (with_reducible (first | apply Ext.drew | apply Ext.alloc | apply Ext.more_)))⟩
  · have hB : hasB R C si sj = false := hasB_no (by omega)
    have hx : x = Val.zero := by rw [← hx0]; simp [atO, hh, orZero]
    have hk1 : k = false := by rw [← hk0]; simp [atO, hh]
    subst hk1 hx
    clear hx0 hk0 hh hn
    rcases hi with ⟨hi, rfl⟩ | ⟨hi, rfl⟩ <;> rcases hj with ⟨hj, rfl⟩ | ⟨hj, rfl⟩
    all_goals
      (try simp only [Int.natCast_zero] at hB)
      go_enter Tryz.func168, Tryz.ntmps168
      go_wp2_with (go_at_call 191; refine (has_any _ _ _ _ _ _ rfl).mono ?_; rintro e w' ⟨rfl, hb⟩; obtain ⟨os1, d1, rfl⟩ := hb.more; clear hb)
      exact bodyPost_ret (v := .tuple #[VV 0 0 0 ⟨#[]⟩ false 0, .bool false]) (by simp [results, Tryz.results168, go_sem]) rfl ⟨rfl, by repeat (first | (with_reducible (first | exact Ext.refl _ | exact hX | exact ext_d _ _ _ _ | exact ext_app _ _ _ _ _)) | ((with_reducible refine ext_suffix ⟨_, ?_⟩); (try simp only [Array.append_assoc]); rfl) | (with_reducible (first | apply Ext.drew | apply Ext.alloc | apply Ext.more_)))⟩
theorem spI_c (R i : Nat) : ((R : Int) == 1) = true ∧ spI R i = 0 ∨ ((R : Int) == 1) = false ∧ spI R i = i := by
  unfold spI
  by_cases h : R = 1
  · left; simp [h]
  · right; simp [h]; omega
theorem spread_c (R C i j : Nat) (A : Option Addr) (n cap : Nat) (l : List Val) (w : World) (h : ArrIn w A n cap l) (hn : n = R * C) (hN : n ≤ 4096) (x : Val) (k : Bool) (hx : orZero (spreadO R C l i j) = x) (hk : (spreadO R C l i j).isSome = k) :
    Calls Tryz.prog 168 #[AV R C (.slice A n cap), .int .i64 i, .int .i64 j] w fun e w' => e = .returned (.tuple #[VV x.kind x.mant x.exp x.text x.truth x.fault, .bool k]) ∧ Ext w w' :=
  spread_at R C i j _ _ A n cap l w h hn hN (spI_c R i) (spI_c C j) x k hx hk
theorem spread_all {P : Val → Prop} {R C i j : Nat} {l : List Val} {x : Val} (hl : l.length = R * C) (ho : ∀ y ∈ l, P y) (h : spreadO R C l i j = some x) : P x := by
  unfold spreadO at h
  split at h
  · rename_i hh
    obtain rfl := Option.some.inj h
    refine getV_all ho ?_
    rw [hl]
    calc spI R i * C + spI C j < spI R i * C + C := by omega
      _ = (spI R i + 1) * C := by rw [Nat.succ_mul]
      _ ≤ R * C := Nat.mul_le_mul_right _ hh.1
  · cases h
theorem spread_ok {R C i j : Nat} {l : List Val} {x : Val} (hl : l.length = R * C) (ho : ∀ y ∈ l, y.ok) (h : spreadO R C l i j = some x) : x.ok := spread_all hl ho h
end Go.Proofs.YtkcoikelcmpceaaGreatDoor
namespace Go.Proofs.YtkcoikelcmpceaaGreatDoor
open Go.RowKit
/-- A function of two values that keeps a state: how often it was asked. -/
structure FSpec2 (fid : FuncId) (capt : Array Value) (t : Val → Val → Val) (base lo pa : Nat) (J : Nat → World → Prop) : Prop where
  ext : ∀ k W W', Ext W W' → J k W → J k W'
  keep : ∀ k W W', Keep (lo - 3) W W' → J k W → J k W'
  call : ∀ k x y W0 W, J k W0 → Ext W0 W → lo ≤ W0.heap.size → x.ok → y.ok → valRight x = true → valRight y = true → k < 4096 →
    Calls Tryz.prog fid (#[VV x.kind x.mant x.exp x.text x.truth x.fault, VV y.kind y.mant y.exp y.text y.truth y.fault] ++ capt) W fun e W' => e = .returned (VV (t x y).kind (t x y).mant (t x y).exp (t x y).text (t x y).truth (t x y).fault) ∧ (∀ W'', Aside W0.heap.size W.heap.size W' W'' → J (k + 1) W'') ∧ Still lo pa W0 W W'
  ok : ∀ x y, x.ok → y.ok → valRight x = true → valRight y = true → (t x y).ok
  far : ∀ k W (p : Addr) v, base ≤ p.block → p.block < lo → J k W → J k (W.setCell p v)
def bothV (t : Val → Val → Val) (oa ob : Option Val) : Val := match oa, ob with
  | some x, some y => oneV (t x y)
  | _, _ => badV 6
def bothN (oa ob : Option Val) : Nat := if oa.isSome && ob.isSome then 1 else 0
theorem func_nil2 (fid : FuncId) (capt : Array Value) (W : World) : (binOp .eql 88 (.func (.func fid) #[] capt) .nilFunc).run Tryz.prog W = .ok (.bool false) W := by
  first
  | kernel_rfl
  | rfl
set_option maxHeartbeats 1000000 in
theorem both1_none (R C R' C' i j n cap n' cap' pA pB pf : Nat) (A B : Option Addr) (l l' : List Val) (W : World) (hA : ABox pA R C A n cap W) (hB : ABox pB R' C' B n' cap' W) (h : ArrIn W A n cap l) (h' : ArrIn W B n' cap' l') (hn : n = R * C) (hn' : n' = R' * C') (hN : n ≤ 4096) (hN' : n' ≤ 4096) (hno : (spreadO R C l i j = none ∨ spreadO R' C' l' i j = none)) :
    Calls Tryz.prog 167 #[.int .i64 i, .int .i64 j, .pointer (some ⟨pA, 0, none⟩), .pointer (some ⟨pB, 0, none⟩), .pointer (some ⟨pf, 0, none⟩)] W fun e W' => e = .returned (VV 4 0 0 ⟨#[]⟩ false 6) ∧ Ext W W' := by
  obtain ⟨p0, p1, p2, p3⟩ := hA
  obtain ⟨q0, q1, q2, q3⟩ := hB
  have hb6 : badF 6 = 6 := by decide
  have HN := Lib.hid hn
  have HN' := Lib.hid hn'
  clear hn hn'
  generalize hx : orZero (spreadO R C l i j) = x
  generalize hy : orZero (spreadO R' C' l' i j) = y
  cases hka : (spreadO R C l i j).isSome
  · go_enter Tryz.func167, Tryz.ntmps167
    have HX := Lib.hid (And.intro hx hka)
    have HY := Lib.hid hy
    clear hx hy hka
    generalize hkb : (spreadO R' C' l' i j).isSome = kb
    have HK := Lib.hid hkb
    clear hkb hno
    go_wp2_with fail
    refine (spread_c R C i j A n cap l _ (h.ext (by repeat (first | (with_reducible (first | exact Ext.refl _ | exact hX | exact ext_d _ _ _ _ | exact ext_app _ _ _ _ _)) | ((with_reducible refine ext_suffix ⟨_, ?_⟩); (try simp only [Array.append_assoc]); rfl) | (with_reducible (first | apply Ext.drew | apply Ext.alloc | apply Ext.more_))))) HN.out hN x false HX.out.1 HX.out.2).mono ?_; rintro e w' ⟨rfl, hb⟩; obtain ⟨os1, d1, rfl⟩ := hb.more; clear hb
    go_wp2_with fail
    refine (spread_c R' C' i j B n' cap' l' _ (h'.ext (by repeat (first | (with_reducible (first | exact Ext.refl _ | exact hX | exact ext_d _ _ _ _ | exact ext_app _ _ _ _ _)) | ((with_reducible refine ext_suffix ⟨_, ?_⟩); (try simp only [Array.append_assoc]); rfl) | (with_reducible (first | apply Ext.drew | apply Ext.alloc | apply Ext.more_))))) HN'.out hN' y kb HY.out HK.out).mono ?_; rintro e w' ⟨rfl, hb⟩; obtain ⟨os2, d2, rfl⟩ := hb.more; clear hb
    go_wp2_with (go_at_call 65; refine (bad_any _ _).mono ?_; rintro e w' ⟨rfl, hb⟩; obtain ⟨os3, d3, rfl⟩ := hb.more; clear hb)
    exact bodyPost_ret (v := VV 4 0 0 ⟨#[]⟩ false 6) (by simp [results, Tryz.results167, go_sem]) rfl ⟨rfl, by repeat (first | (with_reducible (first | exact Ext.refl _ | exact hX | exact ext_d _ _ _ _ | exact ext_app _ _ _ _ _)) | ((with_reducible refine ext_suffix ⟨_, ?_⟩); (try simp only [Array.append_assoc]); rfl) | (with_reducible (first | apply Ext.drew | apply Ext.alloc | apply Ext.more_)))⟩
  · have hkb : (spreadO R' C' l' i j).isSome = false := by
      rcases hno with e | e
      · rw [e] at hka; cases hka
      · rw [e]; rfl
    go_enter Tryz.func167, Tryz.ntmps167
    have HX := Lib.hid (And.intro hx hka)
    have HY := Lib.hid (And.intro hy hkb)
    clear hx hy hka hkb hno
    go_wp2_with fail
    refine (spread_c R C i j A n cap l _ (h.ext (by repeat (first | (with_reducible (first | exact Ext.refl _ | exact hX | exact ext_d _ _ _ _ | exact ext_app _ _ _ _ _)) | ((with_reducible refine ext_suffix ⟨_, ?_⟩); (try simp only [Array.append_assoc]); rfl) | (with_reducible (first | apply Ext.drew | apply Ext.alloc | apply Ext.more_))))) HN.out hN x true HX.out.1 HX.out.2).mono ?_; rintro e w' ⟨rfl, hb⟩; obtain ⟨os1, d1, rfl⟩ := hb.more; clear hb
    go_wp2_with fail
    refine (spread_c R' C' i j B n' cap' l' _ (h'.ext (by repeat (first | (with_reducible (first | exact Ext.refl _ | exact hX | exact ext_d _ _ _ _ | exact ext_app _ _ _ _ _)) | ((with_reducible refine ext_suffix ⟨_, ?_⟩); (try simp only [Array.append_assoc]); rfl) | (with_reducible (first | apply Ext.drew | apply Ext.alloc | apply Ext.more_))))) HN'.out hN' y false HY.out.1 HY.out.2).mono ?_; rintro e w' ⟨rfl, hb⟩; obtain ⟨os2, d2, rfl⟩ := hb.more; clear hb
    go_wp2_with (go_at_call 65; refine (bad_any _ _).mono ?_; rintro e w' ⟨rfl, hb⟩; obtain ⟨os3, d3, rfl⟩ := hb.more; clear hb)
    exact bodyPost_ret (v := VV 4 0 0 ⟨#[]⟩ false 6) (by simp [results, Tryz.results167, go_sem]) rfl ⟨rfl, by repeat (first | (with_reducible (first | exact Ext.refl _ | exact hX | exact ext_d _ _ _ _ | exact ext_app _ _ _ _ _)) | ((with_reducible refine ext_suffix ⟨_, ?_⟩); (try simp only [Array.append_assoc]); rfl) | (with_reducible (first | apply Ext.drew | apply Ext.alloc | apply Ext.more_)))⟩
set_option maxHeartbeats 1000000 in
theorem both1_some (fid : FuncId) (capt : Array Value) (t : Val → Val → Val) (base s0 pa : Nat) (J : Nat → World → Prop) (spec : FSpec2 fid capt t base (s0 + 3) pa J) (hent : ∀ (args : Array Value) (W : World), (callFunc fid args).run Tryz.prog W = .ok (.enter fid args) W)
    (R C R' C' i j n cap n' cap' pA pB pf k : Nat) (A B : Option Addr) (l l' : List Val) (x y : Val) (W : World) (hA : ABox pA R C A n cap W) (hB : ABox pB R' C' B n' cap' W) (hf : W.cell? ⟨pf, 0, none⟩ = some (.func (.func fid) #[] capt)) (h : ArrIn W A n cap l) (h' : ArrIn W B n' cap' l') (hn : n = R * C) (hn' : n' = R' * C') (hN : n ≤ 4096) (hN' : n' ≤ 4096)
    (hJ : J k W) (hs : s0 + 3 ≤ W.heap.size) (hk : k < 4096) (ha : spreadO R C l i j = some x) (hb : spreadO R' C' l' i j = some y) (hxo : x.ok) (hyo : y.ok) (hxr : valRight x = true) (hyr : valRight y = true) :
    Calls Tryz.prog 167 #[.int .i64 i, .int .i64 j, .pointer (some ⟨pA, 0, none⟩), .pointer (some ⟨pB, 0, none⟩), .pointer (some ⟨pf, 0, none⟩)] W fun e W' => e = .returned (VV (oneV (t x y)).kind (oneV (t x y)).mant (oneV (t x y)).exp (oneV (t x y)).text (oneV (t x y)).truth (oneV (t x y)).fault) ∧ J (k + 1) W' ∧ Still (s0 + 3) pa W W W' := by
  obtain ⟨p0, p1, p2, p3⟩ := hA
  obtain ⟨q0, q1, q2, q3⟩ := hB
  have z0 := lt_of_cell hf
  have hnn := func_nil2 fid capt
  have HN := Lib.hid hn
  have HN' := Lib.hid hn'
  have HX : Hid (orZero (spreadO R C l i j) = x ∧ (spreadO R C l i j).isSome = true) := by rw [ha]; exact ⟨rfl, rfl⟩
  have HY : Hid (orZero (spreadO R' C' l' i j) = y ∧ (spreadO R' C' l' i j).isSome = true) := by rw [hb]; exact ⟨rfl, rfl⟩
  clear hn hn' ha hb
  have HC := Lib.hid (spec.call k x y W)
  have hok := spec.ok x y hxo hyo hxr hyr
  generalize hz : oneV (t x y) = z
  have HZ := Lib.hid hz
  clear hz
  go_enter Tryz.func167, Tryz.ntmps167
  go_wp2_with fail
  refine (spread_c R C i j A n cap l _ (h.ext (by repeat (first | (with_reducible (first | exact Ext.refl _ | exact hX | exact ext_d _ _ _ _ | exact ext_app _ _ _ _ _)) | ((with_reducible refine ext_suffix ⟨_, ?_⟩); (try simp only [Array.append_assoc]); rfl) | (with_reducible (first | apply Ext.drew | apply Ext.alloc | apply Ext.more_))))) HN.out hN x true HX.out.1 HX.out.2).mono ?_; rintro e w' ⟨rfl, hb⟩; obtain ⟨os1, d1, rfl⟩ := hb.more; clear hb
  go_wp2_with fail
  refine (spread_c R' C' i j B n' cap' l' _ (h'.ext (by repeat (first | (with_reducible (first | exact Ext.refl _ | exact hX | exact ext_d _ _ _ _ | exact ext_app _ _ _ _ _)) | ((with_reducible refine ext_suffix ⟨_, ?_⟩); (try simp only [Array.append_assoc]); rfl) | (with_reducible (first | apply Ext.drew | apply Ext.alloc | apply Ext.more_))))) HN'.out hN' y true HY.out.1 HY.out.2).mono ?_; rintro e w' ⟨rfl, hb⟩; obtain ⟨os2, d2, rfl⟩ := hb.more; clear hb
  go_wp2_with fail
  refine calls_world fun W5 hW5 => ?_
  have hX : Ext W W5 := by rw [hW5]; exact by repeat (first | (with_reducible (first | exact Ext.refl _ | exact hX | exact ext_d _ _ _ _ | exact ext_app _ _ _ _ _)) | ((with_reducible refine ext_suffix ⟨_, ?_⟩); (try simp only [Array.append_assoc]); rfl) | (with_reducible (first | apply Ext.drew | apply Ext.alloc | apply Ext.more_)))
  have hr5 : W5.heap[W.heap.size]? = some (.cells #[.int .i64 0, .int .i64 0, .int .i64 0, .string ⟨#[]⟩, .bool false, .int .i64 0] 30) := by
    rw [hW5]
    exact ((by repeat (first | (with_reducible (first | exact Ext.refl _ | exact hX | exact ext_d _ _ _ _ | exact ext_app _ _ _ _ _)) | ((with_reducible refine ext_suffix ⟨_, ?_⟩); (try simp only [Array.append_assoc]); rfl) | (with_reducible (first | apply Ext.drew | apply Ext.alloc | apply Ext.more_))) : Ext (W.alloc (.cells #[.int .i64 0, .int .i64 0, .int .i64 0, .string ⟨#[]⟩, .bool false, .int .i64 0] 30)) _).block (by simp)).trans (heap_alloc_new _ _)
  clear hW5
  have hz5 := lt_of_block hr5
  refine (HC.out W5 hJ hX hs hxo hyo hxr hyr hk).mono ?_
  rintro e w1' ⟨rfl, hJ1, hst⟩
  have hr : w1'.heap[W.heap.size]? = some (.cells #[.int .i64 0, .int .i64 0, .int .i64 0, .string ⟨#[]⟩, .bool false, .int .i64 0] 30) := (hst.block W.heap.size hz5 (.inr (Nat.le_refl _))).trans hr5
  have hz : W.heap.size < w1'.heap.size := lt_of_block hr
  have u0 := cell_of_row _ _ 0 _ _ _ hr
  have u1 := cell_of_row _ _ 1 _ _ _ hr
  have u2 := cell_of_row _ _ 2 _ _ _ hr
  have u3 := cell_of_row _ _ 3 _ _ _ hr
  have u4 := cell_of_row _ _ 4 _ _ _ hr
  have u5 := cell_of_row _ _ 5 _ _ _ hr
  have f0 := frozen_of_row _ _ 0 _ _ hr
  have f1 := frozen_of_row _ _ 1 _ _ hr
  have f2 := frozen_of_row _ _ 2 _ _ hr
  have f3 := frozen_of_row _ _ 3 _ _ hr
  have f4 := frozen_of_row _ _ 4 _ _ hr
  have f5 := frozen_of_row _ _ 5 _ _ hr
  clear hr hr5
  go_wp2_with fail
  refine (sound_any _ _ _ _ _ _ _ hok.2.1 hok.2.2.2.1 z HZ.out).mono ?_
  rintro e w' ⟨rfl, hb⟩
  obtain ⟨os5, d5, rfl⟩ := hb.more
  clear hb
  go_wp2
  refine bodyPost_ret (v := VV z.kind z.mant z.exp z.text z.truth z.fault) (by simp [results, Tryz.results167, go_sem, u0, u1, u2, u3, u4, u5, hz]) rfl ⟨rfl, ?_, ?_⟩
  · have h1 : W.heap.size ≤ W.heap.size := Nat.le_refl _
    exact hJ1 _ (((((((Aside.set _ _ h1 hz5).trans (Aside.set _ _ h1 hz5)).trans (Aside.set _ _ h1 hz5)).trans (Aside.set _ _ h1 hz5)).trans (Aside.set _ _ h1 hz5)).trans (Aside.set _ _ h1 hz5)).trans (Aside.of_ext (by repeat (first | (with_reducible (first | exact Ext.refl _ | exact hX | exact ext_d _ _ _ _ | exact ext_app _ _ _ _ _)) | ((with_reducible refine ext_suffix ⟨_, ?_⟩); (try simp only [Array.append_assoc]); rfl) | (with_reducible (first | apply Ext.drew | apply Ext.alloc | apply Ext.more_))))))
  · have hq : W.heap.size ≤ W.heap.size := Nat.le_refl _
    exact (((((((Still.trans (Still.of_ext hX) hst).set _ hq).set _ hq).set _ hq).set _ hq).set _ hq).set _ hq).trans (Still.of_ext (by repeat (first | (with_reducible (first | exact Ext.refl _ | exact hX | exact ext_d _ _ _ _ | exact ext_app _ _ _ _ _)) | ((with_reducible refine ext_suffix ⟨_, ?_⟩); (try simp only [Array.append_assoc]); rfl) | (with_reducible (first | apply Ext.drew | apply Ext.alloc | apply Ext.more_)))))
end Go.Proofs.YtkcoikelcmpceaaGreatDoor
namespace Go.Proofs.YtkcoikelcmpceaaGreatDoor
open Go.RowKit
def cntB (g : Nat → Nat → Nat) (C k : Nat) : Nat := ((List.range k).map fun t => g (t / C) (t % C)).sum
theorem cntB_succ (g : Nat → Nat → Nat) (C i j : Nat) (hj : j < C) : cntB g C (i * C + j + 1) = cntB g C (i * C + j) + g i j := by
  unfold cntB
  rw [List.range_succ, List.map_append, List.sum_append]
  have h1 : (i * C + j) / C = i := by rw [Nat.add_comm, Nat.add_mul_div_right _ _ (by omega), Nat.div_eq_of_lt hj]; omega
  have h2 : (i * C + j) % C = j := by rw [Nat.add_comm, Nat.add_mul_mod_self_right, Nat.mod_eq_of_lt hj]
  simp [h1, h2]
theorem cntB_le {g : Nat → Nat → Nat} (hg : ∀ i j, g i j ≤ 1) (C : Nat) : ∀ k, cntB g C k ≤ k
  | 0 => by simp [cntB]
  | k + 1 => by
    have ih := cntB_le hg C k
    unfold cntB at *
    rw [List.range_succ, List.map_append, List.sum_append]
    have := hg (k / C) (k % C)
    simp
    omega
theorem bothN_le (a b : Option Val) : bothN a b ≤ 1 := by unfold bothN; split <;> omega
theorem ABox.of_block {pb : Nat} {r c : Int} {A : Option Addr} {n cap : Nat} {W : World} (h : W.heap[pb]? = some (.cells #[.int .i64 r, .int .i64 c, .slice A n cap] 33)) : ABox pb r c A n cap W :=
  ⟨lt_of_block h, cell_of_row _ _ 0 _ _ _ h, cell_of_row _ _ 1 _ _ _ h, cell_of_row _ _ 2 _ _ _ h⟩
def bothG (R C : Nat) (l : List Val) (R' C' : Nat) (l' : List Val) (i j : Nat) : Nat := bothN (spreadO R C l i j) (spreadO R' C' l' i j)
def bothL (t : Val → Val → Val) (R C : Nat) (l : List Val) (R' C' : Nat) (l' : List Val) : List Val := vals (fun i j => bothV t (spreadO R C l i j) (spreadO R' C' l' i j)) (max C C') (max R R' * max C C')
set_option maxHeartbeats 2000000 in
theorem both_yes (R C R' C' n cap n' cap' pa : Nat) (A B : Option Addr) (l l' : List Val) (fid : FuncId) (capt : Array Value) (t : Val → Val → Val) (Js : Nat → Nat → World → Prop) (w : World) (h : ArrIn w A n cap l) (h' : ArrIn w B n' cap' l') (hr : rightA R C l = true) (hr' : rightA R' C' l' = true) (hf : max R R' * max C C' ≤ 4096) (hpa : pa < w.heap.size) (hA : ∀ b off, A = some ⟨b, off, none⟩ → b ≠ pa) (hB : ∀ b off, B = some ⟨b, off, none⟩ → b ≠ pa)
    (hent : ∀ (args : Array Value) (W : World), (callFunc fid args).run Tryz.prog W = .ok (.enter fid args) W) (spec : ∀ s0, w.heap.size ≤ s0 → FSpec2 fid capt t w.heap.size (s0 + 3) pa (Js s0)) (hJ0 : ∀ s0, w.heap.size ≤ s0 → Js s0 0 w) :
    Calls Tryz.prog 123 #[AV R C (.slice A n cap), AV R' C' (.slice B n' cap'), .func (.func fid) #[] capt] w fun e w' => ∃ D c s0, e = .returned (AV (max R R' : Nat) (max C C' : Nat) (.slice D (max R R' * max C C') c)) ∧ SlV w.heap.size w' D (bothL t R C l R' C' l') ∧ max R R' * max C C' ≤ c ∧ w.heap.size ≤ s0 ∧ Js s0 (cntB (bothG R C l R' C' l') (max C C') (max R R' * max C C')) w' ∧ ExtBut pa w w' := by
  obtain ⟨r1, r2, r3, r4, r5, r6⟩ := right_bd hr
  obtain ⟨s1, s2, s3, s4, s5, s6⟩ := right_bd hr'
  have HRR := Lib.hid (And.intro (rightA_nat.1 hr).2.2.2.2 (rightA_nat.1 hr').2.2.2.2)
  have hln := h.len
  have hln' := h'.len
  have HN := Lib.hid (And.intro (show n = R * C by omega) (show n' = R' * C' by omega))
  have hN : n ≤ 4096 := by omega
  have hN' : n' ≤ 4096 := by omega
  have HL := Lib.hid (And.intro r4 s4)
  have HCM : Hid ((commonO R C R' C').getD (0, 0) = (max R R', max C C') ∧ (commonO R C R' C').isSome = true) := by show _ ∧ _; simp [commonO, hf]
  unfold bothL
  have hm1 : 1 ≤ max R R' := by omega
  have hm2 : 1 ≤ max C C' := by omega
  have hm3 : max R R' ≤ 4096 := by omega
  have hm4 : max C C' ≤ 4096 := by omega
  generalize max R R' = M at *
  generalize max C C' = N at *
  clear r3 r4 s3 s4 hln hln'
  have HS := Lib.hid spec
  have HJ := Lib.hid hJ0
  have HA := Lib.hid (And.intro hA hB)
  clear spec hJ0 hA hB
  go_enter Tryz.func123, Tryz.ntmps123
  go_wp2_with fail
  refine (right_any _ _ _ _ _ _ _ (h.ext (by repeat (first | (with_reducible (first | exact Ext.refl _ | exact hX | exact ext_d _ _ _ _ | exact ext_app _ _ _ _ _)) | ((with_reducible refine ext_suffix ⟨_, ?_⟩); (try simp only [Array.append_assoc]); rfl) | (with_reducible (first | apply Ext.drew | apply Ext.alloc | apply Ext.more_)))))).mono ?_; rintro e w' ⟨rfl, hb⟩; obtain ⟨os1, d1, rfl⟩ := hb.more; clear hb
  go_wp2_with fail
  refine (right_any _ _ _ _ _ _ _ (h'.ext (by repeat (first | (with_reducible (first | exact Ext.refl _ | exact hX | exact ext_d _ _ _ _ | exact ext_app _ _ _ _ _)) | ((with_reducible refine ext_suffix ⟨_, ?_⟩); (try simp only [Array.append_assoc]); rfl) | (with_reducible (first | apply Ext.drew | apply Ext.alloc | apply Ext.more_)))))).mono ?_; rintro e w' ⟨rfl, hb⟩; obtain ⟨os2, d2, rfl⟩ := hb.more; clear hb
  go_wp2_with fail
  refine (common_c R C R' C' _ _ _ _ _ _ l l' _ (h.ext (by repeat (first | (with_reducible (first | exact Ext.refl _ | exact hX | exact ext_d _ _ _ _ | exact ext_app _ _ _ _ _)) | ((with_reducible refine ext_suffix ⟨_, ?_⟩); (try simp only [Array.append_assoc]); rfl) | (with_reducible (first | apply Ext.drew | apply Ext.alloc | apply Ext.more_))))) (h'.ext (by repeat (first | (with_reducible (first | exact Ext.refl _ | exact hX | exact ext_d _ _ _ _ | exact ext_app _ _ _ _ _)) | ((with_reducible refine ext_suffix ⟨_, ?_⟩); (try simp only [Array.append_assoc]); rfl) | (with_reducible (first | apply Ext.drew | apply Ext.alloc | apply Ext.more_))))) hr hr' M N true HCM.out.1 HCM.out.2).mono ?_; rintro e w' ⟨rfl, hb⟩; obtain ⟨os3, d3, rfl⟩ := hb.more; clear hb
  go_wp2_with fail
  refine calls_world fun W hW => ?_
  have hX : Ext w W := by rw [hW]; exact by repeat (first | (with_reducible (first | exact Ext.refl _ | exact hX | exact ext_d _ _ _ _ | exact ext_app _ _ _ _ _)) | ((with_reducible refine ext_suffix ⟨_, ?_⟩); (try simp only [Array.append_assoc]); rfl) | (with_reducible (first | apply Ext.drew | apply Ext.alloc | apply Ext.more_)))
  have hbx : W.heap[w.heap.size]? = some (.cells #[.int .i64 R, .int .i64 C, .slice A n cap] 33) := by
    rw [hW, (ext_more _ _ _).block (by first | (simp; done) | (simp; omega) | omega), Below.heap_alloc _ _ _ (by first | (simp; done) | (simp; omega) | omega), Below.heap_alloc _ _ _ (by first | (simp; done) | (simp; omega) | omega), Below.heap_alloc _ _ _ (by first | (simp; done) | (simp; omega) | omega)]
    exact heap_alloc_new _ _
  have hby : W.heap[w.heap.size + 1]? = some (.cells #[.int .i64 R', .int .i64 C', .slice B n' cap'] 33) := by
    rw [hW, (ext_more _ _ _).block (by first | (simp; done) | (simp; omega) | omega), Below.heap_alloc _ _ _ (by first | (simp; done) | (simp; omega) | omega), Below.heap_alloc _ _ _ (by first | (simp; done) | (simp; omega) | omega)]
    have := heap_alloc_new (w.alloc (.cells #[.int .i64 R, .int .i64 C, .slice A n cap] 33)) (.cells #[.int .i64 R', .int .i64 C', .slice B n' cap'] 33)
    simpa using this
  have hfx : W.heap[w.heap.size + 1 + 1]? = some (.cells #[.func (.func fid) #[] capt] 88) := by
    rw [hW, (ext_more _ _ _).block (by first | (simp; done) | (simp; omega) | omega), Below.heap_alloc _ _ _ (by first | (simp; done) | (simp; omega) | omega)]
    have := heap_alloc_new ((w.alloc (.cells #[.int .i64 R, .int .i64 C, .slice A n cap] 33)).alloc (.cells #[.int .i64 R', .int .i64 C', .slice B n' cap'] 33)) (.cells #[.func (.func fid) #[] capt] 88)
    simpa using this
  have hrx : W.heap[w.heap.size + 1 + 1 + 1]? = some (.cells #[.int .i64 0, .int .i64 0, .slice none 0 0] 33) := by
    rw [hW, (ext_more _ _ _).block (by first | (simp; done) | (simp; omega) | omega)]
    have := heap_alloc_new (((w.alloc (.cells #[.int .i64 R, .int .i64 C, .slice A n cap] 33)).alloc (.cells #[.int .i64 R', .int .i64 C', .slice B n' cap'] 33)).alloc (.cells #[.func (.func fid) #[] capt] 88)) (.cells #[.int .i64 0, .int .i64 0, .slice none 0 0] 33)
    simpa using this
  clear hW
  have hws := hX.size
  have sp := HS.out W.heap.size hws
  have z0 := lt_of_block hrx
  refine (build_any M N 167 #[.pointer (some ⟨w.heap.size, 0, none⟩), .pointer (some ⟨w.heap.size + 1, 0, none⟩), .pointer (some ⟨w.heap.size + 1 + 1, 0, none⟩)] (fun i j => bothV t (spreadO R C l i j) (spreadO R' C' l' i j)) W (fun k V => Js W.heap.size (cntB (bothG R C l R' C' l') N k) V ∧ ExtBut pa W V) hm1 hm2 hf hm3 hm4 (fun _ _ => by kernel_rfl) ⟨?_, ?_⟩ ?_ ?_).mono ?_
  · exact sp.ext _ _ _ hX (HJ.out _ hws)
  · exact ExtBut.of_ext (Ext.refl _)
  · rintro k V V' hk ⟨g1, g2⟩
    refine ⟨sp.keep _ _ _ (by simpa using hk) g1, hk.os.trans g2.os, hk.tape.trans g2.tape, hk.output.trans g2.output, Nat.le_trans g2.size hk.size, fun b hb hne => ?_⟩
    exact (hk.block b (Nat.lt_of_lt_of_le hb g2.size) (by omega) (by omega) (by omega)).trans (g2.block b hb hne)
  · rintro i j V hi hj ⟨g1, g2⟩ hsz
    have hkk := cell_prod M hi hj hf
    have hcl := cntB_le (g := bothG R C l R' C' l') (fun _ _ => bothN_le _ _) N (i * N + j)
    have cA := ABox.of_block ((g2.block w.heap.size (by omega) (by omega)).trans hbx)
    have cB := ABox.of_block ((g2.block (w.heap.size + 1) (by omega) (by omega)).trans hby)
    have cF := cell_of_row _ _ 0 _ _ _ ((g2.block (w.heap.size + 1 + 1) (by omega) (by omega)).trans hfx)
    have aA := (h.ext hX).but g2 HA.out.1
    have aB := (h'.ext hX).but g2 HA.out.2
    have fin : ∀ V', Js W.heap.size (cntB (bothG R C l R' C' l') N (i * N + j) + bothG R C l R' C' l' i j) V' → Still (W.heap.size + 3) pa V V V' → (Js W.heap.size (cntB (bothG R C l R' C' l') N (i * N + j + 1)) V' ∧ ExtBut pa W V') ∧ Leaves W.heap.size V V' := by
      intro V' hJ1 hst
      refine ⟨⟨by rw [cntB_succ _ _ _ _ hj]; exact hJ1, ⟨hst.os.trans g2.os, hst.tape.trans g2.tape, hst.output.trans g2.output, Nat.le_trans g2.size hst.size, fun b' hb' hne => (hst.block b' (Nat.lt_of_lt_of_le hb' g2.size) (.inl ⟨by omega, hne⟩)).trans (g2.block b' hb' hne)⟩⟩, ?_⟩
      exact ⟨hst.size, hst.block _ (by omega) (.inl ⟨by omega, by omega⟩), hst.block _ (by omega) (.inl ⟨by omega, by omega⟩), hst.block _ (by omega) (.inl ⟨by omega, by omega⟩)⟩
    have non : (spreadO R C l i j = none ∨ spreadO R' C' l' i j = none) → bothV t (spreadO R C l i j) (spreadO R' C' l' i j) = badV 6 ∧ bothG R C l R' C' l' i j = 0 := by
      intro hno
      unfold bothG bothN bothV
      rcases hno with e | e
      · rw [e]; simp
      · rw [e]; cases spreadO R C l i j <;> simp
    have nonc : (spreadO R C l i j = none ∨ spreadO R' C' l' i j = none) → Calls Tryz.prog 167 (#[.int .i64 i, .int .i64 j] ++ #[.pointer (some ⟨w.heap.size, 0, none⟩), .pointer (some ⟨w.heap.size + 1, 0, none⟩), .pointer (some ⟨w.heap.size + 1 + 1, 0, none⟩)]) V fun e W' => e = .returned (VV (bothV t (spreadO R C l i j) (spreadO R' C' l' i j)).kind (bothV t (spreadO R C l i j) (spreadO R' C' l' i j)).mant (bothV t (spreadO R C l i j) (spreadO R' C' l' i j)).exp (bothV t (spreadO R C l i j) (spreadO R' C' l' i j)).text (bothV t (spreadO R C l i j) (spreadO R' C' l' i j)).truth (bothV t (spreadO R C l i j) (spreadO R' C' l' i j)).fault) ∧ (Js W.heap.size (cntB (bothG R C l R' C' l') N (i * N + j + 1)) W' ∧ ExtBut pa W W') ∧ Leaves W.heap.size V W' := by
      intro hno
      obtain ⟨e1, e2⟩ := non hno
      refine (both1_none R C R' C' i j n cap n' cap' w.heap.size (w.heap.size + 1) (w.heap.size + 1 + 1) A B l l' V cA cB aA aB HN.out.1 HN.out.2 hN hN' hno).mono ?_
      rintro e V' ⟨rfl, hxx⟩
      rw [e1]
      exact ⟨rfl, fin V' (by rw [e2]; exact sp.ext _ _ _ hxx g1) (Still.of_ext hxx)⟩
    cases ha : spreadO R C l i j with
    | none => rw [← ha]; exact nonc (.inl ha)
    | some x =>
      cases hb : spreadO R' C' l' i j with
      | none => rw [← ha, ← hb]; exact nonc (.inr hb)
      | some y =>
        refine (both1_some fid capt t w.heap.size W.heap.size pa (Js W.heap.size) sp hent R C R' C' i j n cap n' cap' w.heap.size (w.heap.size + 1) (w.heap.size + 1 + 1) (cntB (bothG R C l R' C' l') N (i * N + j)) A B l l' x y V cA cB cF aA aB HN.out.1 HN.out.2 hN hN' g1 hsz (by omega) ha hb (spread_ok HL.out.1 h.ok ha) (spread_ok HL.out.2 h'.ok hb) (spread_all HL.out.1 HRR.out.1 ha) (spread_all HL.out.2 HRR.out.2 hb)).mono ?_
        rintro e V' ⟨he, hJ1, hst⟩
        have e2 : bothG R C l R' C' l' i j = 1 := by unfold bothG bothN; rw [ha, hb]; rfl
        exact ⟨he, fin V' (by rw [e2]; exact hJ1) hst⟩
  rintro e w' ⟨D, c, rfl, hs, hc, g1, g2⟩
  have hr1 : w'.heap[w.heap.size + 1 + 1 + 1]? = some (.cells #[.int .i64 0, .int .i64 0, .slice none 0 0] 33) := (g2.block _ (by omega) (by omega)).trans hrx
  have q0 := cell_of_row _ _ 0 _ _ _ hr1
  have q1 := cell_of_row _ _ 1 _ _ _ hr1
  have q2 := cell_of_row _ _ 2 _ _ _ hr1
  have f0 := frozen_of_row _ _ 0 _ _ hr1
  have f1 := frozen_of_row _ _ 1 _ _ hr1
  have f2 := frozen_of_row _ _ 2 _ _ hr1
  have hg2 := Lib.hid g2
  clear g2 hbx hby hfx hrx
  go_wp2
  refine bodyPost_ret (v := AV M N (.slice D (M * N) c)) (by simp [results, Tryz.results123, go_sem, q0, q1, q2]) rfl ⟨D, c, W.heap.size, rfl, ?_, hc, hws, ?_, ?_⟩
  · exact Rd.mono (((hs.set_far _ (by simp; omega)).set_far _ (by simp; omega)).set_far _ (by simp; omega)) (by omega)
  · exact sp.far _ _ _ _ (by simp only; omega) (by simp only; omega) (sp.far _ _ _ _ (by simp only; omega) (by simp only; omega) (sp.far _ _ _ _ (by simp only; omega) (by simp only; omega) g1))
  · exact ((((ExtBut.of_ext hX).trans hg2.out).set _ (by simp only; omega)).set _ (by simp only; omega)).set _ (by simp only; omega)
end Go.Proofs.YtkcoikelcmpceaaGreatDoor
namespace Go.Proofs.YtkcoikelcmpceaaGreatDoor
open Go.RowKit
set_option maxHeartbeats 800000 in
theorem both_no (fid : FuncId) (capt : Array Value) (r c r' c' : Int) (A B : Option Addr) (n cap n' cap' : Nat) (l l' : List Val) (w : World) (h : ArrIn w A n cap l) (h' : ArrIn w B n' cap' l') (hr : (rightA r c l && rightA r' c' l') = false) : Calls Tryz.prog 123 #[AV r c (.slice A n cap), AV r' c' (.slice B n' cap'), .func (.func fid) #[] capt] w fun e w' => ArrO w.heap.size w' e 1 1 [bad9] ∧ Ext w w' := by (by_cases h1 : rightA r c l = true); (focus (have h2 : rightA r' c' l' = false := (by simpa [h1] using hr)); clear hr; go_enter Tryz.func123, Tryz.ntmps123; go_wp2_with fail; refine (right_any _ _ _ _ _ _ _ (h.ext (by repeat (first | (with_reducible (first | exact Ext.refl _ | exact hX | exact ext_d _ _ _ _ | exact ext_app _ _ _ _ _)) | ((with_reducible refine ext_suffix ⟨_, ?_⟩); (try simp only [Array.append_assoc]); rfl) | (with_reducible (first | apply Ext.drew | apply Ext.alloc | apply Ext.more_)))))).mono ?_; rintro e w' ⟨rfl, hb⟩; obtain ⟨os1, d1, rfl⟩ := hb.more; clear hb; go_wp2_with fail; refine (right_any _ _ _ _ _ _ _ (h'.ext (by repeat (first | (with_reducible (first | exact Ext.refl _ | exact hX | exact ext_d _ _ _ _ | exact ext_app _ _ _ _ _)) | ((with_reducible refine ext_suffix ⟨_, ?_⟩); (try simp only [Array.append_assoc]); rfl) | (with_reducible (first | apply Ext.drew | apply Ext.alloc | apply Ext.more_)))))).mono ?_; rintro e w' ⟨rfl, hb⟩; obtain ⟨os2, d2, rfl⟩ := hb.more; clear hb; go_wp2_with fail; refine (broken_any _).mono ?_; rintro e w' ⟨⟨D, cc, rfl, hs, hc⟩, hb⟩; obtain ⟨os9, d9, rfl⟩ := hb.more; clear hb; go_wp2; exact bodyPost_ret (v := AV 1 1 (.slice D 1 cc)) (by simp [results, Tryz.results123, go_sem]) rfl ⟨⟨_, _, rfl, (by (try simp only [more_more] at hs); (try simp only [drew_more] at hs); (try simp only [more_drew] at hs); (try simp only [Array.append_assoc] at hs); exact Rd.swap hs (by first | (simp; done) | (simp; omega) | omega) (by first | (simp; done) | (simp; omega) | omega) (by first | (simp; done) | (simp; omega) | omega)), hc⟩, by repeat (first | (with_reducible (first | exact Ext.refl _ | exact hX | exact ext_d _ _ _ _ | exact ext_app _ _ _ _ _)) | ((with_reducible refine ext_suffix ⟨_, ?_⟩); (try simp only [Array.append_assoc]); rfl) | (with_reducible (first | apply Ext.drew | apply Ext.alloc | apply Ext.more_)))⟩); (have h1' : rightA r c l = false := (by simpa using h1)); clear hr h1; go_enter Tryz.func123, Tryz.ntmps123; go_wp2_with fail; refine (right_any _ _ _ _ _ _ _ (h.ext (by repeat (first | (with_reducible (first | exact Ext.refl _ | exact hX | exact ext_d _ _ _ _ | exact ext_app _ _ _ _ _)) | ((with_reducible refine ext_suffix ⟨_, ?_⟩); (try simp only [Array.append_assoc]); rfl) | (with_reducible (first | apply Ext.drew | apply Ext.alloc | apply Ext.more_)))))).mono ?_; rintro e w' ⟨rfl, hb⟩; obtain ⟨os1, d1, rfl⟩ := hb.more; clear hb; go_wp2_with fail; refine (broken_any _).mono ?_; rintro e w' ⟨⟨D, cc, rfl, hs, hc⟩, hb⟩; obtain ⟨os9, d9, rfl⟩ := hb.more; clear hb; go_wp2; exact bodyPost_ret (v := AV 1 1 (.slice D 1 cc)) (by simp [results, Tryz.results123, go_sem]) rfl ⟨⟨_, _, rfl, (by (try simp only [more_more] at hs); (try simp only [drew_more] at hs); (try simp only [more_drew] at hs); (try simp only [Array.append_assoc] at hs); exact Rd.swap hs (by first | (simp; done) | (simp; omega) | omega) (by first | (simp; done) | (simp; omega) | omega) (by first | (simp; done) | (simp; omega) | omega)), hc⟩, by repeat (first | (with_reducible (first | exact Ext.refl _ | exact hX | exact ext_d _ _ _ _ | exact ext_app _ _ _ _ _)) | ((with_reducible refine ext_suffix ⟨_, ?_⟩); (try simp only [Array.append_assoc]); rfl) | (with_reducible (first | apply Ext.drew | apply Ext.alloc | apply Ext.more_)))⟩
set_option maxHeartbeats 800000 in
theorem both_great (fid : FuncId) (capt : Array Value) (R C R' C' : Nat) (A B : Option Addr) (n cap n' cap' : Nat) (l l' : List Val) (w : World) (h : ArrIn w A n cap l) (h' : ArrIn w B n' cap' l') (hr : rightA R C l = true) (hr' : rightA R' C' l' = true) (hf : ¬ max R R' * max C C' ≤ 4096) : Calls Tryz.prog 123 #[AV R C (.slice A n cap), AV R' C' (.slice B n' cap'), .func (.func fid) #[] capt] w fun e w' => ArrO w.heap.size w' e 1 1 [badV 5] ∧ Ext w w' := by (have HCM : Hid ((commonO R C R' C').getD (0, 0) = (0, 0) ∧ (commonO R C R' C').isSome = false) := (by show _ ∧ _; simp [commonO, hf])); clear hf; go_enter Tryz.func123, Tryz.ntmps123; go_wp2_with fail; refine (right_any _ _ _ _ _ _ _ (h.ext (by repeat (first | (with_reducible (first | exact Ext.refl _ | exact hX | exact ext_d _ _ _ _ | exact ext_app _ _ _ _ _)) | ((with_reducible refine ext_suffix ⟨_, ?_⟩); (try simp only [Array.append_assoc]); rfl) | (with_reducible (first | apply Ext.drew | apply Ext.alloc | apply Ext.more_)))))).mono ?_; rintro e w' ⟨rfl, hb⟩; obtain ⟨os1, d1, rfl⟩ := hb.more; clear hb; go_wp2_with fail; refine (right_any _ _ _ _ _ _ _ (h'.ext (by repeat (first | (with_reducible (first | exact Ext.refl _ | exact hX | exact ext_d _ _ _ _ | exact ext_app _ _ _ _ _)) | ((with_reducible refine ext_suffix ⟨_, ?_⟩); (try simp only [Array.append_assoc]); rfl) | (with_reducible (first | apply Ext.drew | apply Ext.alloc | apply Ext.more_)))))).mono ?_; rintro e w' ⟨rfl, hb⟩; obtain ⟨os2, d2, rfl⟩ := hb.more; clear hb; go_wp2_with fail; refine (common_c R C R' C' _ _ _ _ _ _ l l' _ (h.ext (by repeat (first | (with_reducible (first | exact Ext.refl _ | exact hX | exact ext_d _ _ _ _ | exact ext_app _ _ _ _ _)) | ((with_reducible refine ext_suffix ⟨_, ?_⟩); (try simp only [Array.append_assoc]); rfl) | (with_reducible (first | apply Ext.drew | apply Ext.alloc | apply Ext.more_))))) (h'.ext (by repeat (first | (with_reducible (first | exact Ext.refl _ | exact hX | exact ext_d _ _ _ _ | exact ext_app _ _ _ _ _)) | ((with_reducible refine ext_suffix ⟨_, ?_⟩); (try simp only [Array.append_assoc]); rfl) | (with_reducible (first | apply Ext.drew | apply Ext.alloc | apply Ext.more_))))) hr hr' 0 0 false HCM.out.1 HCM.out.2).mono ?_; rintro e w' ⟨rfl, hb⟩; obtain ⟨os3, d3, rfl⟩ := hb.more; clear hb; go_wp2_with fail; refine (tooGreat_any _).mono ?_; rintro e w' ⟨⟨D, cc, rfl, hs, hc⟩, hb⟩; obtain ⟨os9, d9, rfl⟩ := hb.more; clear hb; go_wp2; exact bodyPost_ret (v := AV 1 1 (.slice D 1 cc)) (by simp [results, Tryz.results123, go_sem]) rfl ⟨⟨_, _, rfl, (by (try simp only [more_more] at hs); (try simp only [drew_more] at hs); (try simp only [more_drew] at hs); (try simp only [Array.append_assoc] at hs); exact Rd.swap hs (by first | (simp; done) | (simp; omega) | omega) (by first | (simp; done) | (simp; omega) | omega) (by first | (simp; done) | (simp; omega) | omega)), hc⟩, by repeat (first | (with_reducible (first | exact Ext.refl _ | exact hX | exact ext_d _ _ _ _ | exact ext_app _ _ _ _ _)) | ((with_reducible refine ext_suffix ⟨_, ?_⟩); (try simp only [Array.append_assoc]); rfl) | (with_reducible (first | apply Ext.drew | apply Ext.alloc | apply Ext.more_)))⟩
/-- What Both comes to. -/
def bothRes (t : Val → Val → Val) (r c : Int) (l : List Val) (r' c' : Int) (l' : List Val) : NA :=
  if rightA r c l && rightA r' c' l' then
    if max r.toNat r'.toNat * max c.toNat c'.toNat ≤ 4096 then ⟨max r.toNat r'.toNat, max c.toNat c'.toNat, bothL t r.toNat c.toNat l r'.toNat c'.toNat l'⟩ else ⟨1, 1, [badV 5]⟩
  else ⟨1, 1, [bad9]⟩
theorem bothL_ok {t : Val → Val → Val} (ht : ∀ x y, x.ok → y.ok → valRight x = true → valRight y = true → (t x y).ok) {R C R' C' : Nat} {l l' : List Val} (hl : l.length = R * C) (hl' : l'.length = R' * C') (h : ∀ x ∈ l, x.ok) (h' : ∀ x ∈ l', x.ok) (g : ∀ x ∈ l, valRight x = true) (g' : ∀ x ∈ l', valRight x = true) : ∀ x ∈ bothL t R C l R' C' l', x.ok := by
  intro x hx
  obtain ⟨i, j, rfl⟩ := vals_mem hx
  unfold bothV
  split
  · rename_i x y e1 e2
    exact oneV_ok (ht _ _ (spread_ok hl h e1) (spread_ok hl' h' e2) (spread_all hl g e1) (spread_all hl' g' e2)) _ (by simp)
  · exact badV_ok 6 I64_6
theorem bothL_length (t : Val → Val → Val) (R C : Nat) (l : List Val) (R' C' : Nat) (l' : List Val) : (bothL t R C l R' C' l').length = max R R' * max C C' := vals_length _ _ _
end Go.Proofs.YtkcoikelcmpceaaGreatDoor
namespace Go.Proofs.YtkcoikelcmpceaaGreatDoor
open Go.RowKit NM
theorem Low.tab {w W : World} (h : Low w W) (ht : Tab w) : Tab W := by
  unfold Tab Lib.TabIs World.var? at *
  cases hg : Tryz.prog.globalNamed "internal/strconv.uint64pow10" with
  | none => simp [hg] at ht
  | some g =>
    simp only [hg, Option.bind_some] at ht ⊢
    have hlt : g < w.heap.size := by
      rcases Nat.lt_or_ge g w.heap.size with h' | h'
      · exact h'
      · rw [Array.getElem?_eq_none h'] at ht; cases ht
    rw [h g hlt]; exact ht
/-- A function that keeps nothing, as Both asks it. -/
theorem low_spec {fid : FuncId} {capt : Array Value} {t : Val → Val → Val} {w : World}
    (hsp : ∀ x y W, Low w W → x.ok → y.ok → valRight x = true → valRight y = true → Calls Tryz.prog fid (#[VV x.kind x.mant x.exp x.text x.truth x.fault, VV y.kind y.mant y.exp y.text y.truth y.fault] ++ capt) W fun e W' => e = .returned (VV (t x y).kind (t x y).mant (t x y).exp (t x y).text (t x y).truth (t x y).fault) ∧ Ext W W')
    (hok : ∀ x y, valRight x = true → valRight y = true → (t x y).ok) (s0 pa : Nat) (hs : w.heap.size ≤ s0) :
    FSpec2 fid capt t w.heap.size (s0 + 3) pa (fun _ W => Low w W) := by
  refine ⟨fun _ W W' hx h => h.ext hx, fun _ W W' hk h b hb => ?_, fun k x y W0 W h hx hlo hxo hyo hxr hyr hk => ?_, fun x y _ _ h1 h2 => hok x y h1 h2, fun _ W p v h1 _ h b hb => ?_⟩
  · rw [Nat.add_sub_cancel] at hk
    rw [hk.block b (h.lt hb) (by omega) (by omega) (by omega)]; exact h b hb
  · have h1 := h.ext hx
    refine (hsp x y W h1 hxo hyo hxr hyr).mono ?_
    rintro e W' ⟨he, hX⟩
    refine ⟨he, fun W'' hk' b hb => ?_, Still.of_ext hX⟩
    have h2 := h1.ext hX
    rw [hk'.block b (h2.lt hb) (by have := h.lt hb; omega)]; exact h2 b hb
  · rw [Below.heap_setCell _ _ _ _ (by omega)]; exact h b hb
theorem both_low {fid : FuncId} {capt : Array Value} {t : Val → Val → Val} (w : World) (pa : Nat) (hpa : pa < w.heap.size)
    (hsp : ∀ x y W, Low w W → x.ok → y.ok → valRight x = true → valRight y = true → Calls Tryz.prog fid (#[VV x.kind x.mant x.exp x.text x.truth x.fault, VV y.kind y.mant y.exp y.text y.truth y.fault] ++ capt) W fun e W' => e = .returned (VV (t x y).kind (t x y).mant (t x y).exp (t x y).text (t x y).truth (t x y).fault) ∧ Ext W W')
    (hok : ∀ x y, valRight x = true → valRight y = true → (t x y).ok) (hent : ∀ (args : Array Value) (W : World), (callFunc fid args).run Tryz.prog W = .ok (.enter fid args) W) (r c r' c' : Int) (A B : Option Addr) (n cap n' cap' : Nat) (l l' : List Val) (h : ArrIn w A n cap l) (h' : ArrIn w B n' cap' l')
    (hA : 0 < n → ∀ b off, A = some ⟨b, off, none⟩ → b ≠ pa) (hB : 0 < n' → ∀ b off, B = some ⟨b, off, none⟩ → b ≠ pa) (x : NA) (hx : bothRes t r c l r' c' l' = x) :
    Calls Tryz.prog 123 #[AV r c (.slice A n cap), AV r' c' (.slice B n' cap'), .func (.func fid) #[] capt] w fun e w' => ∃ D m cc, e = .returned (AV x.R x.C (.slice D m cc)) ∧ ArrN w.heap.size w' D m cc x.l ∧ Ext w w' := by
  cases hr : (rightA r c l && rightA r' c' l') with
  | false =>
    obtain rfl : x = ⟨1, 1, [bad9]⟩ := by rw [← hx]; simp [bothRes, hr]
    refine (both_no fid _ r c r' c' A B n cap n' cap' l l' w h h' hr).mono ?_
    rintro e w' ⟨⟨D, cc, rfl, hs, hc⟩, hX⟩
    exact ⟨D, 1, cc, rfl, ⟨hs, rfl, hc, by omega, by simpa using bad9_ok⟩, hX⟩
  | true =>
    have hr2 := hr
    simp only [Bool.and_eq_true] at hr2
    obtain ⟨h1, h2⟩ := hr2
    obtain ⟨R, C, rfl, rfl, _⟩ := right_parts h1
    obtain ⟨R', C', rfl, rfl, _⟩ := right_parts h2
    by_cases hf : max R R' * max C C' ≤ 4096
    · obtain rfl : x = ⟨max R R', max C C', bothL t R C l R' C' l'⟩ := by rw [← hx]; simp [bothRes, h1, h2, hf]
      have e1 : 0 < n := by
        obtain ⟨q1, q2, _, q4, _, _⟩ := right_bd h1
        have := Nat.mul_le_mul q1 q2; have := h.len; omega
      have e2 : 0 < n' := by
        obtain ⟨q1, q2, _, q4, _, _⟩ := right_bd h2
        have := Nat.mul_le_mul q1 q2; have := h'.len; omega
      refine (both_yes R C R' C' n cap n' cap' pa A B l l' fid capt t (fun _ _ W => Low w W) w h h' h1 h2 hf hpa (hA e1) (hB e2) hent (fun s0 hs => low_spec hsp hok s0 pa hs) (fun _ _ => Low.refl w)).mono ?_
      rintro e w' ⟨D, cc, s0, rfl, hs, hc, hs0, hJ, hbut⟩
      obtain ⟨_, _, _, q4, _, _⟩ := right_bd h1
      obtain ⟨_, _, _, u4, _, _⟩ := right_bd h2
      exact ⟨D, _, cc, rfl, ⟨hs, bothL_length _ _ _ _ _ _ _, hc, by omega, bothL_ok (fun x y _ _ a b => hok x y a b) q4 u4 h.ok h'.ok (rightA_nat.1 h1).2.2.2.2 (rightA_nat.1 h2).2.2.2.2⟩, ⟨hbut.os, hbut.tape, hbut.output, hbut.size, fun b hb => hJ b hb⟩⟩
    · obtain rfl : x = ⟨1, 1, [badV 5]⟩ := by rw [← hx]; simp [bothRes, h1, h2, hf]
      refine (both_great fid _ R C R' C' A B n cap n' cap' l l' w h h' h1 h2 hf).mono ?_
      rintro e w' ⟨⟨D, cc, rfl, hs, hc⟩, hX⟩
      exact ⟨D, 1, cc, rfl, ⟨hs, rfl, hc, by omega, by simpa using badV_ok 5 ⟨by omega, by omega⟩⟩, hX⟩
theorem below_block {w : World} {A : Option Addr} {n cap : Nat} {l : List Val} (h : ArrIn w A n cap l) {pb : Nat} (hp : w.heap.size ≤ pb) : 0 < n → ∀ b off, A = some ⟨b, off, none⟩ → b ≠ pb := by
  intro hn b off e
  obtain ⟨b', off', e', hv, _⟩ := h.get (k := 0) hn
  rw [e] at e'
  simp only [Option.some.injEq, Addr.mk.injEq, and_true] at e'
  have := hv.lt
  omega
theorem Low.pre {w W V : World} (hx : Ext w W) (h : Low W V) : Low w V := fun b hb => (h b (Nat.lt_of_lt_of_le hb hx.size)).trans (hx.block hb)
end Go.Proofs.YtkcoikelcmpceaaGreatDoor
namespace Go.Proofs.YtkcoikelcmpceaaGreatDoor
open Go.RowKit NM
theorem koneV {x : Val} (h : x.right) : oneV x = x := by unfold oneV; rw [if_pos (show valRight x = true from h)]
theorem right_modN {a b : Nm} : (modN a b).right := by
  unfold modN
  split
  · exact right_badV ⟨by omega, by omega⟩
  · split
    · exact right_badV ⟨by omega, by omega⟩
    · split
      · exact right_badV ⟨by omega, by omega⟩
      · exact right_res fun p hp => subS_rt hp
theorem right_modV {x y : Val} : (modV x y).right := by
  unfold modV
  split
  · exact right_bad _
  · split
    · exact right_bad _
    · exact right_modN
set_option maxHeartbeats 2000000 in
theorem modulo_any (x y : Val) (w : World) (htab : Tab w) (hx : x.right) (hy : y.right) (z : Val) (hz : modV x y = z) :
    Calls Tryz.prog 62 #[VV x.kind x.mant x.exp x.text x.truth x.fault, VV y.kind y.mant y.exp y.text y.truth y.fault] w fun e w' => e = .returned (VV z.kind z.mant z.exp z.text z.truth z.fault) ∧ Ext w w' := by
  have ht := fun W => toNum_any x W hx
  have ht' := fun W => toNum_any y W hy
  have hpr := tn_rt hx
  have hpr' := tn_rt hy
  have HT := Lib.hid htab
  subst hz
  unfold modV
  generalize htp : tnP x = p at *
  generalize htf : tnF x = f at *
  simp only [tnV, htp, htf] at ht
  generalize htp' : tnP y = p' at *
  generalize htf' : tnF y = f' at *
  simp only [tnV, htp', htf'] at ht'
  clear htp htf htp' htf' hx hy htab
  by_cases hf : f = 0
  · subst hf
    rw [if_neg (by simp)]
    by_cases hf' : f' = 0
    · subst hf'
      rw [if_neg (by simp)]
      obtain ⟨ma, ea⟩ := p
      obtain ⟨mb, eb⟩ := p'
      simp only at ht ht' hpr hpr'
      unfold modN
      simp only
      by_cases h0 : mb = 0
      · subst h0
        rw [if_pos rfl]
        have hb := fun W => bad_any 1 W
        simp only [show badF 1 = 1 by decide] at hb
        show Calls _ _ _ _ fun e W' => e = .returned (VV 4 0 0 ⟨#[]⟩ false 1) ∧ Ext w W'
        clear hpr hpr'
        go_enter Tryz.func62, Tryz.ntmps62
        go_wp2_with (first | (go_at_call 117; (with_reducible refine (ht _).mono ?_); rintro e w' ⟨rfl, hb⟩; obtain ⟨os1, d1, rfl⟩ := hb.more; clear hb) | (go_at_call 117; (with_reducible refine (ht' _).mono ?_); rintro e w' ⟨rfl, hb⟩; obtain ⟨os2, d2, rfl⟩ := hb.more; clear hb) | (go_at_call 65; (with_reducible refine (hb _).mono ?_); rintro e w' ⟨rfl, hb⟩; obtain ⟨os3, d3, rfl⟩ := hb.more; clear hb))
        exact bodyPost_ret (v := VV 4 0 0 ⟨#[]⟩ false 1) (by simp [results, Tryz.results62, go_sem]) rfl ⟨rfl, by with_reducible repeat (first | exact Ext.refl _ | apply Ext.drew | apply Ext.alloc | apply Ext.more_)⟩
      · rw [if_neg h0]
        have h0' : (mb == 0) = false := by simpa using h0
        have hdv := fun W h => div_any ma ea mb eb W h (rt_i64 hpr) (rt_i64 hpr')
        have hb5 := fun W => bad_any 5 W
        simp only [show badF 5 = 5 by decide] at hb5
        cases hs : divS ma ea mb eb with
        | none =>
          rw [hs] at hdv
          simp only [rnV, rm, re, Option.getD_none, Option.isSome_none] at hdv
          show Calls _ _ _ _ fun e W' => e = .returned (VV 4 0 0 ⟨#[]⟩ false 5) ∧ Ext w W'
          clear hpr hpr' h0 hs
          go_enter Tryz.func62, Tryz.ntmps62
          go_wp2_with (first | (go_at_call 117; (with_reducible refine (ht _).mono ?_); rintro e w' ⟨rfl, hb⟩; obtain ⟨os1, d1, rfl⟩ := hb.more; clear hb) | (go_at_call 117; (with_reducible refine (ht' _).mono ?_); rintro e w' ⟨rfl, hb⟩; obtain ⟨os2, d2, rfl⟩ := hb.more; clear hb) | (go_at_call 103; (with_reducible refine (hdv _ (HT.out.ext (by with_reducible repeat (first | exact Ext.refl _ | apply Ext.drew | apply Ext.alloc | apply Ext.more_)))).mono ?_); rintro e w' ⟨rfl, hb⟩; obtain ⟨os4, d4, rfl⟩ := hb.more; clear hb) | (go_at_call 65; (with_reducible refine (hb5 _).mono ?_); rintro e w' ⟨rfl, hb⟩; obtain ⟨os3, d3, rfl⟩ := hb.more; clear hb))
          exact bodyPost_ret (v := VV 4 0 0 ⟨#[]⟩ false 5) (by simp [results, Tryz.results62, go_sem]) rfl ⟨rfl, by with_reducible repeat (first | exact Ext.refl _ | apply Ext.drew | apply Ext.alloc | apply Ext.more_)⟩
        | some q =>
          obtain ⟨mq, eq⟩ := q
          have hqr := divS_rt hs
          rw [hs] at hdv
          simp only [rnV, rm, re, Option.getD_some, Option.isSome_some] at hdv
          simp only
          have hfl := fun W => floor_any mq eq W (rt_i64 hqr)
          have hflr := (floor_spec hqr).1
          generalize floorS mq eq = g at *
          obtain ⟨mg, eg⟩ := g
          simp only at hfl hflr
          have hmu := fun W h => mul_any mb eb mg eg W h (rt_i64 hpr') (rt_i64 hflr)
          cases hs2 : mulS mb eb mg eg with
          | none =>
            rw [hs2] at hmu
            simp only [rnV, rm, re, Option.getD_none, Option.isSome_none] at hmu
            show Calls _ _ _ _ fun e W' => e = .returned (VV 4 0 0 ⟨#[]⟩ false 5) ∧ Ext w W'
            clear hpr hpr' h0 hs hs2 hqr hflr
            go_enter Tryz.func62, Tryz.ntmps62
            go_upto_region 12 with (first | (go_at_call 117; (with_reducible refine (ht _).mono ?_); rintro e w' ⟨rfl, hb⟩; obtain ⟨os1, d1, rfl⟩ := hb.more; clear hb) | (go_at_call 117; (with_reducible refine (ht' _).mono ?_); rintro e w' ⟨rfl, hb⟩; obtain ⟨os2, d2, rfl⟩ := hb.more; clear hb) | (go_at_call 103; (with_reducible refine (hdv _ (HT.out.ext (by with_reducible repeat (first | exact Ext.refl _ | apply Ext.drew | apply Ext.alloc | apply Ext.more_)))).mono ?_); rintro e w' ⟨rfl, hb⟩; obtain ⟨os4, d4, rfl⟩ := hb.more; clear hb))
            refine wp_float [(7, 10, (.cells #[.int .i64 0, .int .i64 0] 26))] [(0, 0), (1, 0), (2, 1), (3, 1), (4, 0), (5, 0), (6, 2)] [8, 9] [8, 9] [6] (by kernel_rfl) (by kernel_rfl) (by kernel_rfl) (fun _ _ d _ _ h => by cases d <;> exact h) (fun _ _ d _ _ h => by cases d <;> exact h) (fun x hx o ho a w => by (obtain rfl := List.mem_singleton.1 hx); (obtain rfl := Option.some.inj ho); (first | rfl | (simp [go_sem, ptrB]; done) | (go_simp; rfl))) ?_
            iterate 2 ((refine wpFp_read (v := ?_) rfl ?_ (fun w1 h1 => ?_) ?_; rotate_left 1; rfl; (obtain ⟨os1, d1, rfl⟩ := h1.more; go_simp; first | done | rfl)); try simp only [Act.put, zqA, zqB, zqC])
            (refine wpFp_eff rfl ?_ (fun wf hXf hE K hK => ?_); rfl; obtain ⟨osf, df, rfl⟩ := hXf.more; go_simp; refine (hfl _).mono ?_; rintro e w' ⟨rfl, hb⟩; refine hK _ _ (fun _ => True) (by (try simp only [more_drew, more_more, Array.append_assoc]); exact hb) (fun _ _ _ _ => trivial) trivial ?_)
            try simp only [Act.put, zqA, zqB, zqC]
            (refine wpFp_eff rfl ?_ (fun wf hXf hE K hK => ?_); rfl; obtain ⟨osf, df, rfl⟩ := hXf.more; go_simp; refine (hmu _ (HT.out.ext (by repeat (first | (with_reducible (first | exact Ext.refl _ | exact ext_d _ _ _ _ | exact ext_app _ _ _ _ _ | exact ext_app2 _ _ _ _ _ _)) | ((with_reducible refine ext_suffix ⟨_, ?_⟩); (try simp only [Array.append_assoc]); rfl) | (with_reducible (first | apply Ext.drew | apply Ext.alloc | apply Ext.more_)))))).mono ?_; rintro e w' ⟨rfl, hb⟩; refine hK _ _ (fun _ => True) (by (try simp only [more_drew, more_more, Array.append_assoc]); exact hb) (fun _ _ _ _ => trivial) trivial ?_)
            try simp only [Act.put, zqA, zqB, zqC]
            iterate 2 ((refine wpFp_read (v := ?_) rfl ?_ (fun w1 h1 => ?_) ?_; rotate_left 1; rfl; (obtain ⟨os1, d1, rfl⟩ := h1.more; go_simp; first | done | rfl)); try simp only [Act.put, zqA, zqB, zqC])
            (refine wpFp_pure (v := ?_) rfl ?_ (fun w1 => ?_) ?_; rotate_left 1; rfl; (go_simp; first | done | rfl))
            try simp only [Act.put, zqA, zqB, zqC]
            refine wpFp_one fun osa da osb db hE => ?_
            try simp only [Act.put, zqA, zqB, zqC]
            iterate 2 ((refine wpTl_op rfl ?_ (fun K hK => ?_); rfl; go_simp; refine hK _ _ ?_); try simp only [Act.put, zqA, zqB, zqC])
            refine wpTl_nil ?_
            clear hE hfl hmu hdv
            go_wp2_with (first | (go_at_call 65; (with_reducible refine (hb5 _).mono ?_); rintro e w' ⟨rfl, hb⟩; obtain ⟨os3, d3, rfl⟩ := hb.more; clear hb))
            exact bodyPost_ret (v := VV 4 0 0 ⟨#[]⟩ false 5) (by simp [results, Tryz.results62, go_sem]) rfl ⟨rfl, by with_reducible repeat (first | exact Ext.refl _ | apply Ext.drew | apply Ext.alloc | apply Ext.more_)⟩
          | some r =>
            obtain ⟨mr, er⟩ := r
            have hrr := mulS_rt_ hs2
            rw [hs2] at hmu
            simp only [rnV, rm, re, Option.getD_some, Option.isSome_some] at hmu
            simp only
            have hsu := fun W h => sub_any ma ea mr er W h (rt_i64 hpr) (rt_i64 hrr)
            have hto := fun W => ktold_any (subS ma ea mr er) W
            generalize subS ma ea mr er = t at *
            generalize numRes t = z at *
            clear hpr hpr' h0 hs hs2 hqr hflr hrr
            go_enter Tryz.func62, Tryz.ntmps62
            go_upto_region 12 with (first | (go_at_call 117; (with_reducible refine (ht _).mono ?_); rintro e w' ⟨rfl, hb⟩; obtain ⟨os1, d1, rfl⟩ := hb.more; clear hb) | (go_at_call 117; (with_reducible refine (ht' _).mono ?_); rintro e w' ⟨rfl, hb⟩; obtain ⟨os2, d2, rfl⟩ := hb.more; clear hb) | (go_at_call 103; (with_reducible refine (hdv _ (HT.out.ext (by with_reducible repeat (first | exact Ext.refl _ | apply Ext.drew | apply Ext.alloc | apply Ext.more_)))).mono ?_); rintro e w' ⟨rfl, hb⟩; obtain ⟨os4, d4, rfl⟩ := hb.more; clear hb))
            refine wp_float [(7, 10, (.cells #[.int .i64 0, .int .i64 0] 26))] [(0, 0), (1, 0), (2, 1), (3, 1), (4, 0), (5, 0), (6, 2)] [8, 9] [8, 9] [6] (by kernel_rfl) (by kernel_rfl) (by kernel_rfl) (fun _ _ d _ _ h => by cases d <;> exact h) (fun _ _ d _ _ h => by cases d <;> exact h) (fun x hx o ho a w => by (obtain rfl := List.mem_singleton.1 hx); (obtain rfl := Option.some.inj ho); (first | rfl | (simp [go_sem, ptrB]; done) | (go_simp; rfl))) ?_
            iterate 2 ((refine wpFp_read (v := ?_) rfl ?_ (fun w1 h1 => ?_) ?_; rotate_left 1; rfl; (obtain ⟨os1, d1, rfl⟩ := h1.more; go_simp; first | done | rfl)); try simp only [Act.put, zqA, zqB, zqC])
            (refine wpFp_eff rfl ?_ (fun wf hXf hE K hK => ?_); rfl; obtain ⟨osf, df, rfl⟩ := hXf.more; go_simp; refine (hfl _).mono ?_; rintro e w' ⟨rfl, hb⟩; refine hK _ _ (fun _ => True) (by (try simp only [more_drew, more_more, Array.append_assoc]); exact hb) (fun _ _ _ _ => trivial) trivial ?_)
            try simp only [Act.put, zqA, zqB, zqC]
            (refine wpFp_eff rfl ?_ (fun wf hXf hE K hK => ?_); rfl; obtain ⟨osf, df, rfl⟩ := hXf.more; go_simp; refine (hmu _ (HT.out.ext (by repeat (first | (with_reducible (first | exact Ext.refl _ | exact ext_d _ _ _ _ | exact ext_app _ _ _ _ _ | exact ext_app2 _ _ _ _ _ _)) | ((with_reducible refine ext_suffix ⟨_, ?_⟩); (try simp only [Array.append_assoc]); rfl) | (with_reducible (first | apply Ext.drew | apply Ext.alloc | apply Ext.more_)))))).mono ?_; rintro e w' ⟨rfl, hb⟩; refine hK _ _ (fun _ => True) (by (try simp only [more_drew, more_more, Array.append_assoc]); exact hb) (fun _ _ _ _ => trivial) trivial ?_)
            try simp only [Act.put, zqA, zqB, zqC]
            iterate 2 ((refine wpFp_read (v := ?_) rfl ?_ (fun w1 h1 => ?_) ?_; rotate_left 1; rfl; (obtain ⟨os1, d1, rfl⟩ := h1.more; go_simp; first | done | rfl)); try simp only [Act.put, zqA, zqB, zqC])
            (refine wpFp_pure (v := ?_) rfl ?_ (fun w1 => ?_) ?_; rotate_left 1; rfl; (go_simp; first | done | rfl))
            try simp only [Act.put, zqA, zqB, zqC]
            refine wpFp_one fun osa da osb db hE => ?_
            try simp only [Act.put, zqA, zqB, zqC]
            iterate 2 ((refine wpTl_op rfl ?_ (fun K hK => ?_); rfl; go_simp; refine hK _ _ ?_); try simp only [Act.put, zqA, zqB, zqC])
            refine wpTl_nil ?_
            clear hE hfl hmu hdv
            go_wp2_with (first | (go_at_call 126; (with_reducible refine (hsu _ (HT.out.ext (by repeat (first | (with_reducible (first | exact Ext.refl _ | exact ext_d _ _ _ _ | exact ext_app _ _ _ _ _ | exact ext_app2 _ _ _ _ _ _)) | ((with_reducible refine ext_suffix ⟨_, ?_⟩); (try simp only [Array.append_assoc]); rfl) | (with_reducible (first | apply Ext.drew | apply Ext.alloc | apply Ext.more_)))))).mono ?_); rintro e w' ⟨rfl, hb⟩; obtain ⟨os5, d5, rfl⟩ := hb.more; clear hb) | (go_at_call 97; (with_reducible refine (hto _).mono ?_); rintro e w' ⟨rfl, hb⟩; obtain ⟨os6, d6, rfl⟩ := hb.more; clear hb))
            exact bodyPost_ret (v := VV z.kind z.mant z.exp z.text z.truth z.fault) (by simp [results, Tryz.results62, go_sem]) rfl ⟨rfl, by with_reducible repeat (first | exact Ext.refl _ | apply Ext.drew | apply Ext.alloc | apply Ext.more_)⟩
    · rw [if_pos hf']
      have hf2 : (f' != 0) = true := by simpa using hf'
      have hb := fun W => bad_any f' W
      show Calls _ _ _ _ fun e W' => e = .returned (VV 4 0 0 ⟨#[]⟩ false (badF f')) ∧ Ext w W'
      clear hf' hpr hpr'
      go_enter Tryz.func62, Tryz.ntmps62
      go_wp2_with (first | (go_at_call 117; (with_reducible refine (ht _).mono ?_); rintro e w' ⟨rfl, hb⟩; obtain ⟨os1, d1, rfl⟩ := hb.more; clear hb) | (go_at_call 117; (with_reducible refine (ht' _).mono ?_); rintro e w' ⟨rfl, hb⟩; obtain ⟨os2, d2, rfl⟩ := hb.more; clear hb) | (go_at_call 65; (with_reducible refine (hb _).mono ?_); rintro e w' ⟨rfl, hb⟩; obtain ⟨os3, d3, rfl⟩ := hb.more; clear hb))
      exact bodyPost_ret (v := VV 4 0 0 ⟨#[]⟩ false (badF f')) (by simp [results, Tryz.results62, go_sem]) rfl ⟨rfl, by with_reducible repeat (first | exact Ext.refl _ | apply Ext.drew | apply Ext.alloc | apply Ext.more_)⟩
  · rw [if_pos hf]
    have hf2 : (f != 0) = true := by simpa using hf
    have hb := fun W => bad_any f W
    show Calls _ _ _ _ fun e W' => e = .returned (VV 4 0 0 ⟨#[]⟩ false (badF f)) ∧ Ext w W'
    clear hf hpr hpr'
    go_enter Tryz.func62, Tryz.ntmps62
    go_wp2_with (first | (go_at_call 117; (with_reducible refine (ht _).mono ?_); rintro e w' ⟨rfl, hb⟩; obtain ⟨os1, d1, rfl⟩ := hb.more; clear hb) | (go_at_call 65; (with_reducible refine (hb _).mono ?_); rintro e w' ⟨rfl, hb⟩; obtain ⟨os3, d3, rfl⟩ := hb.more; clear hb))
    exact bodyPost_ret (v := VV 4 0 0 ⟨#[]⟩ false (badF f)) (by simp [results, Tryz.results62, go_sem]) rfl ⟨rfl, by with_reducible repeat (first | exact Ext.refl _ | apply Ext.drew | apply Ext.alloc | apply Ext.more_)⟩
set_option maxHeartbeats 2000000 in
theorem kofBoth_any (A : Option Addr) (cap : Nat) (a b : Ar) (fid : FuncId) (t : Val → Val → Val) (p : Nat) (w : World) (h : ArgsIn w A 2 cap [a, b])
    (hsp : ∀ x y W, Low w W → x.ok → y.ok → valRight x = true → valRight y = true → Calls Tryz.prog fid (#[VV x.kind x.mant x.exp x.text x.truth x.fault, VV y.kind y.mant y.exp y.text y.truth y.fault] ++ #[]) W fun e W' => e = .returned (VV (t x y).kind (t x y).mant (t x y).exp (t x y).text (t x y).truth (t x y).fault) ∧ Ext W W')
    (hok : ∀ x y, valRight x = true → valRight y = true → (t x y).ok) (hent : ∀ (args : Array Value) (W : World), (callFunc fid args).run Tryz.prog W = .ok (.enter fid args) W) (hp : w.cell? ⟨p, 0, none⟩ = some (fn0 fid)) :
    Calls Tryz.prog 122 #[.slice A 2 cap, .pointer (some ⟨p, 0, none⟩)] w fun e w' => ResA w (bothRes t a.x.R a.x.C a.x.l b.x.R b.x.C b.x.l) e w' := by
  obtain ⟨bl, off, rfl, ⟨v0, v1, v2⟩, hoka⟩ := h.get (k := 0) (a := a) rfl
  obtain ⟨bl', off', he, ⟨u0, u1, u2⟩, hokb⟩ := h.get (k := 1) (a := b) rfl
  simp only [Option.some.injEq, Addr.mk.injEq, and_true] at he
  obtain ⟨rfl, rfl⟩ := he
  have hbl := lt_of_cell v0
  have hcap := h.cap
  have hc2 : 0 < cap := by omega
  have hc3 : 1 < cap := by omega
  simp only [Nat.zero_mul, Nat.add_zero] at v0 v1 v2
  simp only [Nat.one_mul] at u0 u1 u2
  have hpl := lt_of_cell hp
  have HS := Lib.hid hsp
  have HA := Lib.hid hoka.arr
  have HB := Lib.hid hokb.arr
  obtain ⟨x, hX⟩ : ∃ x, bothRes t a.x.R a.x.C a.x.l b.x.R b.x.C b.x.l = x := ⟨_, rfl⟩
  rw [hX]
  have HX := Lib.hid hX
  clear h hoka hokb hsp hX
  go_enter Tryz.func122, Tryz.ntmps122
  go_upto_region 1 with fail
  refine wp_plan (S := Ext _) [(0, 0), (1, 0), (2, 0), (3, 0), (4, 0), (5, 0), (6, 0), (7, 1), (8, 2)] [8] (by kernel_rfl) (by kernel_rfl) (by kernel_rfl) (fun _ _ d _ _ h => by cases d <;> exact h) (Ext.drew (Ext.refl _)) ?_
  iterate 7 ((refine wpPl_read (v := ?_) rfl ?_ (fun _ h => ?_) ?_; rotate_left 1; rfl; (obtain ⟨_, _, rfl⟩ := h.more; go_simp; try rfl)); try simp only [Act.put, zqA, zqB, zqC])
  (refine wpPl_eff rfl ?_ (fun K hK => ?_); rfl; go_simp; refine (both_low _ w.heap.size (by simp) (fid := fid) (capt := #[]) (t := t) (fun y z V hl h1 h2 h3 h4 => HS.out y z V (Low.pre (by with_reducible repeat (first | exact Ext.refl _ | apply Ext.drew | apply Ext.alloc | apply Ext.more_)) hl) h1 h2 h3 h4) hok hent _ _ _ _ _ _ _ _ _ _ _ _ (HA.out.ext (by with_reducible repeat (first | exact Ext.refl _ | apply Ext.drew | apply Ext.alloc | apply Ext.more_))) (HB.out.ext (by with_reducible repeat (first | exact Ext.refl _ | apply Ext.drew | apply Ext.alloc | apply Ext.more_))) (below_block HA.out (Nat.le_refl _)) (below_block HB.out (Nat.le_refl _)) x HX.out).mono ?_; rintro e w' ⟨D, m, cc, rfl, hD, hb⟩; obtain ⟨os2, d2, rfl⟩ := hb.more; clear hb; have hDr := hD.rd; refine hK _ _ ?_ ?_; (repeat (first | (with_reducible (first | exact Ext.refl _ | exact ext_d _ _ _ _ | exact ext_app _ _ _ _ _ | exact ext_app2 _ _ _ _ _ _ | exact ext_app3 _ _ _ _ _ _ _ | exact ext_app4 _ _ _ _ _ _ _ _ | exact ext_app5 _ _ _ _ _ _ _ _ _)) | ((with_reducible refine ext_suffix ⟨_, ?_⟩); (try simp only [Array.append_assoc]); rfl) | (with_reducible (first | apply Ext.drew | apply Ext.alloc | apply Ext.more_)) | apply Ext.drew | apply Ext.alloc | apply Ext.more_)))
  try simp only [Act.put, zqA, zqB, zqC]
  (refine wpPl_tail rfl ?_ (fun K hK => ?_); rfl; go_simp; refine hK _ _ ?_)
  try simp only [Act.put]
  refine wpPl_nil ?_
  go_wp2_with fail
  exact bodyPost_ret (v := AV x.R x.C (.slice D m cc)) (by simp [results, Tryz.results122, go_sem]) rfl ⟨D, m, cc, rfl, ⟨(by (try simp only [more_more] at hDr); (try simp only [drew_more] at hDr); (try simp only [more_drew] at hDr); (try simp only [Array.append_assoc] at hDr); exact Rd.swap hDr (by first | (simp; done) | (simp; omega) | omega) (by first | (simp; done) | (simp; omega) | omega) (by first | (simp; done) | (simp; omega) | omega)), hD.len, hD.cap, hD.small, hD.ok⟩, by with_reducible repeat (first | exact Ext.refl _ | apply Ext.drew | apply Ext.alloc | apply Ext.more_)⟩
end Go.Proofs.YtkcoikelcmpceaaGreatDoor
namespace Go.Proofs.YtkcoikelcmpceaaGreatDoor
open Go.RowKit NM
set_option maxHeartbeats 2000000 in
theorem kcall_any (s : ByteArray) (lo hi : Nat) (fid : FuncId) (ct : (Nat → Nat) → Array Value) (hs : s.size ≤ maxLen) (hl : ∀ p : Nat → Nat, tabAt (fmathL p) s.data.toList = some (kfnE lo hi (.func (.func fid) #[] (ct p))))
    (hent : ∀ (args : Array Value) (W : World), (callFunc fid args).run Tryz.prog W = .ok (.enter fid args) W) (hlo9 : lo ≤ 100) (hhi9 : hi ≤ 100)
    (A : Option Addr) (n cap : Nat) (gs : List GA) (w : World) (h : ArgsG w A n cap gs) (F : NA)
    (hf : (∀ g ∈ gs, g.right = true) → lo ≤ n → n ≤ hi → ∀ (p : Nat → Nat) W, Ext w W → (∀ q ∈ fmathB p, W.heap[q.1]? = some q.2) → Calls Tryz.prog fid (#[.slice A n cap] ++ ct p) W fun e W' => ResA W F e W') :
    Calls Tryz.prog 14 #[.string s, .slice A n cap] w (CallG w (callX lo hi gs F)) := by
  have hsm := h.small
  have hlen := h.len
  by_cases q1 : n < lo
  · have hX : callX lo hi gs F = aloneO 2 := by unfold callX; rw [if_pos (by omega)]
    rw [hX]
    clear hf hlen hX
    go_enter Tryz.func14, Tryz.ntmps14
    go_wp2_with (first | (go_at_call 21; (with_reducible refine (functions_any _).mono ?_); rintro e w' ⟨bm, rfl, p, hT⟩; have hbm := hT.hb; have hxT := hT.ext; have hbx := fun q hq => (hT.box q hq).2.2; have ht := hl p; generalize ct p = c0 at ht; have HT := Lib.hid ht; clear ht; obtain ⟨os1, d1, rfl⟩ := hxT.more) | (refine wpL_look rfl _ _ _ rfl 9 58 Tryz.underlying9 Tryz.underlying60 _ _ rfl (hT.tab.ext (by with_reducible repeat (first | exact Ext.refl _ | apply Ext.drew | apply Ext.alloc | apply Ext.more_))) (fmath_pair _) _ (zero_kfn _) _ rfl hs (kfnE lo hi (.func (.func fid) #[] c0)) true (by rw [HT.out]; rfl) (by rw [HT.out]; rfl) ?_) | (go_at_call 22; (with_reducible refine (kfault_any _ _).mono ?_); rintro e w' ⟨D, m, cc, rfl, hD, hb⟩; obtain ⟨os5, d5, rfl⟩ := hb.more; clear hb; have hDr := hD.rd))
    all_goals exact bodyPost_ret (v := .tuple #[AV (aloneO 2).R (aloneO 2).C (.slice D m cc), .bool true]) (by simp [results, Tryz.results14, go_sem]) rfl ⟨D, m, cc, rfl, ⟨(by (try simp only [more_more] at hDr); (try simp only [drew_more] at hDr); (try simp only [more_drew] at hDr); (try simp only [Array.append_assoc] at hDr); exact Rd.swap hDr (by first | (simp; done) | (simp; omega) | omega) (by first | (simp; done) | (simp; omega) | omega) (by first | (simp; done) | (simp; omega) | omega)), hD.len, hD.cap, hD.small, hD.ok⟩, by with_reducible repeat (first | exact Ext.refl _ | apply Ext.drew | apply Ext.alloc | apply Ext.more_)⟩
  · by_cases q2 : hi < n
    · have hX : callX lo hi gs F = aloneO 2 := by unfold callX; rw [if_pos (by omega)]
      rw [hX]
      clear hf hlen hX
      go_enter Tryz.func14, Tryz.ntmps14
      go_wp2_with (first | (go_at_call 21; (with_reducible refine (functions_any _).mono ?_); rintro e w' ⟨bm, rfl, p, hT⟩; have hbm := hT.hb; have hxT := hT.ext; have hbx := fun q hq => (hT.box q hq).2.2; have ht := hl p; generalize ct p = c0 at ht; have HT := Lib.hid ht; clear ht; obtain ⟨os1, d1, rfl⟩ := hxT.more) | (refine wpL_look rfl _ _ _ rfl 9 58 Tryz.underlying9 Tryz.underlying60 _ _ rfl (hT.tab.ext (by with_reducible repeat (first | exact Ext.refl _ | apply Ext.drew | apply Ext.alloc | apply Ext.more_))) (fmath_pair _) _ (zero_kfn _) _ rfl hs (kfnE lo hi (.func (.func fid) #[] c0)) true (by rw [HT.out]; rfl) (by rw [HT.out]; rfl) ?_) | (go_at_call 22; (with_reducible refine (kfault_any _ _).mono ?_); rintro e w' ⟨D, m, cc, rfl, hD, hb⟩; obtain ⟨os5, d5, rfl⟩ := hb.more; clear hb; have hDr := hD.rd))
      all_goals exact bodyPost_ret (v := .tuple #[AV (aloneO 2).R (aloneO 2).C (.slice D m cc), .bool true]) (by simp [results, Tryz.results14, go_sem]) rfl ⟨D, m, cc, rfl, ⟨(by (try simp only [more_more] at hDr); (try simp only [drew_more] at hDr); (try simp only [more_drew] at hDr); (try simp only [Array.append_assoc] at hDr); exact Rd.swap hDr (by first | (simp; done) | (simp; omega) | omega) (by first | (simp; done) | (simp; omega) | omega) (by first | (simp; done) | (simp; omega) | omega)), hD.len, hD.cap, hD.small, hD.ok⟩, by with_reducible repeat (first | exact Ext.refl _ | apply Ext.drew | apply Ext.alloc | apply Ext.more_)⟩
    · have HF := Lib.hid hf
      obtain ⟨X, hX⟩ : ∃ X, callX lo hi gs F = X := ⟨_, rfl⟩
      rw [hX]
      have HX := Lib.hid hX
      clear hf hX
      go_enter Tryz.func14, Tryz.ntmps14
      go_wp2_with (first | (go_at_call 21; (with_reducible refine (functions_any _).mono ?_); rintro e w' ⟨bm, rfl, p, hT⟩; have hbm := hT.hb; have hxT := hT.ext; have hbx := fun q hq => (hT.box q hq).2.2; have ht := hl p; have hfc := HF.out; have hfd := fun a b c => hfc a b c p; clear hfc; generalize ct p = c0 at ht hfd; have HT := Lib.hid ht; clear ht; obtain ⟨os1, d1, rfl⟩ := hxT.more) | (refine wpL_look rfl _ _ _ rfl 9 58 Tryz.underlying9 Tryz.underlying60 _ _ rfl (hT.tab.ext (by with_reducible repeat (first | exact Ext.refl _ | apply Ext.drew | apply Ext.alloc | apply Ext.more_))) (fmath_pair _) _ (zero_kfn _) _ rfl hs (kfnE lo hi (.func (.func fid) #[] c0)) true (by rw [HT.out]; rfl) (by rw [HT.out]; rfl) ?_))
      go_loopw [34] (fun i wr => ∃ k : Nat, k ≤ n ∧ i = .int .i64 k ∧ Ext ((more (w.alloc (Obj.cells #[.int .i64 0, .int .i64 0, .slice none 0 0] 33)) os1 d1).alloc (Obj.cells #[.int .i64 lo, .int .i64 hi, .func (.func fid) #[] c0] 58)) wr ∧ Hid (∀ j g, j < k → gs[j]? = some g → g.right = true)) (fun i _ => n - (intOf i).toNat)
      case atStart => exact ⟨0, Nat.zero_le _, rfl, Ext.refl _, fun j g hj => absurd hj (Nat.not_lt_zero _)⟩
      case round =>
        obtain ⟨k, hk, rfl, hX, HR⟩ := hrel
        have hX0 := hX
        obtain ⟨os, d, rfl⟩ := hX.more
        clear hX
        by_cases hlt : k < n
        · obtain ⟨g, b, off, hg, rfl, hat, harr⟩ := h.at hlt
          obtain ⟨v0, v1, v2⟩ := hat
          have hbl : b < w.heap.size := lt_of_cell v0
          have hcap := h.cap
          cases hr : rightA g.r g.c g.l with
          | true =>
            have hra := fun W => (hr ▸ right_any g.r g.c g.A g.n g.cap g.l W : ArrIn W g.A g.n g.cap g.l → _)
            clear hT hxT hX0 hbx hfd hlen
            go_wp2_with (go_at_call 23; refine (hra _ (harr.ext (by with_reducible repeat (first | exact Ext.refl _ | apply Ext.drew | apply Ext.alloc | apply Ext.more_)))).mono ?_; rintro e w' ⟨rfl, hb⟩; obtain ⟨os', d', rfl⟩ := hb.more; clear hb)
            refine ⟨⟨k + 1, by omega, by go_num, by with_reducible repeat (first | exact Ext.refl _ | apply Ext.drew | apply Ext.alloc | apply Ext.more_), ?_⟩, by simp [intOf]; omega⟩
            intro j g' hj hg'
            by_cases hjk : j = k
            · subst hjk
              obtain rfl : g = g' := by rw [hg] at hg'; simpa using hg'
              exact hr
            · exact HR.out j g' (by omega) hg'
          | false =>
            have hra := fun W => (hr ▸ right_any g.r g.c g.A g.n g.cap g.l W : ArrIn W g.A g.n g.cap g.l → _)
            obtain rfl : aloneO 9 = X := by
              rw [← HX.out]
              unfold callX
              rw [if_neg (by omega), if_neg]
              intro ha
              have := List.all_eq_true.1 ha g (List.mem_of_getElem? hg)
              unfold GA.right at this
              rw [hr] at this
              cases this
            clear hT hxT hX0 hbx hfd hlen HX
            go_wp2_with (first | (go_at_call 23; refine (hra _ (harr.ext (by with_reducible repeat (first | exact Ext.refl _ | apply Ext.drew | apply Ext.alloc | apply Ext.more_)))).mono ?_; rintro e w' ⟨rfl, hb⟩; obtain ⟨os', d', rfl⟩ := hb.more; clear hb) | (go_at_call 22; (with_reducible refine (kfault_any _ _).mono ?_); rintro e w' ⟨D, m, cc, rfl, hD, hb⟩; obtain ⟨os5, d5, rfl⟩ := hb.more; clear hb; have hDr := hD.rd))
            exact bodyPost_ret (v := .tuple #[AV (aloneO 9).R (aloneO 9).C (.slice D m cc), .bool true]) (by simp [results, Tryz.results14, go_sem]) rfl ⟨D, m, cc, rfl, ⟨(by (try simp only [more_more] at hDr); (try simp only [drew_more] at hDr); (try simp only [more_drew] at hDr); (try simp only [Array.append_assoc] at hDr); exact Rd.swap hDr (by first | (simp; done) | (simp; omega) | omega) (by first | (simp; done) | (simp; omega) | omega) (by first | (simp; done) | (simp; omega) | omega)), hD.len, hD.cap, hD.small, hD.ok⟩, by with_reducible repeat (first | exact Ext.refl _ | apply Ext.drew | apply Ext.alloc | apply Ext.more_)⟩
        · obtain rfl : k = n := by omega
          have hall : ∀ g ∈ gs, g.right = true := all_at fun j g hj hg => HR.out j g (by omega) hg
          obtain rfl : F = X := by
            rw [← HX.out]
            unfold callX
            rw [if_neg (by omega), if_pos (List.all_eq_true.2 hall)]
          have hfe := hfd hall (by omega) (by omega)
          have HB := Lib.hid hbx
          clear hT hxT hbx hfd hlen hall HR HX
          go_wp2_with fail
          refine (hfe _ (by with_reducible repeat (first | exact Ext.refl _ | apply Ext.drew | apply Ext.alloc | apply Ext.more_)) (fun q hq => ?_)).mono ?_
          · have hb0 := HB.out q hq
            have hl0 := lt_block hb0
            exact (hX0.block (Nat.lt_of_lt_of_le hl0 (by simp))).trans ((((Ext.refl _).alloc _).block hl0).trans hb0)
          · rintro e w' ⟨D, m, cc, rfl, hD, hb⟩
            obtain ⟨os2, d2, rfl⟩ := hb.more
            clear hb
            have hDr := hD.rd
            go_wp2_with fail
            exact bodyPost_ret (v := .tuple #[AV F.R F.C (.slice D m cc), .bool true]) (by simp [results, Tryz.results14, go_sem]) rfl ⟨D, m, cc, rfl, ⟨(by (try simp only [more_more] at hDr); (try simp only [drew_more] at hDr); (try simp only [more_drew] at hDr); (try simp only [Array.append_assoc] at hDr); exact Rd.swap hDr (by first | (simp; done) | (simp; omega) | omega) (by first | (simp; done) | (simp; omega) | omega) (by first | (simp; done) | (simp; omega) | omega)), hD.len, hD.cap, hD.small, hD.ok⟩, by with_reducible repeat (first | exact Ext.refl _ | apply Ext.drew | apply Ext.alloc | apply Ext.more_)⟩
end Go.Proofs.YtkcoikelcmpceaaGreatDoor
namespace Go.Proofs.YtkcoikelcmpceaaGreatDoor
open Go.RowKit NM
theorem knumber_any (n : Int) (w : World) : Calls Tryz.prog 12 #[.int .i64 n] w fun e w' => e = .returned (VV 1 n 0 ⟨#[]⟩ false 0) ∧ Ext w w' := by
  go_enter Tryz.func12, Tryz.ntmps12
  go_wp2_with fail
  exact bodyPost_ret (v := VV 1 n 0 ⟨#[]⟩ false 0) (by simp [results, Tryz.results12, go_sem]) rfl ⟨rfl, by with_reducible repeat (first | exact Ext.refl _ | apply Ext.drew | apply Ext.alloc | apply Ext.more_)⟩
theorem krow_any (A : Option Addr) (n cap : Nat) (w : World) (hn : n ≤ 9223372036854775807) : Calls Tryz.prog 10 #[.slice A n cap] w fun e w' => e = .returned (AV 1 n (.slice A n cap)) ∧ Ext w w' := by
  go_enter Tryz.func10, Tryz.ntmps10
  go_wp2_with fail
  exact bodyPost_ret (v := AV 1 n (.slice A n cap)) (by simp [results, Tryz.results10, go_sem]) rfl ⟨rfl, by with_reducible repeat (first | exact Ext.refl _ | apply Ext.drew | apply Ext.alloc | apply Ext.more_)⟩
/-- What Call tells where it is one value. -/
def OneAt (w : World) (y : Val) (e : Ending) (w' : World) : Prop := ∃ b off cc, e = .returned (.tuple #[AV 1 1 (.slice (some ⟨b, off, none⟩) 1 cc), .bool true]) ∧ ValAt w' b off y ∧ 1 ≤ cc ∧ Ext w w'
theorem CallG.one {w : World} {y : Val} {e : Ending} {w' : World} (h : CallG w (oneA y) e w') : OneAt w y e w' := by
  obtain ⟨D, m, cc, rfl, hN, hb⟩ := h
  have harr := hN.arr
  have hm : 1 = m := harr.len
  subst hm
  obtain ⟨x, b, off, hx, _, rfl, hat⟩ := harr.at (k := 0) (by decide)
  obtain rfl : y = x := by simpa [oneA] using hx
  rw [Nat.zero_mul, Nat.add_zero] at hat
  exact ⟨b, off, cc, rfl, hat, harr.cap, hb⟩
set_option maxHeartbeats 2000000 in
theorem kone_any (s : ByteArray) (A : Option Addr) (n cap : Nat) (y : Val) (w : World) (hc : ∀ W, Ext w W → Calls Tryz.prog 14 #[.string s, .slice A n cap] W (OneAt W y)) :
    Calls Tryz.prog 9 #[.string s, .slice A n cap] w fun e w' => e = .returned (VV y.kind y.mant y.exp y.text y.truth y.fault) ∧ Ext w w' := by
  have HC := Lib.hid hc
  clear hc
  obtain ⟨yk, ym, ye, yt, yb, yf⟩ := y
  go_enter Tryz.func9, Tryz.ntmps9
  go_wp2_with (go_at_call 14; (with_reducible refine (HC.out _ (by with_reducible repeat (first | exact Ext.refl _ | apply Ext.drew | apply Ext.alloc | apply Ext.more_))).mono ?_); rintro e w' ⟨b, off, cc, rfl, ⟨v0, v1, v2, v3, v4, v5⟩, hcc, hb⟩; have hbl := lt_of_cell v0; obtain ⟨os1, d1, rfl⟩ := hb.more; clear hb; (simp at hbl))
  exact bodyPost_ret (v := VV yk ym ye yt yb yf) (by simp [results, Tryz.results9, go_sem]) rfl ⟨rfl, by with_reducible repeat (first | exact Ext.refl _ | apply Ext.drew | apply Ext.alloc | apply Ext.more_)⟩
end Go.Proofs.YtkcoikelcmpceaaGreatDoor
namespace Go.Proofs.YtkcoikelcmpceaaGreatDoor
open Go.RowKit NM
theorem two_args {w : World} {A : Option Addr} {cap n : Nat} {xs : List Ar} (h : ArgsIn w A n cap xs) (h1 : 2 ≤ n) (h2 : n ≤ 2) : ∃ a b, xs = [a, b] ∧ n = 2 ∧ argN xs 0 = a.x ∧ argN xs 1 = b.x := by
  have hl := h.len
  obtain rfl : n = 2 := by omega
  match xs, hl with
  | [a, b], _ => exact ⟨a, b, rfl, rfl, rfl, rfl⟩
theorem box_cell {p : Nat → Nat} {W : World} (hB : ∀ q ∈ fmathB p, W.heap[q.1]? = some q.2) {i : Nat} {t : TypeId} {fid : FuncId} (hi : (p i, kbx t fid) ∈ fmathB p) : W.cell? ⟨p i, 0, none⟩ = some (fn0 fid) :=
  cell_of_row _ _ 0 _ _ _ (hB _ hi)
def bothO (t : Val → Val → Val) (xs : List Ar) : NA := bothRes t (argN xs 0).R (argN xs 0).C (argN xs 0).l (argN xs 1).R (argN xs 1).C (argN xs 1).l
theorem mcall_mod (A : Option Addr) (n cap : Nat) (gs : List GA) (w : World) (htab : Tab w) (h : ArgsG w A n cap gs) : Calls Tryz.prog 14 #[.string ⟨#[77, 79, 68]⟩, .slice A n cap] w (CallG w (callX 2 2 gs (bothO modV (arsOf gs)))) :=
  kcall_any ⟨#[77, 79, 68]⟩ 2 2 122 (fun p => #[.pointer (some ⟨p 14, 0, none⟩)]) (by decide) (fun _ => rfl) (fun args W => by go_simp) (by decide) (by decide) A n cap gs w h _ (fun hr h1 h2 p W hW hB => by
    obtain ⟨a, b, hx, hn, ha, hb⟩ := two_args (arsOf_in h hr) h1 h2
    have hi := (arsOf_in h hr).ext hW
    have hT := htab.ext hW
    unfold bothO
    rw [ha, hb]
    rw [hx] at hi
    subst hn
    exact kofBoth_any A cap a b 62 modV (p 14) W hi (fun x y V hl _ _ hx hy => modulo_any x y V (hl.tab hT) hx hy _ rfl) (fun x y hx _ => right_modV.ok) (fun args W => by go_simp) (box_cell (t := 88) hB (by simp [fmathB])))
theorem mcall_countif (A : Option Addr) (n cap : Nat) (gs : List GA) (w : World) (htab : Tab w) (hft : FTab w) (h : ArgsG w A n cap gs) : Calls Tryz.prog 14 #[.string ⟨#[67, 79, 85, 78, 84, 73, 70]⟩, .slice A n cap] w (CallG w (callX 2 2 gs (countIfO (arsOf gs)))) :=
  kcall_any ⟨#[67, 79, 85, 78, 84, 73, 70]⟩ 2 2 54 (fun _ => #[]) (by decide) (fun _ => rfl) (fun args W => by go_simp) (by decide) (by decide) A n cap gs w h _ (fun hr h1 h2 p W hW _ => kcountIf_any A n cap _ W (htab.ext hW) (hft.ext hW) ((arsOf_in h hr).ext hW) (by omega))
end Go.Proofs.YtkcoikelcmpceaaGreatDoor
namespace Go.Proofs.YtkcoikelcmpceaaGreatDoor
open Go.RowKit NM
theorem R_small {N i : Nat} (hN : N < T 15) (hi : 60 ≤ i) : R (N * T i) = N * T i := by
  by_cases h0 : N = 0
  · subst h0; rw [Nat.zero_mul, R_zero]
  · have hn : nd N ≤ 15 := (nd_le_iff _ _).2 hN
    have hS : S15 (N * T i) = N * T i := by
      unfold S15
      rw [nd_mul_T i h0, cutN_mul _ _ _ (by omega), Nat.mul_assoc, ← T_add]
      congr 2; omega
    unfold R
    rw [hS, cutN_mul _ _ _ hi, Nat.mul_assoc, ← T_add]
    congr 2; omega
/-- What is rounded stays between what needs no rounding. -/
theorem R_between {X M M' i : Nat} (hM : M < T 15) (hi : 60 ≤ i) (h1 : M' * T i ≤ X) (h2 : X ≤ M * T i) : M' * T i ≤ R X ∧ R X ≤ M * T i := by
  have hM' : M' < T 15 := by
    have : M' * T i ≤ M * T i := Nat.le_trans h1 h2
    have := Nat.le_of_mul_le_mul_right this (T_pos i)
    omega
  have a := R_mono h1
  have b := R_mono h2
  rw [R_small hM' hi] at a
  rw [R_small hM hi] at b
  exact ⟨a, b⟩
theorem whole_mant {a : Int} (ha : a.natAbs < T 15) (h0 : a ≠ 0) : ∃ k, (wholeN a).2 = (k : Nat) ∧ a = (wholeN a).1 * (T k : Nat) ∧ (wholeN a).1 ≠ 0 := by
  obtain ⟨_, h1, h2, h3, h4⟩ := wholex ha
  refine ⟨(wholeN a).2.toNat, by omega, ?_, fun h => h0 (h3.1 h)⟩
  rw [sc_whole h4, sc_whole0] at h2
  have hp := HX_pos
  have hne : HX ≠ 0 := by omega
  exact (Int.eq_of_mul_eq_mul_right hne (show (wholeN a).1 * ((T (wholeN a).2.toNat : Nat) : Int) * HX = a * HX from h2)).symm
theorem whole_zero : wholeN 0 = (0, 0) := by unfold wholeN; rw [show rndI 0 0 = some (0, 0) from rnd_nought _ _ _]; rfl
theorem floor_zero : floorS 0 0 = (0, 0) := by
  unfold floorS; simp
/-- The scale of a quotient. -/
theorem quot_bounds {P Q ka kb A B j : Nat} (hP : 0 < P) (hQ : 0 < Q) (hA : A = P * T ka) (hB : B = Q * T kb) (hka : ka ≤ 9) (hkb : kb ≤ 9) (hj : j ≤ 10) {M : Nat} (m : Bool)
    (hm : m = decide (P * T 40 % Q ≠ 0)) (X : Nat) (hX : X = if m then (10 * (P * T 40 / Q) + 1) * T ((ka : Int) - kb + 59).toNat else (P * T 40 / Q) * T ((ka : Int) - kb + 60).toNat) :
    (M * B ≤ A * T j → M * T (100 - j) ≤ X) ∧ (A * T j ≤ M * B → X ≤ M * T (100 - j)) := by
  obtain ⟨u, hu⟩ : ∃ u : Nat, u + ka + j = 40 + kb := ⟨40 + kb - ka - j, by omega⟩
  have e1 : ((ka : Int) - kb + 59).toNat + (u + 1) = 100 - j := by omega
  have e2 : ((ka : Int) - kb + 60).toNat + u = 100 - j := by omega
  generalize ((ka : Int) - kb + 59).toNat = f1 at *
  generalize ((ka : Int) - kb + 60).toNat = f2 at *
  have hd := Nat.div_add_mod (P * T 40) Q
  have hr := Nat.mod_lt (P * T 40) hQ
  have hs : A * T j * T u = P * T 40 * T kb := by
    rw [hA, Nat.mul_assoc, Nat.mul_assoc, ← T_add, ← T_add, Nat.mul_assoc, ← T_add]; congr 2; omega
  constructor
  · intro h
    have h1 : M * T u * Q ≤ P * T 40 := by
      have h2 := Nat.mul_le_mul_right (T u) h
      rw [hs, hB] at h2
      have h3 : M * T u * Q * T kb ≤ P * T 40 * T kb := by
        calc M * T u * Q * T kb = M * (Q * T kb) * T u := by ac_rfl
          _ ≤ _ := h2
      exact Nat.le_of_mul_le_mul_right h3 (T_pos kb)
    have h2 : M * T u ≤ P * T 40 / Q := (Nat.le_div_iff_mul_le hQ).2 h1
    rw [hX]
    cases m with
    | true =>
      rw [if_pos rfl, ← e1, Nat.add_comm f1, T_add, show T (u + 1) = 10 * T u from T_succ u, ← Nat.mul_assoc]
      refine Nat.mul_le_mul_right _ ?_
      have : M * (10 * T u) = 10 * (M * T u) := by ac_rfl
      omega
    | false =>
      rw [if_neg (by simp), ← e2, Nat.add_comm f2, T_add, ← Nat.mul_assoc]
      exact Nat.mul_le_mul_right _ h2
  · intro h
    have h1 : P * T 40 ≤ M * T u * Q := by
      have h2 := Nat.mul_le_mul_right (T u) h
      rw [hs, hB] at h2
      have h3 : P * T 40 * T kb ≤ M * T u * Q * T kb := by
        calc P * T 40 * T kb ≤ M * (Q * T kb) * T u := h2
          _ = _ := by ac_rfl
      exact Nat.le_of_mul_le_mul_right h3 (T_pos kb)
    rw [hX]
    cases m with
    | true =>
      rw [if_pos rfl, ← e1, Nat.add_comm f1, T_add, show T (u + 1) = 10 * T u from T_succ u, ← Nat.mul_assoc]
      refine Nat.mul_le_mul_right _ ?_
      have hne : P * T 40 % Q ≠ 0 := by simpa using hm.symm
      have h2 : P * T 40 / Q < M * T u := by
        rw [Nat.div_lt_iff_lt_mul hQ]
        rcases Nat.lt_or_ge (P * T 40) (M * T u * Q) with h | h'
        · exact h
        · exfalso
          have : P * T 40 = M * T u * Q := Nat.le_antisymm h1 h'
          rw [this, Nat.mul_mod_left] at hne
          exact hne rfl
      have : M * (10 * T u) = 10 * (M * T u) := by ac_rfl
      omega
    | false =>
      rw [if_neg (by simp), ← e2, Nat.add_comm f2, T_add, ← Nat.mul_assoc]
      refine Nat.mul_le_mul_right _ ?_
      have : P * T 40 / Q ≤ M * T u * Q / Q := Nat.div_le_div_right h1
      rwa [Nat.mul_div_cancel _ hQ] at this
theorem floor_uniq {m e n : Int} (h : Rt m e) (hn : n.natAbs < T 15) (h1 : n * HX ≤ sc m e) (h2 : sc m e < (n + 1) * HX) : floorS m e = wholeN n := by
  obtain ⟨a, b, c, d⟩ := floor_spec h
  obtain ⟨_, w1, w2, _, _⟩ := wholex hn
  generalize hf : floorS m e = f at *
  have h3 := sc_whole (m := f.1) b
  generalize f.1 * ((T f.2.toNat : Nat) : Int) = z at h3
  have hp := HX_pos
  have hz : z = n := by
    rw [h3] at c d
    have q1 : z * HX < (n + 1) * HX := Int.lt_of_le_of_lt c h2
    have q2 : n * HX < (z + 1) * HX := by rw [Int.add_mul, Int.one_mul]; exact Int.lt_of_le_of_lt h1 d
    have q3 := Int.lt_of_mul_lt_mul_right q1 (by omega)
    have q4 := Int.lt_of_mul_lt_mul_right q2 (by omega)
    omega
  subst hz
  rw [sc_whole0] at w2
  obtain ⟨u1, u2⟩ := sc_uniq a w1 (by rw [h3, w2]; rfl)
  exact Prod.ext u1 u2
theorem mul_whole {a b : Int} (ha : a.natAbs < T 15) (hb : b.natAbs < T 15) : mulS (wholeN a).1 (wholeN a).2 (wholeN b).1 (wholeN b).2 = rndI (a * b) 0 := by
  obtain ⟨_, a1, _, _, a4⟩ := wholex ha
  obtain ⟨_, b1, _, _, b4⟩ := wholex hb
  unfold mulS
  rw [if_pos ⟨a1, b1⟩]
  by_cases h0 : a = 0
  · subst h0
    rw [whole_zero]
    simp only [Int.zero_mul]
    rw [show rndI 0 (0 + (wholeN b).2) = some (0, 0) from rnd_nought _ _ _, show rndI 0 0 = some (0, 0) from rnd_nought _ _ _]
  · by_cases h1 : b = 0
    · subst h1
      rw [whole_zero]
      simp only [Int.mul_zero]
      rw [show rndI 0 ((wholeN a).2 + 0) = some (0, 0) from rnd_nought _ _ _, show rndI 0 0 = some (0, 0) from rnd_nought _ _ _]
    · obtain ⟨ka, e1, e2, _⟩ := whole_mant ha h0
      obtain ⟨kb, f1, f2, _⟩ := whole_mant hb h1
      have h := rndx_scale ((wholeN a).1 * (wholeN b).1) ((wholeN a).2 + (wholeN b).2) (ka + kb)
      rw [← h, e1, f1]
      congr 1
      · rw [T_add, Int.natCast_mul]
        conv => rhs; rw [e2, f2]
        ac_rfl
      · omega
/-- A small multiple is none. -/
theorem mul_small {b x y : Int} (h : b * x = y) (h1 : -b < y) (h2 : y < b) : x = 0 := by
  rcases Int.lt_trichotomy x 0 with h0 | h0 | h0
  · exfalso
    have : b * x ≤ b * (-1) := Int.mul_le_mul_of_nonneg_left (by omega) (by omega)
    omega
  · exact h0
  · exfalso
    have : b * 1 ≤ b * x := Int.mul_le_mul_of_nonneg_left (by omega) (by omega)
    omega
theorem i31_T : (2147483648 : Nat) < T 10 := by decide
/-- What a whole number comes to by another one, cut down: n, and m is left. -/
def Left (a b n m : Int) : Prop := a = b * n + m ∧ (0 < b → 0 ≤ m ∧ m < b) ∧ (b < 0 → b < m ∧ m ≤ 0)
theorem left_nat {a b n m : Int} (h : Left a b n m) (hb : b ≠ 0) (h0 : a ≠ 0) :
    n = if (decide (a < 0) == decide (b < 0)) then ((a.natAbs / b.natAbs : Nat) : Int) else if a.natAbs % b.natAbs = 0 then -((a.natAbs / b.natAbs : Nat) : Int) else -((a.natAbs / b.natAbs : Nat) : Int) - 1 := by
  obtain ⟨h1, h2, h3⟩ := h
  have hd := Nat.div_add_mod a.natAbs b.natAbs
  have hr := Nat.mod_lt a.natAbs (show b.natAbs > 0 by omega)
  generalize a.natAbs / b.natAbs = k at *
  generalize a.natAbs % b.natAbs = r at *
  have hz : ((b.natAbs * k + r : Nat) : Int) = (a.natAbs : Int) := by rw [hd]
  rw [Int.natCast_add, Int.natCast_mul] at hz
  rcases Int.lt_or_gt_of_ne hb with hb0 | hb0 <;> rcases Int.lt_or_gt_of_ne h0 with ha0 | ha0
  · rw [show (b.natAbs : Int) = -b by omega, show (a.natAbs : Int) = -a by omega] at hz
    rw [if_pos (by simp [ha0, hb0])]
    have := mul_small (b := -b) (x := n - k) (y := r - (-m)) (by rw [Int.mul_sub]; have := Int.neg_mul b n; omega) (by omega) (by omega)
    omega
  · rw [show (b.natAbs : Int) = -b by omega, show (a.natAbs : Int) = a by omega] at hz
    rw [if_neg (by simp [hb0]; omega)]
    by_cases hr0 : r = 0
    · rw [if_pos hr0]
      have := mul_small (b := -b) (x := n + k) (y := m) (by rw [Int.mul_add]; have := Int.neg_mul b n; omega) (by omega) (by omega)
      omega
    · rw [if_neg hr0]
      have := mul_small (b := -b) (x := n + k + 1) (y := -b - r + m) (by rw [Int.mul_add, Int.mul_add]; have := Int.neg_mul b n; omega) (by omega) (by omega)
      omega
  · rw [show (b.natAbs : Int) = b by omega, show (a.natAbs : Int) = -a by omega] at hz
    rw [if_neg (by simp [ha0]; omega)]
    by_cases hr0 : r = 0
    · rw [if_pos hr0]
      have := mul_small (b := b) (x := n + k) (y := -m) (by rw [Int.mul_add]; omega) (by omega) (by omega)
      omega
    · rw [if_neg hr0]
      have := mul_small (b := b) (x := n + k + 1) (y := b - r - m) (by rw [Int.mul_add, Int.mul_add]; omega) (by omega) (by omega)
      omega
  · rw [show (b.natAbs : Int) = b by omega, show (a.natAbs : Int) = a by omega] at hz
    rw [if_pos (by simp; omega)]
    have := mul_small (b := b) (x := n - k) (y := r - m) (by rw [Int.mul_sub]; omega) (by omega) (by omega)
    omega
/-- A quotient of whole numbers without signs, rounded: between the same whole ones. -/
theorem quot_R {P Q ka kb A B : Nat} (hP : 0 < P) (hQ : 0 < Q) (hA : A = P * T ka) (hB : B = Q * T kb) (hA' : A ≤ 2147483648) (hB' : B ≤ 2147483648) (neg : Bool) :
    ∃ q, divR neg P Q ((ka : Int) - kb) = some q ∧ Rt q.1 q.2 ∧ ∃ Z : Nat, sc q.1 q.2 = sg neg Z ∧ (A % B = 0 → Z = A / B * T 100) ∧ (A % B ≠ 0 → A / B * T 100 < Z ∧ Z < (A / B + 1) * T 100) := by
  have hka : ka ≤ 9 := by
    rcases Nat.lt_or_ge 9 ka with h | h
    · exfalso
      have h1 : T 10 ≤ T ka := T_mono h
      have h2 : 1 * T ka ≤ P * T ka := Nat.mul_le_mul_right _ hP
      have := i31_T
      omega
    · exact h
  have hkb : kb ≤ 9 := by
    rcases Nat.lt_or_ge 9 kb with h | h
    · exfalso
      have h1 : T 10 ≤ T kb := T_mono h
      have h2 : 1 * T kb ≤ Q * T kb := Nat.mul_le_mul_right _ hQ
      have := i31_T
      omega
    · exact h
  have hB0 : 0 < B := by rw [hB]; exact Nat.mul_pos hQ (T_pos kb)
  have hQB : Q ≤ B := by rw [hB]; exact Nat.le_mul_of_pos_right _ (T_pos kb)
  obtain ⟨m, hm⟩ : ∃ m, m = decide (P * T 40 % Q ≠ 0) := ⟨_, rfl⟩
  obtain ⟨X, hX⟩ : ∃ X, X = if m then (10 * (P * T 40 / Q) + 1) * T ((ka : Int) - kb + 59).toNat else (P * T 40 / Q) * T ((ka : Int) - kb + 60).toNat := ⟨_, rfl⟩
  have hqb := fun j hj M => quot_bounds (j := j) (M := M) hP hQ hA hB hka hkb hj m hm X hX
  -- the quotient as one value without something more
  have hrun : ∃ Y E, divR neg P Q ((ka : Int) - kb) = rnd neg Y false E ∧ -100 ≤ E ∧ Y * T (E + 100).toNat = X := by
    unfold divR
    rw [← hm]
    cases m with
    | false => exact ⟨_, _, rfl, by omega, by rw [hX, if_neg (by simp)]; congr 2; omega⟩
    | true =>
      have hN : 16 ≤ nd (P * T 40 / Q) := by
        have h1 : T 16 ≤ P * T 40 / Q := by
          rw [Nat.le_div_iff_mul_le hQ]
          have h2 : T 16 * Q ≤ T 16 * T 10 := Nat.mul_le_mul_left _ (by have := i31_T; omega)
          have h3 : T 16 * T 10 ≤ T 40 := by rw [← T_add]; exact T_mono (by omega)
          have h4 : 1 * T 40 ≤ P * T 40 := Nat.mul_le_mul_right _ hP
          rw [Nat.one_mul] at h4
          exact Nat.le_trans h2 (Nat.le_trans h3 h4)
        have := (lt_nd_iff (P * T 40 / Q) 16).2 h1
        omega
      have h1 := rnd_sticky neg (P * T 40 / Q) 1 1 false ((ka : Int) - kb - 40) hN (by decide)
      simp only [ne_eq, Nat.add_one_ne_zero, not_false_eq_true, decide_true, Bool.true_or] at h1
      refine ⟨_, _, h1.symm, by omega, ?_⟩
      rw [hX, if_pos rfl]
      congr 1
      · simp [T]; omega
      · congr 1; omega
  obtain ⟨Y, E, hY, hE, hYX⟩ := hrun
  have hd := Nat.div_add_mod A B
  have hr := Nat.mod_lt A hB0
  have hbig : ∀ Z, Z < (A / B + 1) * T 100 ∨ Z ≤ A / B * T 100 → Z < T 140 := by
    intro Z hZ
    have h1 : A / B ≤ A := Nat.div_le_self _ _
    have h2 : A / B + 1 ≤ T 10 := by have := i31_T; omega
    have h3 : (A / B + 1) * T 100 ≤ T 10 * T 100 := Nat.mul_le_mul_right _ h2
    rw [← T_add] at h3
    have h4 : T (10 + 100) ≤ T 140 := T_mono (by omega)
    have h5 : A / B * T 100 ≤ (A / B + 1) * T 100 := Nat.mul_le_mul_right _ (by omega)
    have h6 : T (10 + 100) < T 140 := T_lt (by omega)
    omega
  have hfin : ∀ Z, R X = Z → Z < T 140 → ∃ q, divR neg P Q ((ka : Int) - kb) = some q ∧ Rt q.1 q.2 ∧ sc q.1 q.2 = sg neg Z := by
    intro Z hZ hZ'
    rw [hY]
    cases hq : rnd neg Y false E with
    | none =>
      have := (rnd_none (neg := neg) (N := Y) hE).1 hq
      rw [hYX, hZ] at this
      omega
    | some q =>
      have := sc_rnd hE hq
      rw [hYX, hZ] at this
      exact ⟨q, rfl, rnd_right hq, this⟩
  by_cases hr0 : A % B = 0
  · have hAB : A = A / B * B := by rw [hr0] at hd; rw [Nat.mul_comm]; omega
    have hq := hqb 0 (by omega) (A / B)
    have x1 := hq.1 (by rw [← hAB]; simp [T])
    have x2 := hq.2 (by rw [← hAB]; simp [T])
    have hX2 : X = A / B * T 100 := Nat.le_antisymm x2 x1
    have hk : A / B < T 15 := by have h1 : A / B ≤ A := Nat.div_le_self _ _; have := i31_T; have : T 10 ≤ T 15 := T_mono (by omega); omega
    have hRX : R X = A / B * T 100 := by rw [hX2]; exact R_small hk (by omega)
    obtain ⟨q, h1, h2, h3⟩ := hfin _ hRX (hbig _ (Or.inr (Nat.le_refl _)))
    exact ⟨q, h1, h2, _, h3, fun _ => rfl, fun h => absurd hr0 h⟩
  · obtain ⟨j, hj⟩ : ∃ j, j = nd B := ⟨_, rfl⟩
    have hj10 : j ≤ 10 := by rw [hj]; exact (nd_le_iff _ _).2 (by have := i31_T; omega)
    have hBj : B < T j := by rw [hj]; exact lt_T_nd B
    have hBj2 : T j ≤ 10 * B := by
      have h1 := T_le_of_nd (n := B) (by omega)
      have h2 : nd B ≠ 0 := by have := nd_pos (n := B) (by omega); omega
      rw [hj, show nd B = (nd B - 1) + 1 by omega, T_succ]
      omega
    generalize A / B = k at *
    generalize A % B = r at *
    have hM0 : 0 < (k + 1) * T j := Nat.mul_pos (by omega) (T_pos j)
    have l1 : (k * T j + 1) * B ≤ A * T j := by
      rw [← hd]
      have h1 : r * T j ≥ 1 * T j := Nat.mul_le_mul_right _ (by omega)
      have h2 : (k * T j + 1) * B = B * k * T j + B := by rw [Nat.add_mul, Nat.one_mul]; congr 1; ac_rfl
      have h3 : (B * k + r) * T j = B * k * T j + r * T j := Nat.add_mul _ _ _
      rw [h2, h3]
      omega
    have l2 : A * T j ≤ ((k + 1) * T j - 1) * B := by
      rw [← hd, Nat.sub_mul, Nat.one_mul]
      have h1 : (B * k + r) * T j + T j ≤ (k + 1) * T j * B := by
        have h2 : (B * k + r) * T j + T j = (B * k + r + 1) * T j := by rw [Nat.add_mul (B * k + r), Nat.one_mul]
        have h3 : (k + 1) * T j * B = (B * k + B) * T j := by
          rw [show B * k + B = B * (k + 1) by rw [Nat.mul_succ]]; ac_rfl
        rw [h2, h3]
        exact Nat.mul_le_mul_right _ (by omega)
      omega
    have x1 := (hqb j hj10 (k * T j + 1)).1 l1
    have x2 := (hqb j hj10 ((k + 1) * T j - 1)).2 l2
    have hM : (k + 1) * T j - 1 < T 15 := by
      have h1 : (k + 1) * T j ≤ (k + 1) * (10 * B) := Nat.mul_le_mul_left _ hBj2
      have h2 : (k + 1) * (10 * B) = 10 * (B * k + B) := by rw [show B * k + B = B * (k + 1) by rw [Nat.mul_succ]]; ac_rfl
      have h3 : T 15 = 1000000000000000 := by decide
      omega
    obtain ⟨y1, y2⟩ := R_between hM (by omega) x1 x2
    have hT : T 100 = T j * T (100 - j) := by rw [← T_add]; congr 1; omega
    have hp := T_pos (100 - j)
    have z1 : k * T 100 < R X := by
      refine Nat.lt_of_lt_of_le ?_ y1
      rw [hT, ← Nat.mul_assoc]
      exact Nat.mul_lt_mul_of_pos_right (by omega) hp
    have z2 : R X < (k + 1) * T 100 := by
      refine Nat.lt_of_le_of_lt y2 ?_
      rw [hT, ← Nat.mul_assoc]
      exact Nat.mul_lt_mul_of_pos_right (by omega) hp
    obtain ⟨q, h1, h2, h3⟩ := hfin _ rfl (hbig _ (Or.inl z2))
    exact ⟨q, h1, h2, _, h3, fun h => absurd h hr0, fun _ => ⟨z1, z2⟩⟩
/-- The floor of a quotient of whole numbers. -/
theorem quot_whole {a b n m : Int} (h : Left a b n m) (hb : b ≠ 0) (ha' : a.natAbs ≤ 2147483648) (hb' : b.natAbs ≤ 2147483648) :
    ∃ q, divS (wholeN a).1 (wholeN a).2 (wholeN b).1 (wholeN b).2 = some q ∧ Rt q.1 q.2 ∧ floorS q.1 q.2 = wholeN n := by
  have hT : T 15 = 1000000000000000 := by decide
  obtain ⟨_, a1, _, a3, _⟩ := wholex (n := a) (by omega)
  obtain ⟨_, b1, _, b3, _⟩ := wholex (n := b) (by omega)
  unfold divS
  rw [if_pos ⟨a1, b1, fun h => hb (b3.1 h)⟩]
  by_cases h0 : a = 0
  · subst h0
    have hn : n = 0 := by
      obtain ⟨h1, h2, h3⟩ := h
      rcases Int.lt_or_gt_of_ne hb with hb0 | hb0
      · exact mul_small (b := -b) (y := m) (by have := Int.neg_mul b n; omega) (by omega) (by omega)
      · exact mul_small (b := b) (y := -m) (by omega) (by omega) (by omega)
    subst hn
    refine ⟨(0, 0), ?_, Or.inl ⟨rfl, rfl⟩, by rw [whole_zero]; exact floor_zero⟩
    rw [whole_zero]
    unfold divR
    rw [show (0 : Int).natAbs = 0 from rfl, Nat.zero_mul, Nat.zero_div]
    exact rnd_nought _ _ _
  · obtain ⟨ka, e1, e2, e3⟩ := whole_mant (a := a) (by omega) h0
    obtain ⟨kb, f1, f2, f3⟩ := whole_mant (a := b) (by omega) hb
    have hn := left_nat h hb h0
    have hA : a.natAbs = (wholeN a).1.natAbs * T ka := by
      have h9 : a.natAbs = ((wholeN a).1 * ((T ka : Nat) : Int)).natAbs := congrArg Int.natAbs e2
      rw [h9, Int.natAbs_mul, Int.natAbs_natCast]
    have hB : b.natAbs = (wholeN b).1.natAbs * T kb := by
      have h9 : b.natAbs = ((wholeN b).1 * ((T kb : Nat) : Int)).natAbs := congrArg Int.natAbs f2
      rw [h9, Int.natAbs_mul, Int.natAbs_natCast]
    have hsa : decide ((wholeN a).1 < 0) = decide (a < 0) := by
      have := T_pos ka
      by_cases hx : (wholeN a).1 < 0
      · have : (wholeN a).1 * (T ka : Nat) < 0 := Int.mul_neg_of_neg_of_pos hx (by omega)
        rw [decide_eq_true hx, decide_eq_true (show a < 0 by omega)]
      · have : 0 ≤ (wholeN a).1 * (T ka : Nat) := Int.mul_nonneg (by omega) (by omega)
        rw [decide_eq_false hx, decide_eq_false (show ¬ a < 0 by omega)]
    have hsb : decide ((wholeN b).1 < 0) = decide (b < 0) := by
      have := T_pos kb
      by_cases hx : (wholeN b).1 < 0
      · have : (wholeN b).1 * (T kb : Nat) < 0 := Int.mul_neg_of_neg_of_pos hx (by omega)
        rw [decide_eq_true hx, decide_eq_true (show b < 0 by omega)]
      · have : 0 ≤ (wholeN b).1 * (T kb : Nat) := Int.mul_nonneg (by omega) (by omega)
        rw [decide_eq_false hx, decide_eq_false (show ¬ b < 0 by omega)]
    obtain ⟨q, h1, h2, Z, h3, h4, h5⟩ := quot_R (P := (wholeN a).1.natAbs) (Q := (wholeN b).1.natAbs) (by omega) (by omega) hA hB ha' hb' (ngB (wholeN a).1 (wholeN b).1)
    rw [e1, f1]
    refine ⟨q, h1, h2, ?_⟩
    have hng : ngB (wholeN a).1 (wholeN b).1 = !(decide (a < 0) == decide (b < 0)) := by unfold ngB; rw [hsa, hsb]
    rw [hng] at h3
    have hk : a.natAbs / b.natAbs ≤ a.natAbs := Nat.div_le_self _ _
    have hp := T_pos 100
    generalize a.natAbs / b.natAbs = k at *
    generalize a.natAbs % b.natAbs = r at *
    cases hs : (decide (a < 0) == decide (b < 0)) with
    | true =>
      rw [hs] at h3 hn
      rw [if_pos rfl] at hn
      have h3' : sc q.1 q.2 = (Z : Int) := h3
      refine floor_uniq h2 (by omega) ?_ ?_
      · rw [h3', hn]; unfold HX; rw [← Int.natCast_mul]
        by_cases hr : r = 0
        · rw [h4 hr]; exact Int.le_refl _
        · have := (h5 hr).1; omega
      · rw [h3', hn]; unfold HX; rw [show ((k : Nat) : Int) + 1 = ((k + 1 : Nat) : Int) by omega, ← Int.natCast_mul]
        by_cases hr : r = 0
        · rw [h4 hr]; have := Nat.mul_lt_mul_of_pos_right (show k < k + 1 by omega) hp; omega
        · have := (h5 hr).2; omega
    | false =>
      rw [hs] at h3 hn
      rw [if_neg (by simp)] at hn
      have h3' : sc q.1 q.2 = -(Z : Int) := h3
      by_cases hr : r = 0
      · rw [if_pos hr] at hn
        have hz := h4 hr
        refine floor_uniq h2 (by omega) ?_ ?_
        · rw [h3', hn, hz]; unfold HX; rw [Int.neg_mul, ← Int.natCast_mul]; omega
        · rw [h3', hn, hz]; unfold HX; rw [Int.add_mul, Int.neg_mul, ← Int.natCast_mul]; omega
      · rw [if_neg hr] at hn
        obtain ⟨u1, u2⟩ := h5 hr
        rw [Nat.add_mul] at u2
        refine floor_uniq h2 (by omega) ?_ ?_
        · rw [h3', hn]; unfold HX; rw [Int.sub_mul, Int.neg_mul, ← Int.natCast_mul]; omega
        · rw [h3', hn, show -((k : Nat) : Int) - 1 + 1 = -((k : Nat) : Int) by omega]; unfold HX; rw [Int.neg_mul, ← Int.natCast_mul]; omega
/-- What is left, by Div, Floor, Mul and Sub. -/
theorem left_bd {a b n m : Int} (h : Left a b n m) (hb : b ≠ 0) (ha' : a.natAbs ≤ 2147483648) (hb' : b.natAbs ≤ 2147483648) : (b * n).natAbs ≤ 4294967296 ∧ m.natAbs ≤ 2147483648 ∧ n.natAbs ≤ 4294967296 := by
  obtain ⟨h1, h2, h3⟩ := h
  have hm : m.natAbs ≤ 2147483648 := by omega
  have hbn : (b * n).natAbs ≤ 4294967296 := by omega
  refine ⟨hbn, hm, ?_⟩
  have : n.natAbs ≤ (b * n).natAbs := by rw [Int.natAbs_mul]; exact Nat.le_mul_of_pos_left _ (by omega)
  omega
theorem left_whole {a b n m : Int} (h : Left a b n m) (hb : b ≠ 0) (ha' : a.natAbs ≤ 2147483648) (hb' : b.natAbs ≤ 2147483648) :
    mulS (wholeN b).1 (wholeN b).2 (wholeN n).1 (wholeN n).2 = some (wholeN (b * n)) ∧ subS (wholeN a).1 (wholeN a).2 (wholeN (b * n)).1 (wholeN (b * n)).2 = some (wholeN m) := by
  have hT : T 15 = 1000000000000000 := by decide
  obtain ⟨c1, c2, c3⟩ := left_bd h hb ha' hb'
  rw [mul_whole (by omega) (by omega), sub_whole (by omega) (by omega), (wholex (n := b * n) (by omega)).1]
  refine ⟨rfl, ?_⟩
  rw [show a - b * n = m by have := h.1; omega]
  exact (wholex (by omega)).1
end Go.Proofs.YtkcoikelcmpceaaGreatDoor
namespace Go.Proofs.YtkcoikelcmpceaaGreatDoor
open Go.RowKit NM
@[go_sem] theorem nV_kind (p : Nm) : (nV p).kind = 1 := rfl
@[go_sem] theorem nV_mant (p : Nm) : (nV p).mant = p.1 := rfl
@[go_sem] theorem nV_exp (p : Nm) : (nV p).exp = p.2 := rfl
@[go_sem] theorem nV_text (p : Nm) : (nV p).text = ⟨#[]⟩ := rfl
@[go_sem] theorem nV_truth (p : Nm) : (nV p).truth = false := rfl
@[go_sem] theorem nV_fault (p : Nm) : (nV p).fault = 0 := rfl
theorem rd_block {W : World} {p : Nat} {cs : List Value} (h : ∀ j u, cs[j]? = some u → W.cell? ⟨p, j, none⟩ = some u) : Rd 0 W (some ⟨p, 0, none⟩) cs := fun j u hu => ⟨p, 0, rfl, Nat.zero_le _, by rw [Nat.zero_add]; exact h j u hu⟩
theorem karr1 {W : World} {p : Nat} {x : Val} (hv : ValAt W p 0 x) (hx : x.ok) : ArrIn W (some ⟨p, 0, none⟩) 1 1 [x] := by
  obtain ⟨h0, h1, h2, h3, h4, h5⟩ := hv
  refine ⟨rd_block fun j u hu => ?_, rfl, Nat.le_refl _, by decide, fun y hy => by rw [List.mem_singleton.1 hy]; exact hx⟩
  have e : vcells [x] = [.int .i64 x.kind, .int .i64 x.mant, .int .i64 x.exp, .string x.text, .bool x.truth, .int .i64 x.fault] := rfl
  rw [e] at hu
  match j, hu with
  | 0, hu => obtain rfl := Option.some.inj hu; exact h0
  | 1, hu => obtain rfl := Option.some.inj hu; exact h1
  | 2, hu => obtain rfl := Option.some.inj hu; exact h2
  | 3, hu => obtain rfl := Option.some.inj hu; exact h3
  | 4, hu => obtain rfl := Option.some.inj hu; exact h4
  | 5, hu => obtain rfl := Option.some.inj hu; exact h5
  | j + 6, hu => simp at hu
theorem karr2 {W : World} {p : Nat} {x y : Val} (hv : ValAt W p 0 x) (hw : ValAt W p 6 y) (hx : x.ok) (hy : y.ok) : ArrIn W (some ⟨p, 0, none⟩) 2 2 [x, y] := by
  obtain ⟨h0, h1, h2, h3, h4, h5⟩ := hv
  obtain ⟨g0, g1, g2, g3, g4, g5⟩ := hw
  refine ⟨rd_block fun j u hu => ?_, rfl, Nat.le_refl _, by decide, fun z hz => by rcases List.mem_cons.1 hz with rfl | hz; exact hx; rw [List.mem_singleton.1 hz]; exact hy⟩
  have e : vcells [x, y] = [.int .i64 x.kind, .int .i64 x.mant, .int .i64 x.exp, .string x.text, .bool x.truth, .int .i64 x.fault, .int .i64 y.kind, .int .i64 y.mant, .int .i64 y.exp, .string y.text, .bool y.truth, .int .i64 y.fault] := rfl
  rw [e] at hu
  match j, hu with
  | 0, hu => obtain rfl := Option.some.inj hu; exact h0
  | 1, hu => obtain rfl := Option.some.inj hu; exact h1
  | 2, hu => obtain rfl := Option.some.inj hu; exact h2
  | 3, hu => obtain rfl := Option.some.inj hu; exact h3
  | 4, hu => obtain rfl := Option.some.inj hu; exact h4
  | 5, hu => obtain rfl := Option.some.inj hu; exact h5
  | 6, hu => obtain rfl := Option.some.inj hu; exact g0
  | 7, hu => obtain rfl := Option.some.inj hu; exact g1
  | 8, hu => obtain rfl := Option.some.inj hu; exact g2
  | 9, hu => obtain rfl := Option.some.inj hu; exact g3
  | 10, hu => obtain rfl := Option.some.inj hu; exact g4
  | 11, hu => obtain rfl := Option.some.inj hu; exact g5
  | j + 12, hu => simp at hu
theorem kargs2 {W : World} {p : Nat} {a b : Ar} (h : ArAt W p 0 a) (g : ArAt W p 3 b) (ha : ArOk W a) (hb : ArOk W b) : ArgsIn W (some ⟨p, 0, none⟩) 2 2 [a, b] := by
  obtain ⟨h0, h1, h2⟩ := h
  obtain ⟨g0, g1, g2⟩ := g
  refine ⟨rd_block fun j u hu => ?_, rfl, Nat.le_refl _, by decide, fun z hz => by rcases List.mem_cons.1 hz with rfl | hz; exact ha; rw [List.mem_singleton.1 hz]; exact hb⟩
  have e : acells [a, b] = [.int .i64 a.x.R, .int .i64 a.x.C, .slice a.A a.n a.cap, .int .i64 b.x.R, .int .i64 b.x.C, .slice b.A b.n b.cap] := rfl
  rw [e] at hu
  match j, hu with
  | 0, hu => obtain rfl := Option.some.inj hu; exact h0
  | 1, hu => obtain rfl := Option.some.inj hu; exact h1
  | 2, hu => obtain rfl := Option.some.inj hu; exact h2
  | 3, hu => obtain rfl := Option.some.inj hu; exact g0
  | 4, hu => obtain rfl := Option.some.inj hu; exact g1
  | 5, hu => obtain rfl := Option.some.inj hu; exact g2
  | j + 6, hu => simp at hu
/-- A row of values. -/
def rowA (l : List Val) : NA := ⟨1, l.length, l⟩
theorem rowA_right {l : List Val} (h0 : 0 < l.length) (hl : l.length ≤ 4096) (h : ∀ x ∈ l, x.right) : (rowA l).right := rightA_nat.2 ⟨Nat.le_refl _, h0, by show 1 * l.length ≤ 4096; omega, by show l.length = 1 * l.length; omega, h⟩
theorem rt_k {k : Int} (h0 : k ≠ 0) (h1 : k.natAbs < 1000000000000000) (h2 : k.natAbs % 10 ≠ 0) : Rt k 0 := rt_lit h0 h1 h2 (by omega) (by omega)
theorem whole_k {k : Int} (h0 : k ≠ 0) (h1 : k.natAbs < 1000000000000000) (h2 : k.natAbs % 10 ≠ 0) : wholeN k = (k, 0) := by
  unfold wholeN; rw [rndx_right (rt_k h0 h1 h2)]; rfl
theorem both_oneV {t : Val → Val → Val} {x y : Val} (hx : x.right) (hy : y.right) (ht : (t x y).right) (D1 D2 : Option Addr) (m1 c1 m2 c2 : Nat) : bothO t [arAt (rowA [x]) D1 m1 c1, arAt (rowA [y]) D2 m2 c2] = oneA (t x y) := by
  show bothRes t 1 1 [x] 1 1 [y] = _
  have r1 : rightA 1 1 [x] = true := rowA_right (l := [x]) (by simp) (by simp) (fun z hz => by rw [List.mem_singleton.1 hz]; exact hx)
  have r2 : rightA 1 1 [y] = true := rowA_right (l := [y]) (by simp) (by simp) (fun z hz => by rw [List.mem_singleton.1 hz]; exact hy)
  unfold bothRes
  rw [r1, r2]
  have : bothL t 1 1 [x] 1 1 [y] = [oneV (t x y)] := rfl
  rw [koneV ht] at this
  simp only [Bool.and_self, if_true]
  rw [if_pos (by decide)]
  exact congrArg (NA.mk 1 1) this
theorem tn_nV (p : Nm) : tnF (nV p) = 0 ∧ tnP (nV p) = p := ⟨rfl, rfl⟩
/-- MOD of whole numbers. -/
theorem modV_whole {a b n m : Int} (h : Left a b n m) (hb : b ≠ 0) (ha' : a.natAbs ≤ 2147483648) (hb' : b.natAbs ≤ 2147483648) : modV (nV (wholeN a)) (nV (wholeN b)) = nV (wholeN m) := by
  have hT : T 15 = 1000000000000000 := by decide
  obtain ⟨q, h1, h2, h3⟩ := quot_whole h hb ha' hb'
  obtain ⟨h4, h5⟩ := left_whole h hb ha' hb'
  have hb0 : (wholeN b).1 ≠ 0 := fun e => hb ((wholex (by omega)).2.2.2.1.1 e)
  unfold modV
  rw [(tn_nV _).1, (tn_nV _).1, (tn_nV _).2, (tn_nV _).2, if_neg (by simp), if_neg (by simp)]
  unfold modN
  rw [if_neg hb0, h1]
  simp only
  rw [h3, h4]
  simp only
  rw [h5]
  rfl
theorem par_1 : parS ⟨#[49]⟩ = some (1, 0) := by
  unfold parS
  rw [if_neg (by decide)]
  exact rndx_right (m := 1) (e := 0) (rt_lit (by decide) (by decide) (by decide) (by decide) (by decide))
def gt1V : Val := ⟨2, 0, 0, ⟨#[62, 49]⟩, false, 0⟩
@[go_sem] theorem gt1_kind : gt1V.kind = 2 := rfl
@[go_sem] theorem gt1_mant : gt1V.mant = 0 := rfl
@[go_sem] theorem gt1_exp : gt1V.exp = 0 := rfl
@[go_sem] theorem gt1_text : gt1V.text = ⟨#[62, 49]⟩ := rfl
@[go_sem] theorem gt1_truth : gt1V.truth = false := rfl
@[go_sem] theorem gt1_fault : gt1V.fault = 0 := rfl
theorem right_gt1 : gt1V.right := by
  have := right_text ⟨#[62, 49]⟩
  exact this
theorem read_num {s : ByteArray} {p : Nm} (h : parS s = some p) (h0 : s.data.toList ≠ []) : readV s = nV p := by
  unfold readV
  have h1 : (s.toList == []) = false := by rw [ByteArray.toList_eq]; simpa using h0
  rw [h1, h, if_neg (by simp), if_pos (show (some p).isSome = true from rfl)]; rfl
theorem crit_gt1 : critO gt1V = (.gt, nV (1, 0)) := by
  have h1 : csOf ⟨#[62, 49]⟩ = some .gt := rfl
  unfold critO
  rw [if_pos (show gt1V.kind = 2 from rfl)]
  show (match csOf ⟨#[62, 49]⟩ with | some c => (c, readV ⟨(Lib.trimPrefix (ByteArray.mk #[62, 49]).data.toList c.key).toArray⟩) | none => (CS.eq, gt1V)) = _
  rw [h1]
  show (CS.gt, readV ⟨#[49]⟩) = _
  rw [read_num par_1 (by simp)]
theorem fits_gt1 (k : Int) (hk : Rt k 0) : kfitB .gt (nV (1, 0)) (nV (k, 0)) = decide (1 < k) := by
  unfold kfitB
  rw [if_pos (show (nV (k, 0)).kind = (nV (1, 0)).kind from rfl)]
  have h : cmpV (nV (k, 0)) (nV (1, 0)) = cmpS k 0 1 0 := rfl
  have e : sc k 0 - sc 1 0 = (k - 1) * ((T 100 : Nat) : Int) := by rw [sc_whole0, sc_whole0, Int.sub_mul]
  rw [h, cmp_sc hk rt_one, e, sign_T]
  show decide (0 < (k - 1).sign) = _
  rcases Int.lt_trichotomy (k - 1) 0 with h1 | h1 | h1
  · rw [Int.sign_eq_neg_one_of_neg h1, decide_eq_false (by omega), decide_eq_false (by omega)]
  · rw [h1, decide_eq_false (by decide), decide_eq_false (by omega)]
  · rw [Int.sign_eq_one_of_pos h1, decide_eq_true (by omega), decide_eq_true (by omega)]
theorem count_aw (D1 D2 : Option Addr) (m1 c1 m2 c2 : Nat) : countIfO [arAt (rowA [nV (1, 0), nV (5, 0)]) D1 m1 c1, arAt (rowA [gt1V]) D2 m2 c2] = oneA (nV (1, 0)) := by
  unfold countIfO
  have h1 : argV [arAt (rowA [nV (1, 0), nV (5, 0)]) D1 m1 c1, arAt (rowA [gt1V]) D2 m2 c2] 1 = gt1V := rfl
  have h0 : (argN [arAt (rowA [nV (1, 0), nV (5, 0)]) D1 m1 c1, arAt (rowA [gt1V]) D2 m2 c2] 0).l = [nV (1, 0), nV (5, 0)] := rfl
  rw [h1, h0, if_neg (by decide), crit_gt1]
  unfold countedO
  have h5 : Rt 5 0 := rt_k (by decide) (by decide) (by decide)
  have f1 := fits_gt1 1 rt_one
  have f5 := fits_gt1 5 h5
  have hf : ([nV (1, 0), nV (5, 0)].filter (kfitB CS.gt (nV (1, 0)))) = [nV (5, 0)] := by
    rw [List.filter_cons_of_neg (by rw [f1]; simp), List.filter_cons_of_pos (by rw [f5]; simp)]; rfl
  simp only
  rw [hf]
  show oneA (cntV 1) = _
  unfold cntV
  rw [whole_k (k := 1) (by decide) (by decide) (by decide)]
  rfl
theorem krow_in {A : Option Addr} {n cap : Nat} {l : List Val} (w : World) (h : ArrIn w A n cap l) : Calls Tryz.prog 10 #[.slice A n cap] w fun e w' => e = .returned (AV 1 n (.slice A n cap)) ∧ ArrIn w' A n cap l ∧ Ext w w' :=
  (krow_any A n cap w h.small).mono fun e w' ⟨h1, h2⟩ => ⟨h1, h.ext h2, h2⟩
section
variable {W : World} {p : Nat}
theorem row_at_ {o : Nat} {D : Option Addr} {n c : Nat} {l : List Val} (h : ArrIn W D n c l) (c0 : W.cell? ⟨p, o, none⟩ = some (.int .i64 1)) (c1 : W.cell? ⟨p, o + 1, none⟩ = some (.int .i64 (n : Int))) (c2 : W.cell? ⟨p, o + 2, none⟩ = some (.slice D n c)) : ArAt W p o (arAt (rowA l) D n c) :=
  ⟨c0, by show _ = some (Value.int .i64 (l.length : Int)); rw [h.len]; exact c1, c2⟩
theorem krows2 {D D' : Option Addr} {n c n' c' : Nat} {l l' : List Val} (h : ArrIn W D n c l) (hr : (rowA l).right) (h' : ArrIn W D' n' c' l') (hr' : (rowA l').right) (c0 : W.cell? ⟨p, 0, none⟩ = some (.int .i64 1)) (c1 : W.cell? ⟨p, 1, none⟩ = some (.int .i64 (n : Int))) (c2 : W.cell? ⟨p, 2, none⟩ = some (.slice D n c)) (c3 : W.cell? ⟨p, 3, none⟩ = some (.int .i64 1)) (c4 : W.cell? ⟨p, 4, none⟩ = some (.int .i64 (n' : Int))) (c5 : W.cell? ⟨p, 5, none⟩ = some (.slice D' n' c')) :
    ArgsIn W (some ⟨p, 0, none⟩) 2 2 [arAt (rowA l) D n c, arAt (rowA l') D' n' c'] := kargs2 (row_at_ h c0 c1 c2) (row_at_ h' c3 c4 c5) ⟨h, hr⟩ ⟨h', hr'⟩
end
theorem one_row {x : Val} (hx : x.right) : (rowA [x]).right := rowA_right (by simp) (by simp) (fun z hz => by rw [List.mem_singleton.1 hz]; exact hx)
theorem two_row {x y : Val} (hx : x.right) (hy : y.right) : (rowA [x, y]).right := rowA_right (by simp) (by simp) (fun z hz => by rcases List.mem_cons.1 hz with rfl | hz; exact hx; rw [List.mem_singleton.1 hz]; exact hy)
/-- Call of known arguments that may be. -/
theorem mcall_in {s : ByteArray} {A : Option Addr} {n cap lo hi : Nat} {xs : List Ar} {w : World} {F : List Ar → NA} {X : NA} (h : ArgsIn w A n cap xs) (h1 : lo ≤ n) (h2 : n ≤ hi) (hX : F xs = X)
    (hc : ArgsG w A n cap (xs.map Ar.toG) → Calls Tryz.prog 14 #[.string s, .slice A n cap] w (CallG w (callX lo hi (xs.map Ar.toG) (F (arsOf (xs.map Ar.toG)))))) : Calls Tryz.prog 14 #[.string s, .slice A n cap] w (CallG w X) := by
  have hc := hc h.toG
  rw [arsOf_toG, callX_in _ (by rw [h.len]; exact h1) (by rw [h.len]; exact h2) (fun a ha => (h.all a ha).right), hX] at hc
  exact hc
/-- What Call tells where it is one value, and where that lies. -/
theorem CallG.here {w : World} {y : Val} {e : Ending} {w' : World} (h : CallG w (oneA y) e w') : ∃ D c, e = .returned (.tuple #[AV 1 1 (.slice D 1 c), .bool true]) ∧ ArrIn w' D 1 c [y] ∧ Ext w w' := by
  obtain ⟨D, m, cc, rfl, hN, hb⟩ := h
  have harr := hN.arr
  have hm : 1 = m := harr.len
  subst hm
  exact ⟨D, cc, rfl, harr, hb⟩
/-- The law's one, of known arguments that may be. -/
theorem kone_in {s : ByteArray} {A : Option Addr} {n cap lo hi : Nat} {xs : List Ar} {w : World} {F : List Ar → NA} {y : Val} (h : ArgsIn w A n cap xs) (h1 : lo ≤ n) (h2 : n ≤ hi) (hX : F xs = oneA y)
    (hc : ∀ W, Ext w W → ArgsG W A n cap (xs.map Ar.toG) → Calls Tryz.prog 14 #[.string s, .slice A n cap] W (CallG W (callX lo hi (xs.map Ar.toG) (F (arsOf (xs.map Ar.toG)))))) :
    Calls Tryz.prog 9 #[.string s, .slice A n cap] w fun e w' => e = .returned (VV y.kind y.mant y.exp y.text y.truth y.fault) ∧ Ext w w' :=
  kone_any s A n cap y w (fun W hW => (mcall_in (h.ext hW) h1 h2 hX (hc W hW)).mono fun e w' h => h.one)
theorem eql_same (k m e : Int) (t : ByteArray) (b : Bool) (f : Int) (w : World) : (binOp .eql 30 (VV k m e t b f) (VV k m e t b f)).run Tryz.prog w = .ok (.bool true) w := by
  rw [eql_val]; simp [eqV]
end Go.Proofs.YtkcoikelcmpceaaGreatDoor
namespace Go.Proofs.YtkcoikelcmpceaaGreatDoor
open Go.RowKit NM
theorem mod_aw (D1 D2 : Option Addr) (m1 c1 m2 c2 : Nat) : bothO modV [arAt (rowA [nV (-7, 0)]) D1 m1 c1, arAt (rowA [nV (3, 0)]) D2 m2 c2] = oneA (nV (2, 0)) := by
  have h7 : (nV (-7, 0)).right := right_num (rt_k (by decide) (by decide) (by decide))
  have h3 : (nV (3, 0)).right := right_num (rt_k (by decide) (by decide) (by decide))
  rw [both_oneV h7 h3 right_modV]
  have h := modV_whole (a := -7) (b := 3) (n := -3) (m := 2) ⟨by decide, fun _ => ⟨by decide, by decide⟩, fun h => absurd h (by decide)⟩ (by decide) (by decide) (by decide)
  rw [whole_k (k := -7) (by decide) (by decide) (by decide), whole_k (k := 3) (by decide) (by decide) (by decide), whole_k (k := 2) (by decide) (by decide) (by decide)] at h
  rw [h]
theorem ok_k {k : Int} (h0 : k ≠ 0) (h1 : k.natAbs < 1000000000000000) (h2 : k.natAbs % 10 ≠ 0) : (nV (k, 0)).right := right_num (rt_k h0 h1 h2)
theorem same_one (x : Val) : sameA 1 1 [x] 1 1 [x] = true := by simp [sameA]
set_option maxHeartbeats 4000000 in
theorem awake11_any (w : World) (htab : Tab w) (hft : FTab w) :
    Calls Tryz.prog 7 #[] w fun e w' => e = .returned (.bool true) ∧ Ext w w' := by
  have HT := Lib.hid htab
  have HF := Lib.hid hft
  clear htab hft
  go_enter Tryz.func7, Tryz.ntmps7
  have r7 : (nV (-7, 0)).right := ok_k (by decide) (by decide) (by decide)
  have r3 : (nV (3, 0)).right := ok_k (by decide) (by decide) (by decide)
  have r1 : (nV (1, 0)).right := ok_k (by decide) (by decide) (by decide)
  have r5 : (nV (5, 0)).right := ok_k (by decide) (by decide) (by decide)
  have r2 : (nV (2, 0)).right := ok_k (by decide) (by decide) (by decide)
  go_wp2_with (first | (go_at_call 12; (with_reducible refine (knumber_any (-7) _).mono ?_); rintro e w' ⟨rfl, hb⟩; obtain ⟨os1, d1, rfl⟩ := hb.more; clear hb) | (go_at_call 12; (with_reducible refine (knumber_any 3 _).mono ?_); rintro e w' ⟨rfl, hb⟩; obtain ⟨os2, d2, rfl⟩ := hb.more; clear hb) | (go_at_call 10; (with_reducible refine (krow_in (l := [nV (-7, 0)]) (n := 1) _ ?_).mono ?_); refine karr1 (x := nV (-7, 0)) ⟨?_, ?_, ?_, ?_, ?_, ?_⟩ r7.ok; (focus (go_simp; done)); (focus (go_simp; done)); (focus (go_simp; done)); (focus (go_simp; done)); (focus (go_simp; done)); (focus (go_simp; done)); rintro e w' ⟨rfl, hA1, hb⟩; obtain ⟨osr1, dr1, rfl⟩ := hb.more; clear hb) | (go_at_call 10; (with_reducible refine (krow_in (l := [nV (3, 0)]) (n := 1) _ ?_).mono ?_); refine karr1 (x := nV (3, 0)) ⟨?_, ?_, ?_, ?_, ?_, ?_⟩ r3.ok; (focus (go_simp; done)); (focus (go_simp; done)); (focus (go_simp; done)); (focus (go_simp; done)); (focus (go_simp; done)); (focus (go_simp; done)); rintro e w' ⟨rfl, hA2, hb⟩; obtain ⟨osr2, dr2, rfl⟩ := hb.more; clear hb))
  refine (mcall_in (krows2 (hA1.ext (by repeat (first | (with_reducible (first | exact Ext.refl _ | exact ext_d _ _ _ _ | exact ext_app _ _ _ _ _ | exact ext_app2 _ _ _ _ _ _)) | ((with_reducible refine ext_suffix ⟨_, ?_⟩); (try simp only [Array.append_assoc]); rfl) | (with_reducible (first | apply Ext.drew | apply Ext.alloc | apply Ext.more_))))) (one_row r7) (hA2.ext (by repeat (first | (with_reducible (first | exact Ext.refl _ | exact ext_d _ _ _ _ | exact ext_app _ _ _ _ _ | exact ext_app2 _ _ _ _ _ _)) | ((with_reducible refine ext_suffix ⟨_, ?_⟩); (try simp only [Array.append_assoc]); rfl) | (with_reducible (first | apply Ext.drew | apply Ext.alloc | apply Ext.more_))))) (one_row r3) (by (go_simp; done)) (by (go_simp; done)) (by (go_simp; done)) (by (go_simp; done)) (by (go_simp; done)) (by (go_simp; done))) (by decide) (by decide) (mod_aw _ _ _ _ _ _) (fun g => mcall_mod _ _ _ _ _ (HT.out.ext (by repeat (first | (with_reducible (first | exact Ext.refl _ | exact ext_d _ _ _ _ | exact ext_app _ _ _ _ _ | exact ext_app2 _ _ _ _ _ _)) | ((with_reducible refine ext_suffix ⟨_, ?_⟩); (try simp only [Array.append_assoc]); rfl) | (with_reducible (first | apply Ext.drew | apply Ext.alloc | apply Ext.more_))))) g)).mono ?_
  rintro e w' hc
  obtain ⟨D7, c7, rfl, hA7, hb⟩ := hc.here
  obtain ⟨os7, d7, rfl⟩ := hb.more
  clear hb hc hA1 hA2
  (try simp only [more_more, Array.append_assoc] at hA7)
  go_wp2_with (first | (go_at_call 12; (with_reducible refine (knumber_any 1 _).mono ?_); rintro e w' ⟨rfl, hb⟩; obtain ⟨os3, d3, rfl⟩ := hb.more; clear hb) | (go_at_call 12; (with_reducible refine (knumber_any 5 _).mono ?_); rintro e w' ⟨rfl, hb⟩; obtain ⟨os4, d4, rfl⟩ := hb.more; clear hb) | (go_at_call 10; (with_reducible refine (krow_in (l := [nV (1, 0), nV (5, 0)]) (n := 2) _ ?_).mono ?_); refine karr2 (x := nV (1, 0)) (y := nV (5, 0)) ⟨?_, ?_, ?_, ?_, ?_, ?_⟩ ⟨?_, ?_, ?_, ?_, ?_, ?_⟩ r1.ok r5.ok; (focus (go_simp; done)); (focus (go_simp; done)); (focus (go_simp; done)); (focus (go_simp; done)); (focus (go_simp; done)); (focus (go_simp; done)); (focus (go_simp; done)); (focus (go_simp; done)); (focus (go_simp; done)); (focus (go_simp; done)); (focus (go_simp; done)); (focus (go_simp; done)); rintro e w' ⟨rfl, hA3, hb⟩; obtain ⟨osr3, dr3, rfl⟩ := hb.more; clear hb) | (go_at_call 10; (with_reducible refine (krow_in (l := [gt1V]) (n := 1) _ ?_).mono ?_); refine karr1 (x := gt1V) ⟨?_, ?_, ?_, ?_, ?_, ?_⟩ right_gt1.ok; (focus (go_simp; done)); (focus (go_simp; done)); (focus (go_simp; done)); (focus (go_simp; done)); (focus (go_simp; done)); (focus (go_simp; done)); rintro e w' ⟨rfl, hA4, hb⟩; obtain ⟨osr4, dr4, rfl⟩ := hb.more; clear hb))
  refine (mcall_in (krows2 (hA3.ext (by repeat (first | (with_reducible (first | exact Ext.refl _ | exact ext_d _ _ _ _ | exact ext_app _ _ _ _ _ | exact ext_app2 _ _ _ _ _ _)) | ((with_reducible refine ext_suffix ⟨_, ?_⟩); (try simp only [Array.append_assoc]); rfl) | (with_reducible (first | apply Ext.drew | apply Ext.alloc | apply Ext.more_))))) (two_row r1 r5) (hA4.ext (by repeat (first | (with_reducible (first | exact Ext.refl _ | exact ext_d _ _ _ _ | exact ext_app _ _ _ _ _ | exact ext_app2 _ _ _ _ _ _)) | ((with_reducible refine ext_suffix ⟨_, ?_⟩); (try simp only [Array.append_assoc]); rfl) | (with_reducible (first | apply Ext.drew | apply Ext.alloc | apply Ext.more_))))) (one_row right_gt1) (by (go_simp; done)) (by (go_simp; done)) (by (go_simp; done)) (by (go_simp; done)) (by (go_simp; done)) (by (go_simp; done))) (by decide) (by decide) (count_aw _ _ _ _ _ _) (fun g => mcall_countif _ _ _ _ _ (HT.out.ext (by repeat (first | (with_reducible (first | exact Ext.refl _ | exact ext_d _ _ _ _ | exact ext_app _ _ _ _ _ | exact ext_app2 _ _ _ _ _ _)) | ((with_reducible refine ext_suffix ⟨_, ?_⟩); (try simp only [Array.append_assoc]); rfl) | (with_reducible (first | apply Ext.drew | apply Ext.alloc | apply Ext.more_))))) (HF.out.ext (by repeat (first | (with_reducible (first | exact Ext.refl _ | exact ext_d _ _ _ _ | exact ext_app _ _ _ _ _ | exact ext_app2 _ _ _ _ _ _)) | ((with_reducible refine ext_suffix ⟨_, ?_⟩); (try simp only [Array.append_assoc]); rfl) | (with_reducible (first | apply Ext.drew | apply Ext.alloc | apply Ext.more_))))) g)).mono ?_
  rintro e w' hc
  obtain ⟨D8, c8, rfl, hA8, hb⟩ := hc.here
  obtain ⟨os8, d8, rfl⟩ := hb.more
  clear hb hc hA3 hA4
  (try simp only [more_more, Array.append_assoc] at hA8)
  go_upto_region 3 with fail
  refine wp_world fun U hU => ?_
  have hx0 : Ext w U := by rw [hU]; exact (by repeat (first | (with_reducible (first | exact Ext.refl _ | exact ext_d _ _ _ _ | exact ext_app _ _ _ _ _ | exact ext_app2 _ _ _ _ _ _)) | ((with_reducible refine ext_suffix ⟨_, ?_⟩); (try simp only [Array.append_assoc]); rfl) | (with_reducible (first | apply Ext.drew | apply Ext.alloc | apply Ext.more_))))
  have hA7u : ArrIn U D7 1 c7 [nV (2, 0)] := hA7.ext (by rw [hU]; exact (by repeat (first | (with_reducible (first | exact Ext.refl _ | exact ext_d _ _ _ _ | exact ext_app _ _ _ _ _ | exact ext_app2 _ _ _ _ _ _)) | ((with_reducible refine ext_suffix ⟨_, ?_⟩); (try simp only [Array.append_assoc]); rfl) | (with_reducible (first | apply Ext.drew | apply Ext.alloc | apply Ext.more_)))))
  have hA8u : ArrIn U D8 1 c8 [nV (1, 0)] := hA8.ext (by rw [hU]; exact (by repeat (first | (with_reducible (first | exact Ext.refl _ | exact ext_d _ _ _ _ | exact ext_app _ _ _ _ _ | exact ext_app2 _ _ _ _ _ _)) | ((with_reducible refine ext_suffix ⟨_, ?_⟩); (try simp only [Array.append_assoc]); rfl) | (with_reducible (first | apply Ext.drew | apply Ext.alloc | apply Ext.more_)))))
  have a0 : U.cell? ⟨w.heap.size + os1.size + 1 + (osr1.size + os2.size) + 1 + osr2.size + 1 + os7.size, 0, none⟩ = some (.int .i64 1) := by rw [hU]; go_simp
  have a1 : U.cell? ⟨w.heap.size + os1.size + 1 + (osr1.size + os2.size) + 1 + osr2.size + 1 + os7.size, 1, none⟩ = some (.int .i64 1) := by rw [hU]; go_simp
  have a2 : U.cell? ⟨w.heap.size + os1.size + 1 + (osr1.size + os2.size) + 1 + osr2.size + 1 + os7.size, 2, none⟩ = some (.slice D7 1 c7) := by rw [hU]; go_simp
  have b0 : U.cell? ⟨w.heap.size + os1.size + 1 + (osr1.size + os2.size) + 1 + osr2.size + 1 + os7.size + 1 + (os3.size + os4.size) + 1 + osr3.size + 1 + osr4.size + 1 + os8.size, 0, none⟩ = some (.int .i64 1) := by rw [hU]; go_simp
  have b1 : U.cell? ⟨w.heap.size + os1.size + 1 + (osr1.size + os2.size) + 1 + osr2.size + 1 + os7.size + 1 + (os3.size + os4.size) + 1 + osr3.size + 1 + osr4.size + 1 + os8.size, 1, none⟩ = some (.int .i64 1) := by rw [hU]; go_simp
  have b2 : U.cell? ⟨w.heap.size + os1.size + 1 + (osr1.size + os2.size) + 1 + osr2.size + 1 + os7.size + 1 + (os3.size + os4.size) + 1 + osr3.size + 1 + osr4.size + 1 + os8.size, 2, none⟩ = some (.slice D8 1 c8) := by rw [hU]; go_simp
  have la := lt_of_cell a0
  have lb := lt_of_cell b0
  clear hU hA7 hA8
  generalize w.heap.size + os1.size + 1 + (osr1.size + os2.size) + 1 + osr2.size + 1 + os7.size + 1 + (os3.size + os4.size) + 1 + osr3.size + 1 + osr4.size + 1 + os8.size = pb at *
  generalize w.heap.size + os1.size + 1 + (osr1.size + os2.size) + 1 + osr2.size + 1 + os7.size = pa at *
  refine wp_plan (S := Ext _) [(0, 0), (1, 0), (2, 0), (3, 0), (4, 0), (5, 0), (6, 1), (7, 1), (8, 1), (9, 1), (10, 0), (11, 0), (12, 0), (13, 1), (14, 1), (15, 1), (16, 1), (17, 0), (18, 0)] [] (by kernel_rfl) (by kernel_rfl) (by kernel_rfl) (fun _ _ d _ _ h => by cases d <;> exact h) (Ext.drew (Ext.refl _)) ?_
  iterate 2 ((refine wpPl_read (v := ?_) rfl ?_ (fun _ h => ?_) ?_; rotate_left 1; rfl; (obtain ⟨_, _, rfl⟩ := h.more; go_simp; try rfl)); try simp only [Act.put, zqA, zqB, zqC])
  first | (refine wpPl_skip rfl rfl ?_) | (refine wpPl_read (v := ?_) rfl ?_ (fun w1 h1 => ?_) ?_; rotate_left 1; rfl; (obtain ⟨os1, d1, rfl⟩ := h1.more; go_simp; first | done | rfl)) | (refine wpPl_gread (v := ?_) (c := ?_) rfl rfl rfl rfl ?_ (fun hc w1 h1 => ?_) ?_; rotate_left 2; (first | exact gc_t _ | exact gc_f _ | exact gc_gt _ _ | exact gc_gf _ _); (obtain ⟨os1, d1, rfl⟩ := h1.more; (try simp only [gv_of hc]); (try (have hc1 := and_l hc; (try simp only [gv_of hc1]); (try (have hc2 := and_l hc1; (try simp only [gv_of hc2]))))); go_simp; first | done | rfl))
  try simp only [Act.put, zqA, zqB, zqC]
  first | (refine wpPl_pick_and rfl rfl rfl rfl rfl rfl ?_) | (refine wpPl_pick_or rfl rfl rfl rfl rfl rfl ?_) | (refine wpPl_read (v := ?_) rfl ?_ (fun w1 h1 => ?_) ?_; rotate_left 1; rfl; (obtain ⟨os1, d1, rfl⟩ := h1.more; go_simp; first | done | rfl))
  try simp only [Act.put, zqA, zqB, zqC]
  (refine wpPl_read (v := ?_) rfl ?_ (fun _ h => ?_) ?_; rotate_left 1; rfl; (obtain ⟨_, _, rfl⟩ := h.more; go_simp; try rfl))
  try simp only [Act.put, zqA, zqB, zqC]
  first | (refine wpPl_skip rfl rfl ?_) | (refine wpPl_read (v := ?_) rfl ?_ (fun w1 h1 => ?_) ?_; rotate_left 1; rfl; (obtain ⟨os1, d1, rfl⟩ := h1.more; go_simp; first | done | rfl)) | (refine wpPl_gread (v := ?_) (c := ?_) rfl rfl rfl rfl ?_ (fun hc w1 h1 => ?_) ?_; rotate_left 2; (first | exact gc_t _ | exact gc_f _ | exact gc_gt _ _ | exact gc_gf _ _); (obtain ⟨os1, d1, rfl⟩ := h1.more; (try simp only [gv_of hc]); (try (have hc1 := and_l hc; (try simp only [gv_of hc1]); (try (have hc2 := and_l hc1; (try simp only [gv_of hc2]))))); go_simp; first | done | rfl))
  try simp only [Act.put, zqA, zqB, zqC]
  (refine wpPl_eff rfl ?_ (fun K hK => ?_); (first | with_reducible rfl | rfl | (go_simp; done)); go_simp; refine (knumber_any 2 _).mono ?_; rintro e w' ⟨rfl, hb⟩; obtain ⟨osn5, dn5, rfl⟩ := hb.more; clear hb; refine hK _ _ ?_ ?_; (repeat (first | (with_reducible (first | exact Ext.refl _ | exact ext_d _ _ _ _ | exact ext_app _ _ _ _ _ | exact ext_app2 _ _ _ _ _ _ | exact ext_app3 _ _ _ _ _ _ _ | exact ext_app4 _ _ _ _ _ _ _ _ | exact ext_app5 _ _ _ _ _ _ _ _ _)) | ((with_reducible refine ext_suffix ⟨_, ?_⟩); (try simp only [Array.append_assoc]); rfl) | (with_reducible (first | apply Ext.drew | apply Ext.alloc | apply Ext.more_)) | apply Ext.drew | apply Ext.alloc | apply Ext.more_)))
  try simp only [Act.put, zqA, zqB, zqC]
  first | (refine wpPl_effskip rfl ?_ ?_ ?_; (first | with_reducible rfl | rfl | (go_simp; done)); (repeat (first | (with_reducible (first | exact Ext.refl _ | exact ext_d _ _ _ _ | exact ext_app _ _ _ _ _ | exact ext_app2 _ _ _ _ _ _ | exact ext_app3 _ _ _ _ _ _ _ | exact ext_app4 _ _ _ _ _ _ _ _ | exact ext_app5 _ _ _ _ _ _ _ _ _)) | ((with_reducible refine ext_suffix ⟨_, ?_⟩); (try simp only [Array.append_assoc]); rfl) | (with_reducible (first | apply Ext.drew | apply Ext.alloc | apply Ext.more_)) | apply Ext.drew | apply Ext.alloc | apply Ext.more_))) | (refine wpPl_eff rfl ?_ (fun K hK => ?_); (first | with_reducible rfl | rfl | (go_simp; done)); go_simp; refine hK _ _ ?_ ?_; (repeat (first | (with_reducible (first | exact Ext.refl _ | exact ext_d _ _ _ _ | exact ext_app _ _ _ _ _ | exact ext_app2 _ _ _ _ _ _ | exact ext_app3 _ _ _ _ _ _ _ | exact ext_app4 _ _ _ _ _ _ _ _ | exact ext_app5 _ _ _ _ _ _ _ _ _)) | ((with_reducible refine ext_suffix ⟨_, ?_⟩); (try simp only [Array.append_assoc]); rfl) | (with_reducible (first | apply Ext.drew | apply Ext.alloc | apply Ext.more_)) | apply Ext.drew | apply Ext.alloc | apply Ext.more_)))
  try simp only [Act.put, zqA, zqB, zqC]
  (refine wpPl_eff rfl ?_ (fun K hK => ?_); (first | with_reducible rfl | rfl | (go_simp; done)); go_simp; refine (krow_in (l := [nV (2, 0)]) (n := 1) _ ?_).mono ?_; refine karr1 (x := nV (2, 0)) ⟨?_, ?_, ?_, ?_, ?_, ?_⟩ r2.ok; (focus (go_simp; done)); (focus (go_simp; done)); (focus (go_simp; done)); (focus (go_simp; done)); (focus (go_simp; done)); (focus (go_simp; done)); rintro e w' ⟨rfl, hA5, hb⟩; obtain ⟨osr5, dr5, rfl⟩ := hb.more; clear hb; (try simp only [more_more, Array.append_assoc] at hA5); refine hK _ _ ?_ ?_; (repeat (first | (with_reducible (first | exact Ext.refl _ | exact ext_d _ _ _ _ | exact ext_app _ _ _ _ _ | exact ext_app2 _ _ _ _ _ _ | exact ext_app3 _ _ _ _ _ _ _ | exact ext_app4 _ _ _ _ _ _ _ _ | exact ext_app5 _ _ _ _ _ _ _ _ _)) | ((with_reducible refine ext_suffix ⟨_, ?_⟩); (try simp only [Array.append_assoc]); rfl) | (with_reducible (first | apply Ext.drew | apply Ext.alloc | apply Ext.more_)) | apply Ext.drew | apply Ext.alloc | apply Ext.more_)))
  try simp only [Act.put, zqA, zqB, zqC]
  (refine wpPl_eff rfl ?_ (fun K hK => ?_); (first | with_reducible rfl | rfl | (go_simp; done)); go_simp; refine (refSame_any 1 1 1 1 _ _ 1 _ 1 _ [nV (2, 0)] [nV (2, 0)] _ (hA7u.ext (by repeat (first | (with_reducible (first | exact Ext.refl _ | exact ext_d _ _ _ _ | exact ext_app _ _ _ _ _ | exact ext_app2 _ _ _ _ _ _)) | ((with_reducible refine ext_suffix ⟨_, ?_⟩); (try simp only [Array.append_assoc]); rfl) | (with_reducible (first | apply Ext.drew | apply Ext.alloc | apply Ext.more_))))) (hA5.ext (by repeat (first | (with_reducible (first | exact Ext.refl _ | exact ext_d _ _ _ _ | exact ext_app _ _ _ _ _ | exact ext_app2 _ _ _ _ _ _)) | ((with_reducible refine ext_suffix ⟨_, ?_⟩); (try simp only [Array.append_assoc]); rfl) | (with_reducible (first | apply Ext.drew | apply Ext.alloc | apply Ext.more_)))))).mono ?_; rintro e w' ⟨rfl, hb⟩; rw [same_one]; obtain ⟨oss5, dss5, rfl⟩ := hb.more; clear hb; refine hK _ _ ?_ ?_; (repeat (first | (with_reducible (first | exact Ext.refl _ | exact ext_d _ _ _ _ | exact ext_app _ _ _ _ _ | exact ext_app2 _ _ _ _ _ _ | exact ext_app3 _ _ _ _ _ _ _ | exact ext_app4 _ _ _ _ _ _ _ _ | exact ext_app5 _ _ _ _ _ _ _ _ _)) | ((with_reducible refine ext_suffix ⟨_, ?_⟩); (try simp only [Array.append_assoc]); rfl) | (with_reducible (first | apply Ext.drew | apply Ext.alloc | apply Ext.more_)) | apply Ext.drew | apply Ext.alloc | apply Ext.more_)))
  try simp only [Act.put, zqA, zqB, zqC]
  first | (refine wpPl_pick_and rfl rfl rfl rfl rfl rfl ?_) | (refine wpPl_pick_or rfl rfl rfl rfl rfl rfl ?_) | (refine wpPl_read (v := ?_) rfl ?_ (fun w1 h1 => ?_) ?_; rotate_left 1; rfl; (obtain ⟨os1, d1, rfl⟩ := h1.more; go_simp; first | done | rfl))
  try simp only [Act.put, zqA, zqB, zqC]
  (refine wpPl_read (v := ?_) rfl ?_ (fun _ h => ?_) ?_; rotate_left 1; rfl; (obtain ⟨_, _, rfl⟩ := h.more; go_simp; try rfl))
  try simp only [Act.put, zqA, zqB, zqC]
  first | (refine wpPl_skip rfl rfl ?_) | (refine wpPl_read (v := ?_) rfl ?_ (fun w1 h1 => ?_) ?_; rotate_left 1; rfl; (obtain ⟨os1, d1, rfl⟩ := h1.more; go_simp; first | done | rfl)) | (refine wpPl_gread (v := ?_) (c := ?_) rfl rfl rfl rfl ?_ (fun hc w1 h1 => ?_) ?_; rotate_left 2; (first | exact gc_t _ | exact gc_f _ | exact gc_gt _ _ | exact gc_gf _ _); (obtain ⟨os1, d1, rfl⟩ := h1.more; (try simp only [gv_of hc]); (try (have hc1 := and_l hc; (try simp only [gv_of hc1]); (try (have hc2 := and_l hc1; (try simp only [gv_of hc2]))))); go_simp; first | done | rfl))
  try simp only [Act.put, zqA, zqB, zqC]
  (refine wpPl_eff rfl ?_ (fun K hK => ?_); (first | with_reducible rfl | rfl | (go_simp; done)); go_simp; refine (knumber_any 1 _).mono ?_; rintro e w' ⟨rfl, hb⟩; obtain ⟨osn6, dn6, rfl⟩ := hb.more; clear hb; refine hK _ _ ?_ ?_; (repeat (first | (with_reducible (first | exact Ext.refl _ | exact ext_d _ _ _ _ | exact ext_app _ _ _ _ _ | exact ext_app2 _ _ _ _ _ _ | exact ext_app3 _ _ _ _ _ _ _ | exact ext_app4 _ _ _ _ _ _ _ _ | exact ext_app5 _ _ _ _ _ _ _ _ _)) | ((with_reducible refine ext_suffix ⟨_, ?_⟩); (try simp only [Array.append_assoc]); rfl) | (with_reducible (first | apply Ext.drew | apply Ext.alloc | apply Ext.more_)) | apply Ext.drew | apply Ext.alloc | apply Ext.more_)))
  try simp only [Act.put, zqA, zqB, zqC]
  first | (refine wpPl_effskip rfl ?_ ?_ ?_; (first | with_reducible rfl | rfl | (go_simp; done)); (repeat (first | (with_reducible (first | exact Ext.refl _ | exact ext_d _ _ _ _ | exact ext_app _ _ _ _ _ | exact ext_app2 _ _ _ _ _ _ | exact ext_app3 _ _ _ _ _ _ _ | exact ext_app4 _ _ _ _ _ _ _ _ | exact ext_app5 _ _ _ _ _ _ _ _ _)) | ((with_reducible refine ext_suffix ⟨_, ?_⟩); (try simp only [Array.append_assoc]); rfl) | (with_reducible (first | apply Ext.drew | apply Ext.alloc | apply Ext.more_)) | apply Ext.drew | apply Ext.alloc | apply Ext.more_))) | (refine wpPl_eff rfl ?_ (fun K hK => ?_); (first | with_reducible rfl | rfl | (go_simp; done)); go_simp; refine hK _ _ ?_ ?_; (repeat (first | (with_reducible (first | exact Ext.refl _ | exact ext_d _ _ _ _ | exact ext_app _ _ _ _ _ | exact ext_app2 _ _ _ _ _ _ | exact ext_app3 _ _ _ _ _ _ _ | exact ext_app4 _ _ _ _ _ _ _ _ | exact ext_app5 _ _ _ _ _ _ _ _ _)) | ((with_reducible refine ext_suffix ⟨_, ?_⟩); (try simp only [Array.append_assoc]); rfl) | (with_reducible (first | apply Ext.drew | apply Ext.alloc | apply Ext.more_)) | apply Ext.drew | apply Ext.alloc | apply Ext.more_)))
  try simp only [Act.put, zqA, zqB, zqC]
  (refine wpPl_eff rfl ?_ (fun K hK => ?_); (first | with_reducible rfl | rfl | (go_simp; done)); go_simp; refine (krow_in (l := [nV (1, 0)]) (n := 1) _ ?_).mono ?_; refine karr1 (x := nV (1, 0)) ⟨?_, ?_, ?_, ?_, ?_, ?_⟩ r1.ok; (focus (go_simp; done)); (focus (go_simp; done)); (focus (go_simp; done)); (focus (go_simp; done)); (focus (go_simp; done)); (focus (go_simp; done)); rintro e w' ⟨rfl, hA6, hb⟩; obtain ⟨osr6, dr6, rfl⟩ := hb.more; clear hb; (try simp only [more_more, Array.append_assoc] at hA6); refine hK _ _ ?_ ?_; (repeat (first | (with_reducible (first | exact Ext.refl _ | exact ext_d _ _ _ _ | exact ext_app _ _ _ _ _ | exact ext_app2 _ _ _ _ _ _ | exact ext_app3 _ _ _ _ _ _ _ | exact ext_app4 _ _ _ _ _ _ _ _ | exact ext_app5 _ _ _ _ _ _ _ _ _)) | ((with_reducible refine ext_suffix ⟨_, ?_⟩); (try simp only [Array.append_assoc]); rfl) | (with_reducible (first | apply Ext.drew | apply Ext.alloc | apply Ext.more_)) | apply Ext.drew | apply Ext.alloc | apply Ext.more_)))
  try simp only [Act.put, zqA, zqB, zqC]
  (refine wpPl_eff rfl ?_ (fun K hK => ?_); (first | with_reducible rfl | rfl | (go_simp; done)); go_simp; refine (refSame_any 1 1 1 1 _ _ 1 _ 1 _ [nV (1, 0)] [nV (1, 0)] _ (hA8u.ext (by repeat (first | (with_reducible (first | exact Ext.refl _ | exact ext_d _ _ _ _ | exact ext_app _ _ _ _ _ | exact ext_app2 _ _ _ _ _ _)) | ((with_reducible refine ext_suffix ⟨_, ?_⟩); (try simp only [Array.append_assoc]); rfl) | (with_reducible (first | apply Ext.drew | apply Ext.alloc | apply Ext.more_))))) (hA6.ext (by repeat (first | (with_reducible (first | exact Ext.refl _ | exact ext_d _ _ _ _ | exact ext_app _ _ _ _ _ | exact ext_app2 _ _ _ _ _ _)) | ((with_reducible refine ext_suffix ⟨_, ?_⟩); (try simp only [Array.append_assoc]); rfl) | (with_reducible (first | apply Ext.drew | apply Ext.alloc | apply Ext.more_)))))).mono ?_; rintro e w' ⟨rfl, hb⟩; rw [same_one]; obtain ⟨oss6, dss6, rfl⟩ := hb.more; clear hb; refine hK _ _ ?_ ?_; (repeat (first | (with_reducible (first | exact Ext.refl _ | exact ext_d _ _ _ _ | exact ext_app _ _ _ _ _ | exact ext_app2 _ _ _ _ _ _ | exact ext_app3 _ _ _ _ _ _ _ | exact ext_app4 _ _ _ _ _ _ _ _ | exact ext_app5 _ _ _ _ _ _ _ _ _)) | ((with_reducible refine ext_suffix ⟨_, ?_⟩); (try simp only [Array.append_assoc]); rfl) | (with_reducible (first | apply Ext.drew | apply Ext.alloc | apply Ext.more_)) | apply Ext.drew | apply Ext.alloc | apply Ext.more_)))
  try simp only [Act.put, zqA, zqB, zqC]
  first | (refine wpPl_pick_and rfl rfl rfl rfl rfl rfl ?_) | (refine wpPl_pick_or rfl rfl rfl rfl rfl rfl ?_) | (refine wpPl_read (v := ?_) rfl ?_ (fun w1 h1 => ?_) ?_; rotate_left 1; rfl; (obtain ⟨os1, d1, rfl⟩ := h1.more; go_simp; first | done | rfl))
  try simp only [Act.put, zqA, zqB, zqC]
  (refine wpPl_read (v := ?_) rfl ?_ (fun _ h => ?_) ?_; rotate_left 1; rfl; (obtain ⟨_, _, rfl⟩ := h.more; go_simp; try rfl))
  try simp only [Act.put, zqA, zqB]
  refine wpPl_nil ?_
  go_wp2_with fail
  go_ret
  exact ⟨rfl, hx0.trans (by repeat (first | (with_reducible (first | exact Ext.refl _ | exact ext_d _ _ _ _ | exact ext_app _ _ _ _ _ | exact ext_app2 _ _ _ _ _ _)) | ((with_reducible refine ext_suffix ⟨_, ?_⟩); (try simp only [Array.append_assoc]); rfl) | (with_reducible (first | apply Ext.drew | apply Ext.alloc | apply Ext.more_))))⟩
end Go.Proofs.YtkcoikelcmpceaaGreatDoor
namespace Go.Proofs.YtkcoikelcmpceaaGreatDoor
open Go.RowKit NM
/-- A function of numbers, as the program's. -/
def TellsN (w : World) (fid : FuncId) (capt : Array Value) (F : List Nm → Val) : Prop :=
  ∀ (A : Option Addr) (n cap : Nat) (l : List Nm) W, Low w W → Tab W → NmIn W A n cap l → n ≤ 409600 → Calls Tryz.prog fid (#[.slice A n cap] ++ capt) W fun e W' => e = .returned (VV (F l).kind (F l).mant (F l).exp (F l).text (F l).truth (F l).fault) ∧ Ext W W'
set_option maxHeartbeats 2000000 in
theorem kofNumbers_any (A : Option Addr) (n cap : Nat) (xs : List Ar) (fid : FuncId) (capt : Array Value) (F : List Nm → Val) (p : Nat) (w : World) (htab : Tab w) (h : ArgsIn w A n cap xs) (hn : n ≤ 100)
    (hp : w.cell? ⟨p, 0, none⟩ = some (.func (.func fid) #[] capt)) (hq : TellsN w fid capt F) (hF : ∀ l, NRt l → (F l).right) (hent : ∀ (args : Array Value) (W : World), (callFunc fid args).run Tryz.prog W = .ok (.enter fid args) W) :
    Calls Tryz.prog 94 #[.slice A n cap, .pointer (some ⟨p, 0, none⟩)] w fun e w' => ResA w (ofNumsO F xs) e w' := by
  have hR := Lib.hid (allV_right h)
  have HT := Lib.hid htab
  have H := Lib.hid h
  have HQ := Lib.hid hq
  have hpl := lt_of_cell hp
  have hall := fun W (hW : ArgsIn W A n cap xs) => kall_any A n cap xs W hW hn
  have hfa := fun W => kfault_any (ffL (allV xs)) W
  obtain ⟨X, hX⟩ : ∃ X, ofNumsO F xs = X := ⟨_, rfl⟩
  rw [hX]
  have HX := Lib.hid hX
  clear htab h hq hX
  by_cases h0 : ffL (allV xs) = 0
  · have hno := noF_of hR.out h0
    have hXo := HX.out
    unfold ofNumsO at hXo
    rw [if_pos h0] at hXo
    have hnr := numsL_rt hR.out
    have hlen9 := numsL_length (allV xs)
    have hone : ∀ W, Calls Tryz.prog 64 #[VV (F (numsL (allV xs))).kind (F (numsL (allV xs))).mant (F (numsL (allV xs))).exp (F (numsL (allV xs))).text (F (numsL (allV xs))).truth (F (numsL (allV xs))).fault] W (ResA W X) := fun W => by rw [← hXo]; exact one_res _ W (hF _ hnr).ok (hF _ hnr)
    have HNR := Lib.hid (And.intro hnr hlen9)
    clear hXo HX hfa hnr hlen9
    go_enter Tryz.func94, Tryz.ntmps94
    go_upto_region 2 with (first | (go_at_call 96; (with_reducible refine (hall _ (H.out.ext (by with_reducible repeat (first | exact Ext.refl _ | apply Ext.drew | apply Ext.alloc | apply Ext.more_)))).mono ?_); rintro e w' ⟨D, m, c, rfl, hN, hm, hb⟩; have harr := hN.arr; obtain ⟨os1, d1, rfl⟩ := hb.more; clear hb hN) | (go_at_call 95; (with_reducible refine (knumbers_any _ _ _ (allV xs) _ harr (by omega)).mono ?_); rw [h0]; rintro e w' ⟨v, rfl, hnm, hb⟩; obtain ⟨A2, c2, rfl, hin⟩ := (hnm hno).in (by have := HNR.out.2; have := harr.len; omega) HNR.out.1; obtain ⟨os2, d2, rfl⟩ := hb.more; clear hb hnm))
    have hlm := harr.len
    have hle := HNR.out.2
    clear harr hall hno HNR
    generalize numsL (allV xs) = L at *
    have hcall := fun W (hL : Low w W) (hT : Tab W) (hN : NmIn W A2 L.length c2 L) => HQ.out A2 L.length c2 L W hL hT hN (by omega)
    generalize L.length = n2 at *
    generalize F L = y at *
    (try simp only [more_more] at hin)
    have HIN := Lib.hid hin
    clear hin
    go_wp2_with (first | (go_at_call 64; (with_reducible refine (hone _).mono ?_); rintro e w' ⟨D2, m2, cc2, rfl, hD, hb⟩; obtain ⟨os5, d5, rfl⟩ := hb.more; clear hb; have hDr := hD.rd) | (refine (hcall _ ?_ ?_ ?_).mono ?_; (focus (exact klow_ext (by with_reducible repeat (first | exact Ext.refl _ | apply Ext.drew | apply Ext.alloc | apply Ext.more_)))); (focus (exact HT.out.ext (by with_reducible repeat (first | exact Ext.refl _ | apply Ext.drew | apply Ext.alloc | apply Ext.more_)))); (focus (exact HIN.out.ext (by repeat (first | (with_reducible (first | exact Ext.refl _ | exact ext_d _ _ _ _ | exact ext_app _ _ _ _ _ | exact ext_app2 _ _ _ _ _ _)) | ((with_reducible refine ext_suffix ⟨_, ?_⟩); (try simp only [Array.append_assoc]); rfl) | (with_reducible (first | apply Ext.drew | apply Ext.alloc | apply Ext.more_)))))); rintro e w' ⟨rfl, hb⟩; obtain ⟨os3, d3, rfl⟩ := hb.more; clear hb))
    exact bodyPost_ret (v := AV X.R X.C (.slice D2 m2 cc2)) (by simp [results, Tryz.results94, go_sem]) rfl ⟨D2, m2, cc2, rfl, ⟨(by (try simp only [more_more] at hDr); (try simp only [drew_more] at hDr); (try simp only [more_drew] at hDr); (try simp only [Array.append_assoc] at hDr); exact Rd.swap hDr (by first | (simp; done) | (simp; omega) | omega) (by first | (simp; done) | (simp; omega) | omega) (by first | (simp; done) | (simp; omega) | omega)), hD.len, hD.cap, hD.small, hD.ok⟩, by with_reducible repeat (first | exact Ext.refl _ | apply Ext.drew | apply Ext.alloc | apply Ext.more_)⟩
  · have hXo := HX.out
    unfold ofNumsO at hXo
    rw [if_neg h0] at hXo
    rw [hXo] at hfa
    clear hXo HX
    generalize hff : ffL (allV xs) = f at *
    have h0' : (f == 0) = false := by simpa using h0
    go_enter Tryz.func94, Tryz.ntmps94
    go_upto_region 2 with (first | (go_at_call 96; (with_reducible refine (hall _ (H.out.ext (by with_reducible repeat (first | exact Ext.refl _ | apply Ext.drew | apply Ext.alloc | apply Ext.more_)))).mono ?_); rintro e w' ⟨D, m, c, rfl, hN, hm, hb⟩; have harr := hN.arr; obtain ⟨os1, d1, rfl⟩ := hb.more; clear hb hN) | (go_at_call 95; (with_reducible refine (knumbers_any _ _ _ (allV xs) _ harr (by omega)).mono ?_); rw [hff]; rintro e w' ⟨v, rfl, hnm, hb⟩; obtain ⟨os2, d2, rfl⟩ := hb.more; clear hb hnm))
    clear harr hall hff
    go_wp2_with (go_at_call 22; (with_reducible refine (hfa _).mono ?_); rintro e w' ⟨D2, m2, cc2, rfl, hD, hb⟩; obtain ⟨os5, d5, rfl⟩ := hb.more; clear hb; have hDr := hD.rd)
    exact bodyPost_ret (v := AV X.R X.C (.slice D2 m2 cc2)) (by simp [results, Tryz.results94, go_sem]) rfl ⟨D2, m2, cc2, rfl, ⟨(by (try simp only [more_more] at hDr); (try simp only [drew_more] at hDr); (try simp only [more_drew] at hDr); (try simp only [Array.append_assoc] at hDr); exact Rd.swap hDr (by first | (simp; done) | (simp; omega) | omega) (by first | (simp; done) | (simp; omega) | omega) (by first | (simp; done) | (simp; omega) | omega)), hD.len, hD.cap, hD.small, hD.ok⟩, by with_reducible repeat (first | exact Ext.refl _ | apply Ext.drew | apply Ext.alloc | apply Ext.more_)⟩
end Go.Proofs.YtkcoikelcmpceaaGreatDoor
namespace Go.Proofs.YtkcoikelcmpceaaGreatDoor
open Go.RowKit NM
theorem right_sumV {l : List Nm} (h : NRt l) : (sumV l).right := right_res fun p hp => sumO_rt (Or.inl ⟨rfl, rfl⟩) hp
theorem tells_sum (w : World) : TellsN w 39 #[] sumV := fun A n cap l W _ hT hN _ => ksum_any A n cap l W hT hN
def isNum (v : Val) : Bool := v.kind == 1
theorem tells_num (w : World) : Tells w 45 #[] isNum := by
  intro x W _ _
  obtain ⟨k, m, e, t, b, f⟩ := x
  show Calls _ _ #[VV k m e t b f] W _
  unfold isNum
  generalize hg : (k == 1) = g
  go_enter Tryz.func45, Tryz.ntmps45
  go_wp2_with fail
  go_ret
  exact ⟨rfl, by with_reducible repeat (first | exact Ext.refl _ | apply Ext.drew | apply Ext.alloc | apply Ext.more_)⟩
theorem mcall_sum (A : Option Addr) (n cap : Nat) (gs : List GA) (w : World) (htab : Tab w) (h : ArgsG w A n cap gs) : Calls Tryz.prog 14 #[.string ⟨#[83, 85, 77]⟩, .slice A n cap] w (CallG w (callX 1 32 gs (ofNumsO sumV (arsOf gs)))) :=
  kcall_any ⟨#[83, 85, 77]⟩ 1 32 94 (fun p => #[.pointer (some ⟨p 0, 0, none⟩)]) (by decide) (fun _ => rfl) (fun args W => by go_simp) (by decide) (by decide) A n cap gs w h _ (fun hr h1 h2 p W hW hB =>
    kofNumbers_any A n cap (arsOf gs) 39 #[] sumV (p 0) W (htab.ext hW) ((arsOf_in h hr).ext hW) (by omega) (box_cell (t := 78) hB (by simp [fmathB])) (tells_sum W) (fun _ hl => right_sumV hl) (fun args W => by go_simp))
theorem mcall_count (A : Option Addr) (n cap : Nat) (gs : List GA) (w : World) (htab : Tab w) (h : ArgsG w A n cap gs) : Calls Tryz.prog 14 #[.string ⟨#[67, 79, 85, 78, 84]⟩, .slice A n cap] w (CallG w (callX 1 32 gs (countedO isNum (allV (arsOf gs))))) :=
  kcall_any ⟨#[67, 79, 85, 78, 84]⟩ 1 32 101 (fun p => #[.pointer (some ⟨p 4, 0, none⟩)]) (by decide) (fun _ => rfl) (fun args W => by go_simp) (by decide) (by decide) A n cap gs w h _ (fun hr h1 h2 p W hW hB =>
    kcounted_any A n cap (arsOf gs) 45 #[] isNum (p 4) W (htab.ext hW) ((arsOf_in h hr).ext hW) (by omega) (box_cell (t := 82) hB (by simp [fmathB])) (tells_num W) (fun args W => by go_simp))
end Go.Proofs.YtkcoikelcmpceaaGreatDoor
