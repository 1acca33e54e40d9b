/- What the rows' proofs lean on: the contracts of the functions that they reach, and plain facts (part R5). -/
import Derived.WalkKit
import Derived.WalkLawsBesides
import Derived.WalkSpells
import Derived.Outline
import Derived.Below
import Derived.Deep.RegionHeld3
import Derived.Deep.DeepCutAuto
import Derived.Deep.AppendLies
import Derived.Maps.AppendAt
import Derived.Lib.Hide
import Derived.OrdersHeld
import Derived.Test.YtmjmijjbijlhfaaGreatDoorProg
import Derived.Shelf.Small.Bits
import Derived.Shelf.Small.Strs
import Derived.Shelf.Strconv.Itoa0
import Derived.Shelf.Strconv.Itoa1
import Derived.Shelf.LaysM
import Derived.Shelf.Strconv.Itoa2
import Derived.Shelf.Bits.Mul64
import Derived.Ground.SlgmProg
import Derived.Shelf.SortM.Plain
import Derived.Shelf.SortM.SortNone
import Derived.Lib.ItoaMem
import Derived.Lib.OthersKept
import Derived.Deep.CutBlock
import Derived.Laws.Bits64b
import Derived.Lib.AppendZeros
import Derived.Lib.Bytealg
import Derived.Laws.RangeAny
import Derived.Maps.OwnSet
import Derived.Maps.Own
import Derived.Laws.EntriesVeiled
import Derived.Lib.ConvBytes
import Derived.Lib.SlBytesRow
import Derived.Lib.SmallJoins
import Derived.RegionTactic
import Derived.Sort.OwnSortedInts
import Derived.Shelf.SlIter.Nil
import Derived.Ground.GgzProg
import Derived.Test.YtmjmijjbijlhfaaGreatDoorRows
import Derived.Test.YtmjmijjbijlhfaaGreatDoorCards
import Derived.Test.YtmjmijjbijlhfaaGreatDoorTie
import Derived.ProofKit
import Derived.LaidMore
import Derived.OpenShut
import Derived.ShutString
import Derived.ChangeOld
import Derived.Stop.Joined
import Derived.Deep.Slices
import Derived.SevenTiedAt
import Derived.Test.YtmjmijjbijlhfaaGreatDoorR4
set_option linter.unusedSimpArgs false
set_option linter.unusedVariables false
set_option maxRecDepth 100000
namespace Go.Proofs.YtmjmijjbijlhfaaGreatDoor
open Go.RowKit NM
def neU (a : NA) (i j : Nat) : Bool := decide (lexO (rowV a i) (rowV a j) ≠ 0)
theorem neU_or (a : NA) (i j : Nat) : neU a i j = (ltU a i j || ltU a j i) := by
  unfold neU ltU
  rw [lexO_flip (rowV a i) (rowV a j)]
  rcases Int.lt_trichotomy (lexO (rowV a i) (rowV a j)) 0 with h | h | h <;> simp [h] <;> omega
/-- The first ones, as the program holds them on its way: the head of the list itself, or a list of its own. -/
def Fsts (base : Nat) (w : World) (v : Value) (A : Option Addr) (p : Nat) (F : List Nat) : Prop := (v = .slice A 1 1 ∧ F = [p]) ∨ w.ownsRow base 3 1 v F.length (i6 F)
theorem Fsts.ext {base : Nat} {w w' : World} {v : Value} {A : Option Addr} {p : Nat} {F : List Nat} (h : Fsts base w v A p F) (hx : Ext w w') : Fsts base w' v A p F := h.imp id fun h => own_ext h hx
theorem Fsts.wr {base base' : Nat} {w : World} {v : Value} {A : Option Addr} {c p : Nat} {F l : List Nat} (h : Fsts base w v A p F) (hb : base' ≤ base) (hl : Wr base' w A c l) (hp : l[0]? = some p) : ∃ B cb, v = .slice B F.length cb ∧ Wr base' w B cb F := by
  rcases h with ⟨rfl, rfl⟩ | h
  · refine ⟨A, 1, rfl, ?_⟩
    have h1 := Dg.take hl 1 1 (Nat.le_refl _)
    have e : l.take 1 = [p] := by cases l with
      | nil => simp at hp
      | cons x l => simp at hp; simp [hp]
    rwa [e] at h1
  · obtain ⟨B, cb, rfl, hd, _⟩ := Dg.of_own (l := F) (k := .i64) h
    exact ⟨B, cb, rfl, Dg.mono hd hb⟩
theorem own_low {w : World} {base base' size n : Nat} {ty : TypeId} {v : Value} {xs : List Value} (h : w.ownsRow base ty size v n xs) (hb : base' ≤ base) : w.ownsRow base' ty size v n xs :=
  ⟨h.1, h.2.imp id fun ⟨g, cap, cur, hv, hg, r⟩ => ⟨g, cap, cur, hv, Nat.le_trans hb hg, r⟩⟩
set_option maxHeartbeats 8000000 in
theorem gunique_any (A : Option Addr) (n cap : Nat) (xs : List Ar) (w : World) (h : ArgsIn w A n cap xs) (h1 : 1 ≤ n) :
    Calls Tryz.prog 53 #[.slice A n cap] w fun e w' => ResA w (uniqueO xs) e w' := by
  obtain ⟨R, C, l, b1, off1, n1, cap1, b, off, x0, ha, rfl, ⟨v0, v1, v2⟩, _, hc1, _, _, _, hbl, _, _, _, harr, _⟩ := h.first h1
  have hxr : NA.right ⟨R, C, l⟩ := (h.all _ (List.mem_of_getElem? ha)).right
  have hcap := h.cap
  have hsm := h.small
  simp only [Nat.zero_mul, Nat.add_zero] at v0 v1 v2
  have hx0 : argN xs 0 = ⟨R, C, l⟩ := by unfold argN; rw [ha]
  obtain ⟨r1, r2, r3, r4, r5⟩ := rightA_nat.1 hxr
  simp only at r1 r2 r3 r4
  have hR4 : R ≤ 4096 := Nat.le_trans (Nat.le_mul_of_pos_right R r2) r3
  unfold uniqueO
  rw [hx0]
  have HA := Lib.hid harr
  obtain ⟨X, hX⟩ : ∃ X, uniqueT ⟨R, C, l⟩ = X := ⟨_, rfl⟩
  rw [hX]
  have HX := Lib.hid hX
  obtain ⟨ps, hps⟩ : ∃ ps, sortN (ltU ⟨R, C, l⟩) R = ps := ⟨_, rfl⟩
  have hsw : Swo (ltU ⟨R, C, l⟩) := ltU_swo (rightA_nat.1 hxr).2.2.2.2
  have hpl : ps.length = R := by rw [← hps]; exact sortN_length _ _
  have hplt : ∀ r ∈ ps, r < R := by rw [← hps]; exact sortN_lt hsw
  have HPS := Lib.hid hps
  have HLT := Lib.hid hplt
  have HSW := Lib.hid hsw
  obtain ⟨i0, hi0, hz0, hz1, hz2⟩ := info_parts info_int_
  clear h harr ha hx0 r4 r5 hX hps hplt hsw r3
  go_enter Tryz.func53, Tryz.ntmps53
  go_upto_region 3 with fail
  refine wp_world fun U hU => ?_
  have hx : Ext w U := by rw [hU]; exact (by with_reducible repeat (first | exact Ext.refl _ | apply Ext.drew | apply Ext.alloc | apply Ext.more_))
  have hz : Ext (w.alloc (Obj.cells #[.int .i64 0, .int .i64 0, .slice none 0 0] 31)) U := by rw [hU]; exact (by with_reducible repeat (first | exact Ext.refl _ | apply Ext.drew | apply Ext.alloc | apply Ext.more_))
  have c0 : U.cell? ⟨w.heap.size + 1, 0, none⟩ = some (.int .i64 (R : Int)) := by rw [hU]; go_simp
  have c1 : U.cell? ⟨w.heap.size + 1, 1, none⟩ = some (.int .i64 (C : Int)) := by rw [hU]; go_simp
  have c2 : U.cell? ⟨w.heap.size + 1, 2, none⟩ = some (.slice (some ⟨b1, off1, none⟩) n1 cap1) := by rw [hU]; go_simp
  have la := lt_of_cell c0
  have HZ := Lib.hid hz
  clear hU v0 v1 v2 hz
  have hcl := fun (i j : Nat) (W : World) (hi : i < R) (hj : j < R) (hW : Ext U W) => unq1_any ⟨R, C, l⟩ (some ⟨b1, off1, none⟩) n1 cap1 (w.heap.size + 1) i j W (HA.out.ext (hx.trans hW)) hxr hi hj (hW.cell_some c1) (hW.cell_some c2)
  have hent : ∀ (args : Array Value) (W : World), (callFunc 101 args).run Tryz.prog W = .ok (.enter 101 args) W := fun args W => by go_simp
  have hio := inOrder_any HSW.out 101 #[.pointer (some ⟨w.heap.size + 1, 0, none⟩)] R U hR4 hent (fun i j W hi hj hW => (hcl i j W hi hj hW).mono (fun e W' hh => ⟨_, hh.1, rfl, hh.2⟩))
  rw [HPS.out] at hio
  have HCL := Lib.hid hcl
  have HXR := Lib.hid hxr
  clear hcl hxr
  go_upto_region 4 with (go_at_call 96; refine hio.mono ?_; rintro e w1 ⟨⟨A1, k1, rfl, hW1⟩, hx1⟩)
  clear hio
  obtain ⟨p0, hp0⟩ : ∃ p, ps[0]? = some p := ⟨_, List.getElem?_eq_getElem (by omega)⟩
  obtain ⟨bl, ol, rfl, hbl1, cp0, _⟩ := Dg.at hW1 hp0
  have hk1 : R ≤ k1 := by have := hW1.1; omega
  have hk2 : 1 ≤ k1 := by omega
  have hblw : bl < w1.heap.size := lt_of_cell cp0
  have HW1 := Lib.hid hW1
  have HX1 := Lib.hid hx1
  have HP0 := Lib.hid hp0
  have HPL := Lib.hid hpl
  have HC12 := Lib.hid (And.intro c1 c2)
  have hc0 := hx1.cell_some c0
  have hla := lt_of_cell hc0
  clear hW1 hx1 hp0 hpl cp0 c1 c2 hbl1
  go_wp2_with fail
  go_loopw [6, 7] (fun s6 s7 wr => ∃ (k : Nat) (F : List Nat), 1 ≤ k ∧ k ≤ R ∧ F.length ≤ k ∧ s7 = .int .i64 (k : Int) ∧ Hid (F = fstK (neU ⟨R, C, l⟩) ps (k - 1)) ∧ Hid (Fsts w1.heap.size wr s6 (some ⟨bl, ol, none⟩) p0 F) ∧ Ext w1 wr) (fun _ s7 _ => R - (intOf s7).toNat)
  case atStart =>
    refine ⟨1, [p0], Nat.le_refl _, r1, Nat.le_refl _, rfl, ?_, Or.inl ⟨rfl, rfl⟩, Ext.refl _⟩
    show [p0] = ps.take 1
    have := HP0.out
    cases ps with
    | nil => simp at this
    | cons x ps => simp at this; simp [this]
  case round =>
    obtain ⟨k, F, hk, hkR, hFk, rfl, HF, HV, hxr⟩ := hrel
    by_cases hlt : k < R
    · have hlt' : (k : Int) < (R : Int) := by omega
      obtain ⟨k', hk'⟩ : ∃ k', k - 1 = k' := ⟨_, rfl⟩
      have ek : IntKind.i64.wrap ((k : Int) - 1) = (k' : Int) := by rw [IntKind.wrap_i64]; omega
      have hpl := HPL.out
      obtain ⟨x, hx0⟩ : ∃ x, ps[k']? = some x := ⟨_, List.getElem?_eq_getElem (by omega)⟩
      obtain ⟨y, hy0⟩ : ∃ x, ps[k]? = some x := ⟨_, List.getElem?_eq_getElem (by omega)⟩
      have hxR : x < R := HLT.out x (List.mem_of_getElem? hx0)
      have hyR : y < R := HLT.out y (List.mem_of_getElem? hy0)
      have hWr := HW1.out.of_ext hxr
      obtain ⟨bl', ol', e, _, cx, _⟩ := Dg.at hWr hx0
      simp only [Option.some.injEq, Addr.mk.injEq, and_true] at e
      obtain ⟨rfl, rfl⟩ := e
      obtain ⟨bl', ol', e, _, cy, _⟩ := Dg.at hWr hy0
      simp only [Option.some.injEq, Addr.mk.injEq, and_true] at e
      obtain ⟨rfl, rfl⟩ := e
      have hb2 : bl < wr.heap.size := lt_of_cell cx
      have hkk : k' < R := by omega
      have hcall := fun (W : World) (hW : Ext wr W) => HCL.out x y W hxR hyR (HX1.out.trans (hxr.trans hW))
      have hstep : fstK (neU ⟨R, C, l⟩) ps k = fstK (neU ⟨R, C, l⟩) ps k' ++ if neU ⟨R, C, l⟩ x y then [y] else [] := by
        have e : k = k' + 1 := by omega
        rw [e] at hy0 ⊢
        show fstK _ _ _ ++ (if neU _ (ps.getD k' 0) (ps.getD (k' + 1) 0) then [ps.getD (k' + 1) 0] else []) = _
        simp [List.getD, hx0, hy0]
      have hFe : F = fstK (neU ⟨R, C, l⟩) ps k' := by rw [← hk']; exact HF.out
      by_cases hzz : lexO (rowV ⟨R, C, l⟩ x) (rowV ⟨R, C, l⟩ y) = 0
      · have HF2 : Hid (F = fstK (neU ⟨R, C, l⟩) ps (k + 1 - 1)) := by
          show F = _
          rw [Nat.add_sub_cancel, hstep, hFe]
          simp [neU, hzz]
        rw [hzz] at hcall
        clear hzz hstep hFe hx0 hy0 hk' hpl hxR hyR hWr
        go_upto_region 8 with fail
        refine wp_plan (S := Ext _) [(0, 0), (1, 0), (2, 0), (3, 0), (4, 0), (5, 0), (6, 0), (7, 0), (8, 0), (9, 0), (10, 1), (11, 0)] [] (by kernel_rfl) (by kernel_rfl) (by kernel_rfl) (fun _ _ d _ _ h => by cases d <;> exact h) (Ext.drew (Ext.refl _)) ?_
        iterate 10 ((refine wpPl_read (v := ?_) rfl ?_ (fun _ h => ?_) ?_; rotate_left 1; rfl; (obtain ⟨_, _, rfl⟩ := h.more; go_simp; try rfl)); try simp only [Act.put, zqA, zqB, zqC])
        (refine wpPl_eff rfl ?_ (fun K hK => ?_); rfl; go_simp; refine (hcall _ (by with_reducible repeat (first | exact Ext.refl _ | apply Ext.drew | apply Ext.alloc | apply Ext.more_))).mono ?_; rintro e w' ⟨rfl, hb⟩; obtain ⟨os1, d1, rfl⟩ := hb.more; clear hb; refine hK _ _ ?_ ?_; (repeat (first | (with_reducible (first | exact Ext.refl _ | exact ext_d _ _ _ _ | exact ext_app _ _ _ _ _ | exact ext_app2 _ _ _ _ _ _ | exact ext_app3 _ _ _ _ _ _ _ | exact ext_app4 _ _ _ _ _ _ _ _ | exact ext_app5 _ _ _ _ _ _ _ _ _)) | ((with_reducible refine ext_suffix ⟨_, ?_⟩); (try simp only [Array.append_assoc]); rfl) | (with_reducible (first | apply Ext.drew | apply Ext.alloc | apply Ext.more_)) | apply Ext.drew | apply Ext.alloc | apply Ext.more_)))
        try simp only [Act.put, zqA, zqB, zqC]
        (refine wpPl_read (v := ?_) rfl ?_ (fun _ h => ?_) ?_; rotate_left 1; rfl; (obtain ⟨_, _, rfl⟩ := h.more; go_simp; try rfl))
        try simp only [Act.put, zqA, zqB, zqC]
        refine wpPl_nil ?_
        go_wp2_with fail
        exact ⟨⟨k + 1, F, by omega, by omega, by omega, by go_num, HF2, HV.out.ext (by with_reducible repeat (first | exact Ext.refl _ | apply Ext.drew | apply Ext.alloc | apply Ext.more_)), hxr.trans (by with_reducible repeat (first | exact Ext.refl _ | apply Ext.drew | apply Ext.alloc | apply Ext.more_))⟩, by simp [intOf]; omega⟩
      · have HF2 : Hid (F ++ [y] = fstK (neU ⟨R, C, l⟩) ps (k + 1 - 1)) := by
          show _ = _
          rw [Nat.add_sub_cancel, hstep, hFe]
          simp [neU, hzz]
        have hzz' : (lexO (rowV ⟨R, C, l⟩ x) (rowV ⟨R, C, l⟩ y) != 0) = true := by simpa using hzz
        generalize lexO (rowV ⟨R, C, l⟩ x) (rowV ⟨R, C, l⟩ y) = z at *
        clear hzz hstep hFe hx0 hy0 hk' hpl hxR hyR hWr
        have hsz := hxr.size
        rcases HV.out with ⟨rfl, rfl⟩ | ho
        · have hcp : w1.cell? ⟨bl, ol, none⟩ = some (.int .i64 (p0 : Int)) := by
            obtain ⟨bl', ol', e, _, cq, _⟩ := Dg.at HW1.out HP0.out
            simp only [Option.some.injEq, Addr.mk.injEq, and_true] at e
            obtain ⟨rfl, rfl⟩ := e
            simpa using cq
          have hrd : Hid (Rd 0 wr (some ⟨bl, ol, none⟩) [.int .i64 (p0 : Int)]) := fun j u hu => by
            cases j with
            | zero => obtain rfl : Value.int .i64 (p0 : Int) = u := by simpa using hu
                      exact ⟨bl, ol, rfl, Nat.zero_le _, hxr.cell_some hcp⟩
            | succ j => simp at hu
          clear hcp
          go_upto_region 8 with fail
          refine wp_plan (S := Ext _) [(0, 0), (1, 0), (2, 0), (3, 0), (4, 0), (5, 0), (6, 0), (7, 0), (8, 0), (9, 0), (10, 1), (11, 0)] [] (by kernel_rfl) (by kernel_rfl) (by kernel_rfl) (fun _ _ d _ _ h => by cases d <;> exact h) (Ext.drew (Ext.refl _)) ?_
          iterate 10 ((refine wpPl_read (v := ?_) rfl ?_ (fun _ h => ?_) ?_; rotate_left 1; rfl; (obtain ⟨_, _, rfl⟩ := h.more; go_simp; try rfl)); try simp only [Act.put, zqA, zqB, zqC])
          (refine wpPl_eff rfl ?_ (fun K hK => ?_); rfl; go_simp; refine (hcall _ (by with_reducible repeat (first | exact Ext.refl _ | apply Ext.drew | apply Ext.alloc | apply Ext.more_))).mono ?_; rintro e w' ⟨rfl, hb⟩; obtain ⟨os1, d1, rfl⟩ := hb.more; clear hb; refine hK _ _ ?_ ?_; (repeat (first | (with_reducible (first | exact Ext.refl _ | exact ext_d _ _ _ _ | exact ext_app _ _ _ _ _ | exact ext_app2 _ _ _ _ _ _ | exact ext_app3 _ _ _ _ _ _ _ | exact ext_app4 _ _ _ _ _ _ _ _ | exact ext_app5 _ _ _ _ _ _ _ _ _)) | ((with_reducible refine ext_suffix ⟨_, ?_⟩); (try simp only [Array.append_assoc]); rfl) | (with_reducible (first | apply Ext.drew | apply Ext.alloc | apply Ext.more_)) | apply Ext.drew | apply Ext.alloc | apply Ext.more_)))
          try simp only [Act.put, zqA, zqB, zqC]
          (refine wpPl_read (v := ?_) rfl ?_ (fun _ h => ?_) ?_; rotate_left 1; rfl; (obtain ⟨_, _, rfl⟩ := h.more; go_simp; try rfl))
          try simp only [Act.put, zqA, zqB, zqC]
          refine wpPl_nil ?_
          go_wp2_with (at_builtin; refine wpList_append_grow _ rfl _ _ _ rfl 3 i0 (.int .i64 0) 1 8 Tryz.underlying37 hi0 hz0 hz1 hz2 rfl (by decide) ⟨bl, ol, none⟩ 1 1 [.int .i64 (p0 : Int)] rfl rfl (Rd.ext hrd.out (by with_reducible repeat (first | exact Ext.refl _ | apply Ext.drew | apply Ext.alloc | apply Ext.more_))) _ 1 1 [.int .i64 (y : Int)] rfl rfl (Rd.one_ _ _ (by first | rfl | (simp; done))) (by omega) (Nat.le_refl _) (by simp [maxLen]) (by omega) ?_; intro v4 os4 d4 ho4)
          have ho5 := own_low (base' := w1.heap.size) ho4 (by simp; omega)
          exact ⟨⟨k + 1, [p0] ++ [y], by omega, by omega, by simp; omega, by go_num, HF2, Or.inr ho5, hxr.trans (by with_reducible repeat (first | exact Ext.refl _ | apply Ext.drew | apply Ext.alloc | apply Ext.more_))⟩, by simp [intOf]; omega⟩
        · have HO := Lib.hid ho
          clear ho
          go_upto_region 8 with fail
          refine wp_plan (S := Ext _) [(0, 0), (1, 0), (2, 0), (3, 0), (4, 0), (5, 0), (6, 0), (7, 0), (8, 0), (9, 0), (10, 1), (11, 0)] [] (by kernel_rfl) (by kernel_rfl) (by kernel_rfl) (fun _ _ d _ _ h => by cases d <;> exact h) (Ext.drew (Ext.refl _)) ?_
          iterate 10 ((refine wpPl_read (v := ?_) rfl ?_ (fun _ h => ?_) ?_; rotate_left 1; rfl; (obtain ⟨_, _, rfl⟩ := h.more; go_simp; try rfl)); try simp only [Act.put, zqA, zqB, zqC])
          (refine wpPl_eff rfl ?_ (fun K hK => ?_); rfl; go_simp; refine (hcall _ (by with_reducible repeat (first | exact Ext.refl _ | apply Ext.drew | apply Ext.alloc | apply Ext.more_))).mono ?_; rintro e w' ⟨rfl, hb⟩; obtain ⟨os1, d1, rfl⟩ := hb.more; clear hb; refine hK _ _ ?_ ?_; (repeat (first | (with_reducible (first | exact Ext.refl _ | exact ext_d _ _ _ _ | exact ext_app _ _ _ _ _ | exact ext_app2 _ _ _ _ _ _ | exact ext_app3 _ _ _ _ _ _ _ | exact ext_app4 _ _ _ _ _ _ _ _ | exact ext_app5 _ _ _ _ _ _ _ _ _)) | ((with_reducible refine ext_suffix ⟨_, ?_⟩); (try simp only [Array.append_assoc]); rfl) | (with_reducible (first | apply Ext.drew | apply Ext.alloc | apply Ext.more_)) | apply Ext.drew | apply Ext.alloc | apply Ext.more_)))
          try simp only [Act.put, zqA, zqB, zqC]
          (refine wpPl_read (v := ?_) rfl ?_ (fun _ h => ?_) ?_; rotate_left 1; rfl; (obtain ⟨_, _, rfl⟩ := h.more; go_simp; try rfl))
          try simp only [Act.put, zqA, zqB, zqC]
          refine wpPl_nil ?_
          go_wp2_with (at_builtin; refine wpList_append_own _ rfl _ _ _ rfl w1.heap.size 3 i0 (.int .i64 0) 1 8 Tryz.underlying37 hi0 hz0 hz1 hz2 rfl (by decide) _ F.length (i6 F) rfl (own_ext HO.out (by with_reducible repeat (first | exact Ext.refl _ | apply Ext.drew | apply Ext.alloc | apply Ext.more_))) _ 1 1 [.int .i64 (y : Int)] rfl rfl (Rd.one_ _ _ (by first | rfl | (simp; done))).add (one_i6 [y]) (by simp [maxLen]; omega) (by omega) (by simp; omega) ?_; intro v4 w4 ho4 hg4 _)
          have hx4 : Ext w1 w4 := ext_grownN (n := F.length) (ty := 3) (size := 1) (xs := i6 F) (hxr.trans (by with_reducible repeat (first | exact Ext.refl _ | apply Ext.drew | apply Ext.alloc | apply Ext.more_))) (own_ext HO.out (by with_reducible repeat (first | exact Ext.refl _ | apply Ext.drew | apply Ext.alloc | apply Ext.more_))) hg4
          refine ⟨⟨k + 1, F ++ [y], by omega, by omega, by simp; omega, by go_num, HF2, Or.inr ?_, hx4⟩, by simp [intOf]; omega⟩
          unfold i6; rw [List.map_append, List.length_append]
          exact ho4
    · obtain rfl : k = R := by omega
      have hlt' : ¬ (k : Int) < (k : Int) := Int.lt_irrefl _
      obtain ⟨B, cb, rfl, hB⟩ := HV.out.wr HX1.out.size (HW1.out.of_ext hxr) HP0.out
      have hFe := HF.out
      have hpos : 0 < k := r1
      have hmemL := fstK_length (neU ⟨k, C, l⟩) (l := ps) (k := k - 1) (by rw [HPL.out]; omega)
      rw [← hFe] at hmemL
      have hne : F ≠ [] := fun e => by rw [e] at hmemL; simp at hmemL
      have hso := sortInt_any U.heap.size B cb F wr hB (by omega) hne
      have HU : Hid (∀ S : List Nat, S.Perm F → S.Pairwise (· ≤ ·) → rowsN ⟨k, C, l⟩ S = X ∧ PlOk S k ∧ S.length = F.length) := fun S hp hs => by
        have e1 : S = uniqL (ltU ⟨k, C, l⟩) k := uniq_one HSW.out (neU_or ⟨k, C, l⟩) hpos hs (by rw [HPS.out, ← hFe]; exact hp)
        exact ⟨by rw [← HX.out, e1]; rfl, ⟨by rw [e1]; exact uniq_pos hpos, by rw [e1]; exact uniq_le _ _, by rw [e1]; exact uniq_lt⟩, hp.length_eq⟩
      have HRO := Lib.hid (fun W S B cb (hW : ArrIn W (some ⟨b1, off1, none⟩) n1 cap1 l) hB hcb hPl => rowsOf_pl ⟨k, C, l⟩ _ n1 cap1 S B cb W hW HXR.out hB hcb hPl)
      have hc1' := hxr.cell_some hc0
      have HXRR := Lib.hid hxr
      clear HF HV hFe hmemL hne hB HCL HW1 HLT HPS HP0 HPL HX
      go_upto_region 11 with (go_at_call 102; refine hso.mono ?_; rintro e w5 ⟨rfl, ⟨S, hS1, hS2, hW5⟩, hb5⟩)
      obtain ⟨g1, g2, g3⟩ := HU.out S hS1 hS2
      have hx5 : Ext U w5 := Below.trans (Below.mono (HX1.out.trans HXRR.out) (Nat.le_refl _)) hb5
      have hrd := Rd.mono (Dg.rd hW5) (Nat.zero_le _)
      have hcb := hW5.1
      have hro := fun W (hW : Ext w5 W) => HRO.out W S B cb (HA.out.ext (hx.trans (hx5.trans hW))) (hrd.ext hW) hcb g2
      simp only [g1, g3] at hro
      have ca0 := hx5.cell_some c0
      have ca1 := hx5.cell_some HC12.out.1
      have ca2 := hx5.cell_some HC12.out.2
      have lca := lt_of_cell ca0
      have hz5 := Ext.trans HZ.out hx5
      clear hb5 hW5 hrd hcb hx5 hso HU HRO
      obtain ⟨os8, d8, rfl⟩ := hz5.more
      clear hz5
      go_wp2_with ((go_at_call 84; (with_reducible refine (hro _ (by with_reducible repeat (first | exact Ext.refl _ | apply Ext.drew | apply Ext.alloc | apply Ext.more_))).mono ?_); rintro e w' ⟨D, m, cc, rfl, hD, hb⟩; obtain ⟨os5, d5, rfl⟩ := hb.more; clear hb; have hDr := hD.rd))
      exact bodyPost_ret (v := AV X.R X.C (.slice D m cc)) (by simp [results, Tryz.results53, go_sem]) rfl ⟨D, m, cc, rfl, ⟨(by (try simp only [more_alloc, more_more] at hDr); (try simp only [more_alloc, more_more]); (try simp only [drew_more] at hDr); (try simp only [more_drew] at hDr); (try simp only [Array.append_assoc] at hDr); (try simp only [Array.append_assoc]); exact Rd.swap hDr (by first | (simp; done) | (simp; omega) | omega) (by first | (simp; done) | (simp; omega) | omega) (by first | (simp; done) | (simp; omega) | omega)), hD.len, hD.cap, hD.small, hD.ok⟩, by with_reducible repeat (first | exact Ext.refl _ | apply Ext.drew | apply Ext.alloc | apply Ext.more_)⟩
end Go.Proofs.YtmjmijjbijlhfaaGreatDoor
namespace Go.Proofs.YtmjmijjbijlhfaaGreatDoor
open Go.RowKit NM
theorem pcall_unique (A : Option Addr) (n cap : Nat) (gs : List GA) (w : World) (h : ArgsG w A n cap gs) : Calls Tryz.prog 16 #[.string ⟨#[85, 78, 73, 81, 85, 69]⟩, .slice A n cap] w (CallG w (callX 1 1 gs (uniqueO (arsOf gs)))) :=
  gcall_any ⟨#[85, 78, 73, 81, 85, 69]⟩ 1 1 53 (fun _ _ => #[]) (by decide) (fun _ _ => rfl) (fun args W => by go_simp) (by decide) (by decide) A n cap gs w h _ (fun hr h1 _ p1 p2 W hW _ => gunique_any A n cap _ W ((arsOf_in h hr).ext hW) h1)
end Go.Proofs.YtmjmijjbijlhfaaGreatDoor
namespace Go.Proofs.YtmjmijjbijlhfaaGreatDoor
open Go.RowKit NM
theorem plc_range {n i : Nat} (h : i < n) : plc (List.range n) i = i := by simp [plc, h]
theorem rowsN_self {a : NA} (ha : a.right) : rowsN a (List.range a.R) = a := by
  obtain ⟨R, C, l⟩ := a
  obtain ⟨r1, r2, r3, r4, r5⟩ := rightA_nat.1 ha
  have e := rowsN_l (a := ⟨R, C, l⟩) (ps := List.range R) r4 (fun r hr => List.mem_range.1 hr)
  show (⟨(List.range R).length, C, (rowsN ⟨R, C, l⟩ (List.range R)).l⟩ : NA) = ⟨R, C, l⟩
  have e2 : vals (fun i j => getV l (plc (List.range R) i * C + j)) C (R * C) = vals (fun i j => getV l (i * C + j)) C (R * C) := vals_congr fun i j hi hj => by rw [plc_range hi]
  rw [List.length_range] at e
  rw [e, List.length_range, e2, vals_self R C l r4]
theorem rowV_rowsN {a : NA} {ps : List Nat} (hl : a.l.length = a.R * a.C) (hp : ∀ r ∈ ps, r < a.R) {i : Nat} (hi : i < ps.length) : rowV (rowsN a ps) i = rowV a (plc ps i) := by
  unfold rowV
  refine List.map_congr_left fun k hk => ?_
  show getV (rowsN a ps).l (i * a.C + k) = _
  have hk' : k < a.C := List.mem_range.1 hk
  rw [rowsN_l hl hp]
  show getV (vals (fun i j => getV a.l (plc ps i * a.C + j)) a.C (ps.length * a.C)) (i * a.C + k) = _
  rw [getV_vals _ hi hk']
theorem uniqT_right {a : NA} (ha : a.right) : (uniqueT a).right := by
  obtain ⟨r1, r2, r3, r4, r5⟩ := rightA_nat.1 ha
  exact rowsN_right ha uniq_lt (uniq_pos r1) (uniq_le _ _)
theorem uniq_again {a : NA} (ha : a.right) : uniqueT (uniqueT a) = uniqueT a := by
  obtain ⟨r1, r2, r3, r4, r5⟩ := rightA_nat.1 ha
  have hr := uniqT_right ha
  have e : uniqL (ltU (uniqueT a)) (uniqueT a).R = List.range (uniqueT a).R := by
    unfold uniqL
    refine List.filter_eq_self.2 fun i hi => ?_
    unfold firstB
    rw [List.all_eq_true]
    intro j hj
    have hi' : i < (uniqL (ltU a) a.R).length := List.mem_range.1 hi
    have hj' : j < i := List.mem_range.1 hj
    have h0 : ∀ t, t < (uniqL (ltU a) a.R).length → rowV (uniqueT a) t = rowV a (plc (uniqL (ltU a) a.R) t) := fun t ht => rowV_rowsN r4 uniq_lt ht
    have h1 : ltU (uniqueT a) j i = ltU a (plc (uniqL (ltU a) a.R) j) (plc (uniqL (ltU a) a.R) i) := by
      show decide (lexO (rowV (uniqueT a) j) (rowV (uniqueT a) i) < 0) = _
      rw [h0 j (by omega), h0 i hi']; rfl
    have h2 : ltU (uniqueT a) i j = ltU a (plc (uniqL (ltU a) a.R) i) (plc (uniqL (ltU a) a.R) j) := by
      show decide (lexO (rowV (uniqueT a) i) (rowV (uniqueT a) j) < 0) = _
      rw [h0 j (by omega), h0 i hi']; rfl
    have h3 : plc (uniqL (ltU a) a.R) j < plc (uniqL (ltU a) a.R) i := by
      have hp := List.pairwise_iff_getElem.1 (uniq_sorted (ltU a) a.R) j i (by omega) hi' hj'
      simpa [plc, hi', show j < (uniqL (ltU a) a.R).length by omega] using hp
    have h4 := (uniq_mem.1 (plc_mem hi')).2 _ h3
    rw [h1, h2]
    rcases h4 with h4 | h4 <;> simp [h4]
  show rowsN (uniqueT a) (uniqL (ltU (uniqueT a)) (uniqueT a).R) = _
  rw [e]
  exact rowsN_self hr
end Go.Proofs.YtmjmijjbijlhfaaGreatDoor
namespace Go.Proofs.YtmjmijjbijlhfaaGreatDoor
open Go.RowKit NM
theorem t15 {n : Int} (h0 : 0 ≤ n) (h : n ≤ 4096) : n.natAbs < T 15 := by have : T 15 = 1000000000000000 := (by decide); omega
/-- One column. -/
def colA (l : List Val) : NA := ⟨l.length, 1, l⟩
theorem colA_right {l : List Val} (h1 : 1 ≤ l.length) (h2 : l.length ≤ 4096) (h : ∀ x ∈ l, x.right) : (colA l).right :=
  rightA_nat.2 ⟨h1, Nat.le_refl 1, by show l.length * 1 ≤ 4096; omega, by show l.length = l.length * 1; omega, h⟩
end Go.Proofs.YtmjmijjbijlhfaaGreatDoor
namespace Go.Proofs.YtmjmijjbijlhfaaGreatDoor
open Go.RowKit NM
set_option maxHeartbeats 2000000 in
theorem one15_any (s : ByteArray) (A : Option Addr) (n cap : Nat) (w : World) (X : NA) (hp : ∀ W, Ext w W → Calls Tryz.prog 16 #[.string s, .slice A n cap] W (CallG W X)) :
    Calls Tryz.prog 20 #[.string s, .slice A n cap] w fun e w' => ResA w X e w' := by
  go_enter Tryz.func20, Tryz.ntmps20
  go_wp2_with (go_at_call 16; (with_reducible refine (hp _ (by with_reducible repeat (first | exact Ext.refl _ | apply Ext.drew | apply Ext.alloc | apply Ext.more_))).mono ?_); rintro e w' ⟨D, m, cc, rfl, hD, hb⟩; obtain ⟨os1, d1, rfl⟩ := hb.more; clear hb; have hDr := hD.rd)
  exact bodyPost_ret (v := AV X.R X.C (.slice D m cc)) (by simp [results, Tryz.results20, go_sem]) rfl ⟨D, m, cc, rfl, ⟨(by have h9 := Rd.alloc hDr (.cells #[.int .i64 X.R, .int .i64 X.C, .slice D m cc] 31); simp only [more_alloc] at h9; (try simp only [more_alloc]); exact Rd.swap h9 (by first | (simp; done) | (simp; omega) | omega) (by first | (simp; done) | (simp; omega) | omega) (by first | (simp; done) | (simp; omega) | omega)), hD.len, hD.cap, hD.small, hD.ok⟩, by with_reducible repeat (first | exact Ext.refl _ | apply Ext.drew | apply Ext.alloc | apply Ext.more_)⟩
end Go.Proofs.YtmjmijjbijlhfaaGreatDoor
namespace Go.Proofs
open Go.Shelf
def Tryz.keys23_ren : Go.Shelf.Ren := ⟨fun | 7 => 23 | 10 => 34 | n => n, fun | 23 => 55 | 26 => 9 | 3 => 58 | 28 => 53 | 0 => 0 | 27 => 52 | 33 => 67 | 4 => 4 | n => n, fun | n => n⟩
theorem Tryz.keys23 : Go.Proofs.SlLaysZ.n7 Tryz.prog Tryz.keys23_ren := {
  mixed := by kernel_rfl
  f7 := ⟨Tryz.f23.name, by decide, Tryz.func23.trans (congrArg some (by kernel_rfl))⟩
  f10 := ⟨Tryz.f34.name, by decide, Tryz.func34.trans (congrArg some (by kernel_rfl))⟩
  t0 := Tryz.underlying0
  a0 := Tryz.isAgg0
  z0 := Tryz.sizeOf0
  v0 := Tryz.zeroValue0
  t4 := Tryz.underlying4
  a4 := Tryz.isAgg4
  z4 := Tryz.sizeOf4
  v4 := Tryz.zeroValue4
  t23 := Tryz.underlying55
  a23 := Tryz.isAgg55
  z23 := Tryz.sizeOf55
  v23 := Tryz.zeroValue55
  t26 := Tryz.underlying9
  a26 := Tryz.isAgg9
  z26 := Tryz.sizeOf9
  v26 := Tryz.zeroValue9
  t27 := Tryz.underlying52
  a27 := Tryz.isAgg52
  z27 := Tryz.sizeOf52
  v27 := Tryz.zeroValue52
  t28 := Tryz.underlying53
  a28 := Tryz.isAgg53
  z28 := Tryz.sizeOf53
  v28 := Tryz.zeroValue53
  t33 := Tryz.underlying67
  a33 := Tryz.isAgg67
  z33 := Tryz.sizeOf67
  v33 := Tryz.zeroValue67 }
def Tryz.sorted22_ren : Go.Shelf.Ren := ⟨fun | 6 => 22 | 8 => 32 | 9 => 33 | 11 => 75 | 13 => 77 | 12 => 76 | 23 => 136 | 24 => 137 | 14 => 127 | 15 => 128 | 16 => 129 | 17 => 130 | 18 => 131 | 19 => 132 | 20 => 133 | 21 => 134 | 22 => 135 | 25 => 162 | 26 => 163 | 27 => 164 | 28 => 165 | 29 => 166 | 30 => 167 | 31 => 196 | n => n, fun | 26 => 9 | 28 => 53 | 24 => 24 | 0 => 0 | 3 => 3 | 37 => 48 | 48 => 132 | 50 => 47 | 4 => 4 | 40 => 125 | 39 => 124 | 45 => 101 | 5 => 5 | 9 => 9 | 51 => 149 | 55 => 153 | 57 => 178 | 58 => 75 | 33 => 67 | n => n, fun | n => n⟩
theorem Tryz.sorted22 : Go.Proofs.SlLaysZ.n6 Tryz.prog Tryz.sorted22_ren := {
  mixed := by kernel_rfl
  f6 := ⟨Tryz.f22.name, by decide, Tryz.func22.trans (congrArg some (by kernel_rfl))⟩
  f8 := ⟨Tryz.f32.name, by decide, Tryz.func32.trans (congrArg some (by kernel_rfl))⟩
  f11 := ⟨Tryz.f75.name, by decide, Tryz.func75.trans (congrArg some (by kernel_rfl))⟩
  t0 := Tryz.underlying0
  a0 := Tryz.isAgg0
  z0 := Tryz.sizeOf0
  v0 := Tryz.zeroValue0
  t24 := Tryz.underlying24
  a24 := Tryz.isAgg24
  z24 := Tryz.sizeOf24
  v24 := Tryz.zeroValue24
  t26 := Tryz.underlying9
  a26 := Tryz.isAgg9
  z26 := Tryz.sizeOf9
  v26 := Tryz.zeroValue9
  t28 := Tryz.underlying53
  a28 := Tryz.isAgg53
  z28 := Tryz.sizeOf53
  v28 := Tryz.zeroValue53
  i26 := by kernel_rfl }
def Tryz.sort33_ren : Go.Shelf.Ren := ⟨fun | 6 => 33 | 8 => 77 | 9 => 76 | 19 => 136 | 20 => 137 | 21 => 127 | 22 => 128 | 23 => 129 | 24 => 130 | 25 => 131 | 26 => 132 | 27 => 133 | 28 => 134 | 29 => 135 | 36 => 162 | 31 => 163 | 32 => 164 | 37 => 165 | 38 => 166 | 39 => 167 | 41 => 196 | n => n, fun | 27 => 24 | 29 => 9 | 3 => 3 | 32 => 48 | 26 => 24 | 0 => 0 | 44 => 132 | 46 => 47 | 4 => 4 | 36 => 125 | 35 => 124 | 41 => 101 | 5 => 5 | 9 => 9 | 53 => 149 | 57 => 153 | 63 => 178 | 64 => 75 | n => n, fun | n => n⟩
theorem Tryz.sort33 : Go.Proofs.SlLaysM.n6 Tryz.prog Tryz.sort33_ren := {
  mixed := by kernel_rfl
  f6 := ⟨Tryz.f33.name, by decide, Tryz.func33.trans (congrArg some (by kernel_rfl))⟩
  f8 := Tryz.func77.trans (congrArg some (by kernel_rfl))
  f9 := ⟨Tryz.f76.name, by decide, Tryz.func76.trans (congrArg some (by kernel_rfl))⟩
  f19 := Tryz.func136.trans (congrArg some (by kernel_rfl))
  f20 := Tryz.func137.trans (congrArg some (by kernel_rfl))
  f21 := ⟨Tryz.f127.name, by decide, Tryz.func127.trans (congrArg some (by kernel_rfl))⟩
  f22 := ⟨Tryz.f128.name, by decide, Tryz.func128.trans (congrArg some (by kernel_rfl))⟩
  f23 := ⟨Tryz.f129.name, by decide, Tryz.func129.trans (congrArg some (by kernel_rfl))⟩
  f24 := ⟨Tryz.f130.name, by decide, Tryz.func130.trans (congrArg some (by kernel_rfl))⟩
  f25 := ⟨Tryz.f131.name, by decide, Tryz.func131.trans (congrArg some (by kernel_rfl))⟩
  f26 := ⟨Tryz.f132.name, by decide, Tryz.func132.trans (congrArg some (by kernel_rfl))⟩
  f27 := ⟨Tryz.f133.name, by decide, Tryz.func133.trans (congrArg some (by kernel_rfl))⟩
  f28 := ⟨Tryz.f134.name, by decide, Tryz.func134.trans (congrArg some (by kernel_rfl))⟩
  f29 := ⟨Tryz.f135.name, by decide, Tryz.func135.trans (congrArg some (by kernel_rfl))⟩
  f31 := Tryz.func163.trans (congrArg some (by kernel_rfl))
  f32 := Tryz.func164.trans (congrArg some (by kernel_rfl))
  f36 := ⟨Tryz.f162.name, by decide, Tryz.func162.trans (congrArg some (by kernel_rfl))⟩
  f37 := ⟨Tryz.f165.name, by decide, Tryz.func165.trans (congrArg some (by kernel_rfl))⟩
  f38 := ⟨Tryz.f166.name, by decide, Tryz.func166.trans (congrArg some (by kernel_rfl))⟩
  f39 := ⟨Tryz.f167.name, by decide, Tryz.func167.trans (congrArg some (by kernel_rfl))⟩
  f41 := ⟨Tryz.f196.name, by decide, Tryz.func196.trans (congrArg some (by kernel_rfl))⟩
  t0 := Tryz.underlying0
  a0 := Tryz.isAgg0
  z0 := Tryz.sizeOf0
  v0 := Tryz.zeroValue0
  t3 := Tryz.underlying3
  a3 := Tryz.isAgg3
  z3 := Tryz.sizeOf3
  v3 := Tryz.zeroValue3
  t4 := Tryz.underlying4
  a4 := Tryz.isAgg4
  z4 := Tryz.sizeOf4
  v4 := Tryz.zeroValue4
  t5 := Tryz.underlying5
  a5 := Tryz.isAgg5
  z5 := Tryz.sizeOf5
  v5 := Tryz.zeroValue5
  t9 := Tryz.underlying9
  a9 := Tryz.isAgg9
  z9 := Tryz.sizeOf9
  v9 := Tryz.zeroValue9
  t26 := Tryz.underlying24
  a26 := Tryz.isAgg24
  z26 := Tryz.sizeOf24
  v26 := Tryz.zeroValue24
  t27 := Tryz.underlying24
  a27 := Tryz.isAgg24
  z27 := Tryz.sizeOf24
  v27 := Tryz.zeroValue24
  t29 := Tryz.underlying9
  a29 := Tryz.isAgg9
  z29 := Tryz.sizeOf9
  v29 := Tryz.zeroValue9
  t32 := Tryz.underlying48
  a32 := Tryz.isAgg48
  z32 := Tryz.sizeOf48
  v32 := Tryz.zeroValue48
  t35 := Tryz.underlying124
  a35 := Tryz.isAgg124
  z35 := Tryz.sizeOf124
  v35 := Tryz.zeroValue124
  t36 := Tryz.underlying125
  a36 := Tryz.isAgg125
  z36 := Tryz.sizeOf125
  v36 := Tryz.zeroValue125
  t41 := Tryz.underlying101
  a41 := Tryz.isAgg101
  z41 := Tryz.sizeOf101
  v41 := Tryz.zeroValue101
  t44 := Tryz.underlying132
  a44 := Tryz.isAgg132
  z44 := Tryz.sizeOf132
  v44 := Tryz.zeroValue132
  t46 := Tryz.underlying47
  a46 := Tryz.isAgg47
  z46 := Tryz.sizeOf47
  v46 := Tryz.zeroValue47
  t53 := Tryz.underlying149
  a53 := Tryz.isAgg149
  z53 := Tryz.sizeOf149
  v53 := Tryz.zeroValue149
  t57 := Tryz.underlying153
  a57 := Tryz.isAgg153
  z57 := Tryz.sizeOf153
  v57 := Tryz.zeroValue153
  t63 := Tryz.underlying178
  a63 := Tryz.isAgg178
  z63 := Tryz.sizeOf178
  v63 := Tryz.zeroValue178
  t64 := Tryz.underlying75
  a64 := Tryz.isAgg75
  z64 := Tryz.sizeOf75
  v64 := Tryz.zeroValue75 }
open Go.RowKit Go.Maps Go.Sort
theorem Tryz.sorts22 (m : Nat) : AnyZ.SortsIn Tryz.prog Tryz.sorted22_ren Fence.wide m :=
  ⟨fun blk off cap ss W hH hblk hsz => callsIn_wide.2 (AnyM.slices_Sort_string Tryz.sort33 blk off cap ss W hH hblk hsz),
   fun p cap W => callsIn_wide.2 (AnyM.slices_Sort_string_none Tryz.sort33 p cap W)⟩
theorem Tryz.maps_Keys_23 (mb : Option Nat) (W : World) : CallsIn Fence.wide 5 Tryz.prog 23 #[.map mb] W fun e w' => e = .returned (.func (.func 34) #[] #[.pointer (some ⟨W.heap.size, 0, none⟩)]) ∧ w' = W.alloc (.cells #[.map mb] 55) :=
  AnyZ.keys_in Tryz.keys23 Fence.wide 5 trivial rfl mb W
set_option maxHeartbeats 1000000 in
theorem Tryz.slices_Sorted_keys_22_23 {H : Type} (b nn : Nat) (D0 : DataW H) (R : Value → Option (DataW H × List MemPlace)) (w : World) (hown : w.ownsMap Tryz.prog 9 R b nn D0) (hmax : Maps.size D0 ≤ maxLen) (hbytes : Maps.size D0 * 16 ≤ 140737488355328) :
    CallsIn Fence.wide 5 Tryz.prog 22 #[.func (.func 34) #[] #[.pointer (some ⟨w.heap.size, 0, none⟩)]] (w.alloc (.cells #[.map (some b)] 55)) fun e w' => ∃ (v : Value) (ss : List (List UInt8)), e = .returned v ∧ ss.Perm (strKeys D0) ∧
      w'.ownsRow (w.alloc (.cells #[.map (some b)] 55)).heap.size 9 1 v ss.length ((ss.mergeSort (fun x y => decide (x ≤ y))).map encStr) ∧ (v = .slice none 0 0 ↔ ss = []) ∧ Below (w.alloc (.cells #[.map (some b)] 55)).heap.size (w.alloc (.cells #[.map (some b)] 55)) w' := by
  have hbl := hown.lt
  have hseq : SeqGives Fence.wide 2 Tryz.prog 34 #[.pointer (some ⟨w.heap.size, 0, none⟩)] encStr (fun ss => ss.Perm (strKeys D0)) (Maps.size D0) (w.alloc (.cells #[.map (some b)] 55)) :=
    AnyZ.keys_gives (ρ := Tryz.keys23_ren) { Tryz.keys23 with } Fence.wide _ trivial rfl (by omega) w.heap.size b nn D0 _ (by simp) (by simp) (by
      obtain ⟨es, clock, hb, Ft, hs, hD⟩ := hown
      exact ⟨es, clock, (Below.heap_alloc _ _ b hbl).trans hb, Ft, hs, hD⟩)
  exact AnyZ.sorted_in Tryz.sorted22 Fence.wide 5 trivial trivial trivial trivial rfl (by omega) (Tryz.sorts22 _) (enters_of Tryz.func33 (by kernel_rfl) rfl) 34 #[.pointer (some ⟨w.heap.size, 0, none⟩)] trivial (enters_of Tryz.func34 (by kernel_rfl) rfl) _ _ hmax hbytes _ hseq
end Go.Proofs
namespace Go.Proofs.YtmjmijjbijlhfaaGreatDoor
open Go.RowKit NM Go.Maps Go.Sort Go.Shelf
theorem tab_size (p1 p2 : Nat) : Maps.size (tabD (farrayL p1 p2)) = 14 := by kernel_rfl
theorem tab_keys (p1 p2 : Nat) : strKeys (tabD (farrayL p1 p2)) = strKeys (tabD (farrayL 0 0)) := by kernel_rfl
theorem tab_keys_len : (strKeys (tabD (farrayL 0 0))).length = 14 := by kernel_rfl
set_option maxHeartbeats 1000000 in
theorem gnames_any (w : World) :
    Calls Tryz.prog 10 #[] w fun e w' => ∃ (v : Value) (ss : List (List UInt8)), e = .returned v ∧ ss.Perm (strKeys (tabD (farrayL 0 0))) ∧ w'.ownsRow w.heap.size 9 1 v 14 ((ss.mergeSort (fun x y => decide (x ≤ y))).map encStr) ∧ Ext w w' := by
  refine (callsIn_wide (n := 6)).1 ?_
  have hfK : Fence.wide.fn 23 := trivial
  have hfS : Fence.wide.fn 22 := trivial
  have hfT : Fence.wide.fn 24 := trivial
  refine callsIn_of_wp Tryz.func10 rfl trivial ?_ rfl
  simp only [Tryz.ntmps10, List.size_toArray, List.length_cons, List.length_nil, Nat.reduceAdd, Nat.reduceSub, Array.replicate_succ, Array.replicate_zero, List.push_toArray, List.append_toArray, List.nil_append, List.cons_append]
  gi_wp2_with (first
    | (gi_at_call 24; refine (callsIn_wide.2 (gtable_any _)).mono ?_; rintro e w' ⟨bm, rfl, p1, p2, hT⟩)
    | (gi_at_call 23; refine (Tryz.maps_Keys_23 _ _).mono ?_; rintro e w' ⟨rfl, rfl⟩)
    | (gi_at_call 22; refine (Tryz.slices_Sorted_keys_22_23 bm _ _ tabR _ hT.tab (by rw [tab_size]; decide) (by rw [tab_size]; decide)).mono ?_; rintro e w' ⟨v, ss, rfl, hS, hrow, hnil, hb⟩))
  go_ret
  rw [tab_keys] at hS
  have hl : ss.length = 14 := by rw [hS.length_eq, tab_keys_len]
  rw [hl] at hrow
  have hx := hT.ext
  refine ⟨v, ss, rfl, hS, ownsRow_base_a hrow (by have := hx.size; simp; omega), hx.trans (((Ext.refl _).alloc _).trans hb)⟩
end Go.Proofs.YtmjmijjbijlhfaaGreatDoor
namespace Go.Proofs.YtmjmijjbijlhfaaGreatDoor
open Go.RowKit NM
set_option maxHeartbeats 1000000 in
theorem gcall_no (s : ByteArray) (hs : s.size ≤ maxLen) (hl : ∀ p1 p2, tabAt (farrayL p1 p2) s.data.toList = none) (A : Option Addr) (n cap : Nat) (w : World) :
    Calls Tryz.prog 16 #[.string s, .slice A n cap] w fun e w' => e = .returned (.tuple #[AV 0 0 (.slice none 0 0), .bool false]) ∧ Ext w w' := by
  go_enter Tryz.func16, Tryz.ntmps16
  go_wp2_with (first | (go_at_call 24; (with_reducible refine (gtable_any _).mono ?_); rintro e w' ⟨bm, rfl, p1, p2, hT⟩; have hxT := hT.ext; have ht := hl p1 p2; have HT := Lib.hid ht; clear ht; obtain ⟨os1, d1, rfl⟩ := hxT.more) | (refine wpL_look rfl _ _ _ rfl 9 58 Tryz.underlying9 Tryz.underlying55 _ _ rfl (hT.tab.ext (by repeat (first | (with_reducible (first | exact Ext.refl _ | exact ext_app _ _ _ _ _ | exact ext_app2 _ _ _ _ _ _)) | ((with_reducible refine ext_suffix ⟨_, ?_⟩); (try simp only [Array.append_assoc]); rfl) | (with_reducible (first | apply Ext.drew | apply Ext.alloc | apply Ext.more_))))) (gfarray_pair _ _) _ (zero_gfn _) _ rfl hs (.agg #[.int .i64 0, .int .i64 0, .nilFunc]) false (by rw [HT.out]; rfl) (by rw [HT.out]; rfl) ?_))
  exact bodyPost_ret (v := .tuple #[AV 0 0 (.slice none 0 0), .bool false]) (by simp [results, Tryz.results16, go_sem]) rfl ⟨rfl, by repeat (first | (with_reducible (first | exact Ext.refl _ | exact ext_app _ _ _ _ _ | exact ext_app2 _ _ _ _ _ _)) | ((with_reducible refine ext_suffix ⟨_, ?_⟩); (try simp only [Array.append_assoc]); rfl) | (with_reducible (first | apply Ext.drew | apply Ext.alloc | apply Ext.more_)))⟩
def numK (k : Int) : Val := ⟨1, k, 0, ⟨#[]⟩, false, 0⟩
theorem rt_2 : Rt 2 0 := Or.inr ⟨by decide, by decide, by decide, by decide, by have h := (nd_le_iff 2 1).2 (by decide); show ((nd 2 : Nat) : Int) + 0 ≤ 40; omega⟩
theorem rt_3 : Rt 3 0 := Or.inr ⟨by decide, by decide, by decide, by decide, by have h := (nd_le_iff 3 1).2 (by decide); show ((nd 3 : Nat) : Int) + 0 ≤ 40; omega⟩
theorem rt_4 : Rt 4 0 := Or.inr ⟨by decide, by decide, by decide, by decide, by have h := (nd_le_iff 4 1).2 (by decide); show ((nd 4 : Nat) : Int) + 0 ≤ 40; omega⟩
theorem add_1 : addS 1 0 1 0 = some (2, 0) := by
  unfold addS; rw [if_pos ⟨rt_one, rt_one⟩]; exact rnd_of_right false rt_2
theorem add_2 : addS 2 0 1 0 = some (3, 0) := by
  unfold addS; rw [if_pos ⟨rt_2, rt_one⟩]; exact rnd_of_right false rt_3
theorem add_3 : addS 3 0 1 0 = some (4, 0) := by
  unfold addS; rw [if_pos ⟨rt_3, rt_one⟩]; exact rnd_of_right false rt_4
theorem seq_4 : seqS (1, 0) (1, 0) 3 = some ([numK 1, numK 2, numK 3, numK 4], (4, 0)) := by
  simp only [seqS, add_1, add_2, add_3]; rfl
theorem cnt_3 : cntV 3 = numK 3 := by
  have h : wholeN 3 = (3, 0) := by
    have : rndI 3 0 = some (3, 0) := rnd_of_right false rt_3
    unfold wholeN; rw [this]; rfl
  unfold cntV; rw [h]; rfl
theorem given_one {y : Val} (h : y.kind = 1) (D : Option Addr) (m c : Nat) (xs : List Ar) (k : Nat) (hk : xs[k]? = some (arAt (oneA y) D m c)) : givenB xs k = true ∧ argV xs k = y := by
  have hv : getV (arAt (oneA y) D m c).x.l 0 = y := rfl
  constructor
  · unfold givenB; rw [hk]; simp only; rw [hv, h]; rfl
  · unfold argV; rw [hk]; exact hv
theorem seq_22 (D1 D2 : Option Addr) (m1 c1 m2 c2 : Nat) : sequenceO [arAt (oneA (cntV 2)) D1 m1 c1, arAt (oneA (cntV 2)) D2 m2 c2] = ⟨2, 2, [numK 1, numK 2, numK 3, numK 4]⟩ := by
  obtain ⟨g0, a0⟩ := given_one (y := cntV 2) rfl D1 m1 c1 [arAt (oneA (cntV 2)) D1 m1 c1, arAt (oneA (cntV 2)) D2 m2 c2] 0 rfl
  obtain ⟨g1, a1⟩ := given_one (y := cntV 2) rfl D2 m2 c2 [arAt (oneA (cntV 2)) D1 m1 c1, arAt (oneA (cntV 2)) D2 m2 c2] 1 rfl
  have hw : wholeO (cntV 2) = (2, 0) := whole_cnt (n := 2) (by decide)
  unfold sequenceO numO tnO
  rw [g0, g1, a0, a1, hw]
  rw [show givenB [arAt (oneA (cntV 2)) D1 m1 c1, arAt (oneA (cntV 2)) D2 m2 c2] 2 = false from rfl, show givenB [arAt (oneA (cntV 2)) D1 m1 c1, arAt (oneA (cntV 2)) D2 m2 c2] 3 = false from rfl]
  simp only [if_true, Bool.false_eq_true, if_false]
  unfold seqT
  simp only [ne_eq, not_true, if_false]
  rw [if_neg (by decide), if_neg (by decide)]
  rw [show (2 : Int).toNat * (2 : Int).toNat - 1 = 3 from rfl, seq_4]
  rfl
def awL : List Val := [numK 1, numK 2, numK 3, numK 4]
theorem aw_right : NA.right ⟨2, 2, awL⟩ := by
  refine rightA_nat.2 ⟨by decide, by decide, by decide, rfl, fun x hx => ?_⟩
  simp only [awL, List.mem_cons, List.not_mem_nil, or_false] at hx
  rcases hx with rfl | rfl | rfl | rfl
  · exact right_num rt_one
  · exact right_num rt_2
  · exact right_num rt_3
  · exact right_num rt_4
theorem aw_turn (D : Option Addr) (m c : Nat) : turnO [arAt ⟨2, 2, awL⟩ D m c] = ⟨2, 2, [numK 1, numK 3, numK 2, numK 4]⟩ := by
  show (⟨2, 2, turnL 2 2 awL⟩ : NA) = _
  rw [show turnL 2 2 awL = [numK 1, numK 3, numK 2, numK 4] by simp [turnL, vals, awL, getV, List.range, List.range.loop]]
theorem call_seq22 (A : Option Addr) (w : World) (htab : Tab w) (D1 D2 : Option Addr) (m1 c1 m2 c2 : Nat) (h : ArgsIn w A 2 2 [arAt (oneA (cntV 2)) D1 m1 c1, arAt (oneA (cntV 2)) D2 m2 c2]) :
    Calls Tryz.prog 16 #[.string ⟨#[83, 69, 81, 85, 69, 78, 67, 69]⟩, .slice A 2 2] w (CallG w ⟨2, 2, awL⟩) := by
  have hc := pcall_sequence A 2 2 _ w htab h.toG
  rw [arsOf_toG, callX_in _ (by simp) (by simp) (fun a ha => (h.all a ha).right), seq_22] at hc
  exact hc
theorem call_turn4 (A : Option Addr) (w : World) (htab : Tab w) (D1 : Option Addr) (m1 c1 : Nat) (h : ArgsIn w A 1 1 [arAt ⟨2, 2, awL⟩ D1 m1 c1]) :
    Calls Tryz.prog 16 #[.string ⟨#[84, 82, 65, 78, 83, 80, 79, 83, 69]⟩, .slice A 1 1] w (CallG w ⟨2, 2, [numK 1, numK 3, numK 2, numK 4]⟩) := by
  have hc := pcall_transpose A 1 1 _ w htab h.toG
  rw [arsOf_toG, callX_in _ (by simp) (by simp) (fun a ha => (h.all a ha).right), aw_turn] at hc
  exact hc
theorem num15_three (W : World) : Calls Tryz.prog 15 #[.int .i64 3] W fun e w' => ∃ b9 off9 c9, e = .returned (AV 1 1 (.slice (some ⟨b9, off9, none⟩) 1 c9)) ∧ ValAt w' b9 off9 (numK 3) ∧ 1 ≤ c9 ∧ Ext W w' := by
  have h := num15_any 3 W (by decide)
  rw [cnt_3] at h
  refine h.mono ?_
  rintro e w' ⟨D, m, c, rfl, hN, hb⟩
  have hA := hN.arr
  obtain rfl : 1 = m := hA.len
  obtain ⟨x, b, off, hx, _, rfl, hv⟩ := hA.at (k := 0) (by decide)
  obtain rfl : numK 3 = x := by simpa [oneA] using hx
  rw [Nat.zero_mul, Nat.add_zero] at hv
  exact ⟨b, off, c, rfl, hv, hA.cap, hb⟩
set_option maxHeartbeats 4000000 in
theorem awake15_any (w : World) (htab : Tab w) :
    Calls Tryz.prog 9 #[] w fun e w' => e = .returned (.bool true) ∧ Ext w w' := by
  have h2 := fun W => num15_any 2 W (by decide)
  have r2 := one_right_ (cnt_right15 (n := 2) (by decide))
  have hq := fun W A hT D1 D2 m1 c1 m2 c2 h => call_seq22 A W hT D1 D2 m1 c1 m2 c2 h
  generalize cntV 2 = y2 at *
  have HT := Lib.hid htab
  clear htab
  go_enter Tryz.func9, Tryz.ntmps9
  go_wp2_with fail
  (go_at_call 15; (with_reducible refine (h2 _).mono ?_); rintro e w' ⟨D1, m1, c1, rfl, hN1, hb⟩; obtain ⟨os1, d1, rfl⟩ := hb.more; clear hb; have hA1 := hN1.arr; (try simp only [more_more, Array.append_assoc] at hA1))
  go_wp2_with fail
  (go_at_call 15; (with_reducible refine (h2 _).mono ?_); rintro e w' ⟨D2, m2, c2, rfl, hN2, hb⟩; obtain ⟨os2, d2, rfl⟩ := hb.more; clear hb; have hA2 := hN2.arr; (try simp only [more_more, Array.append_assoc] at hA2))
  go_wp2_with fail
  refine (hq _ _ (HT.out.ext (by repeat (first | (with_reducible (first | exact Ext.refl _ | exact ext_app _ _ _ _ _ | exact ext_app2 _ _ _ _ _ _)) | ((with_reducible refine ext_suffix ⟨_, ?_⟩); (try simp only [Array.append_assoc]); rfl) | (with_reducible (first | apply Ext.drew | apply Ext.alloc | apply Ext.more_))))) D1 D2 m1 c1 m2 c2 (argsG_new _ (by simp) rfl rfl (by decide) (by intro a ha; simp only [List.mem_cons, List.not_mem_nil, or_false] at ha; rcases ha with rfl | rfl; exact ⟨hA1.ext (by repeat (first | (with_reducible (first | exact Ext.refl _ | exact ext_app _ _ _ _ _ | exact ext_app2 _ _ _ _ _ _)) | ((with_reducible refine ext_suffix ⟨_, ?_⟩); (try simp only [Array.append_assoc]); rfl) | (with_reducible (first | apply Ext.drew | apply Ext.alloc | apply Ext.more_)))), r2⟩; exact ⟨hA2.ext (by repeat (first | (with_reducible (first | exact Ext.refl _ | exact ext_app _ _ _ _ _ | exact ext_app2 _ _ _ _ _ _)) | ((with_reducible refine ext_suffix ⟨_, ?_⟩); (try simp only [Array.append_assoc]); rfl) | (with_reducible (first | apply Ext.drew | apply Ext.alloc | apply Ext.more_)))), r2⟩))).mono ?_
  rintro e w' ⟨D4, m4, c4, rfl, hN4, hb⟩
  obtain ⟨os4, d4, rfl⟩ := hb.more
  clear hb
  have hA4 := hN4.arr
  (try simp only [more_more, Array.append_assoc] at hA4)
  have hm4 := hA4.len
  obtain rfl : 4 = m4 := hm4
  clear hN4 hA1 hA2 hN1 hN2
  go_wp2_with fail
  refine (call_turn4 _ _ (HT.out.ext (by repeat (first | (with_reducible (first | exact Ext.refl _ | exact ext_app _ _ _ _ _ | exact ext_app2 _ _ _ _ _ _)) | ((with_reducible refine ext_suffix ⟨_, ?_⟩); (try simp only [Array.append_assoc]); rfl) | (with_reducible (first | apply Ext.drew | apply Ext.alloc | apply Ext.more_))))) D4 4 c4 (argsG_new _ (by simp) rfl rfl (by decide) (by intro a ha; obtain rfl := List.mem_singleton.1 ha; exact ⟨hA4.ext (by repeat (first | (with_reducible (first | exact Ext.refl _ | exact ext_app _ _ _ _ _ | exact ext_app2 _ _ _ _ _ _)) | ((with_reducible refine ext_suffix ⟨_, ?_⟩); (try simp only [Array.append_assoc]); rfl) | (with_reducible (first | apply Ext.drew | apply Ext.alloc | apply Ext.more_)))), aw_right⟩))).mono ?_
  rintro e w' ⟨D5, m5, c5, rfl, hN5, hb⟩
  obtain ⟨os5, d5, rfl⟩ := hb.more
  clear hb
  have hA5 := hN5.arr
  (try simp only [more_more, Array.append_assoc] at hA5)
  have hm5 := hA5.len
  obtain rfl : 4 = m5 := hm5
  clear hN5
  go_wp2_with fail
  refine (gcall_no ⟨#[83, 85, 77]⟩ (by decide) (fun _ _ => rfl) _ _ _ _).mono ?_
  rintro e w' ⟨rfl, hb⟩
  obtain ⟨os6, d6, rfl⟩ := hb.more
  clear hb
  go_upto_region 4 with fail
  refine wp_world fun W0 hW0 => ?_
  have hx0 : Ext w W0 := by rw [hW0]; exact (by repeat (first | (with_reducible (first | exact Ext.refl _ | exact ext_app _ _ _ _ _ | exact ext_app2 _ _ _ _ _ _)) | ((with_reducible refine ext_suffix ⟨_, ?_⟩); (try simp only [Array.append_assoc]); rfl) | (with_reducible (first | apply Ext.drew | apply Ext.alloc | apply Ext.more_))))
  have hA0 : ArrIn W0 D5 4 c5 [numK 1, numK 3, numK 2, numK 4] := by rw [hW0]; exact hA5.ext (by repeat (first | (with_reducible (first | exact Ext.refl _ | exact ext_app _ _ _ _ _ | exact ext_app2 _ _ _ _ _ _)) | ((with_reducible refine ext_suffix ⟨_, ?_⟩); (try simp only [Array.append_assoc]); rfl) | (with_reducible (first | apply Ext.drew | apply Ext.alloc | apply Ext.more_))))
  have a2 : W0.cell? ⟨w.heap.size + (os1.size + os2.size) + 1 + os4.size, 2, none⟩ = some (.slice D4 4 c4) := by rw [hW0]; go_simp
  have b2 : W0.cell? ⟨w.heap.size + (os1.size + os2.size) + 1 + os4.size + 1 + 1 + os5.size, 2, none⟩ = some (.slice D5 4 c5) := by rw [hW0]; go_simp
  have hla := lt_of_cell a2
  have hlb := lt_of_cell b2
  clear hW0 hA4 hA5
  generalize w.heap.size + (os1.size + os2.size) + 1 + os4.size + 1 + 1 + os5.size = pb at *
  generalize w.heap.size + (os1.size + os2.size) + 1 + os4.size = pa at *
  obtain ⟨x5, b5, off5, hx5, _, rfl, ⟨y0, y1, y2', y3, y4, y5⟩⟩ := hA0.at (k := 1) (by decide)
  obtain rfl : numK 3 = x5 := by simpa using hx5
  have hl5 := lt_of_cell y0
  have hc5 := hA0.cap
  clear hA0 hx5
  simp only [numK] at y0 y1 y2' y3 y4 y5
  refine wp_plan (S := Ext _) [(0, 0), (1, 0), (2, 0), (3, 0), (4, 0), (5, 0), (6, 0), (7, 0), (8, 0), (9, 0), (10, 0), (11, 0), (12, 0), (13, 0), (14, 0), (15, 0), (16, 0), (17, 0), (18, 0), (19, 0), (20, 0), (21, 0), (22, 0), (23, 0), (24, 0), (25, 1), (26, 0), (27, 0), (28, 1), (29, 0), (30, 0), (31, 0), (32, 1), (33, 0), (34, 0), (35, 0), (36, 0)] [] (by kernel_rfl) (by kernel_rfl) (by kernel_rfl) (fun _ _ d _ _ h => by cases d <;> exact h) (Ext.drew (Ext.refl _)) ?_
  iterate 2 ((refine wpPl_read (v := ?_) rfl ?_ (fun _ h => ?_) ?_; rotate_left 1; rfl; (obtain ⟨_, _, rfl⟩ := h.more; go_simp; try rfl)); try simp only [Act.put, zqA, zqB, zqC])
  first | (refine wpPl_skip rfl rfl ?_) | (refine wpPl_read (v := ?_) rfl ?_ (fun w1 h1 => ?_) ?_; rotate_left 1; rfl; (obtain ⟨os1, d1, rfl⟩ := h1.more; go_simp; first | done | rfl)) | (refine wpPl_gread (v := ?_) (c := ?_) rfl rfl rfl rfl ?_ (fun hc w1 h1 => ?_) ?_; rotate_left 2; (first | exact gc_t _ | exact gc_f _ | exact gc_gt _ _ | exact gc_gf _ _); (obtain ⟨os1, d1, rfl⟩ := h1.more; (try simp only [gv_of hc]); (try (have hc1 := and_l hc; (try simp only [gv_of hc1]); (try (have hc2 := and_l hc1; (try simp only [gv_of hc2]))))); go_simp; first | done | rfl))
  try simp only [Act.put, zqA, zqB, zqC]
  first | (refine wpPl_pick_and rfl rfl rfl rfl rfl rfl ?_) | (refine wpPl_pick_or rfl rfl rfl rfl rfl rfl ?_) | (refine wpPl_read (v := ?_) rfl ?_ (fun w1 h1 => ?_) ?_; rotate_left 1; rfl; (obtain ⟨os1, d1, rfl⟩ := h1.more; go_simp; first | done | rfl))
  try simp only [Act.put, zqA, zqB, zqC]
  (refine wpPl_read (v := ?_) rfl ?_ (fun _ h => ?_) ?_; rotate_left 1; rfl; (obtain ⟨_, _, rfl⟩ := h.more; go_simp; try rfl))
  try simp only [Act.put, zqA, zqB, zqC]
  iterate 2 ((first | (refine wpPl_skip rfl rfl ?_) | (refine wpPl_read (v := ?_) rfl ?_ (fun w1 h1 => ?_) ?_; rotate_left 1; rfl; (obtain ⟨os1, d1, rfl⟩ := h1.more; go_simp; first | done | rfl)) | (refine wpPl_gread (v := ?_) (c := ?_) rfl rfl rfl rfl ?_ (fun hc w1 h1 => ?_) ?_; rotate_left 2; (first | exact gc_t _ | exact gc_f _ | exact gc_gt _ _ | exact gc_gf _ _); (obtain ⟨os1, d1, rfl⟩ := h1.more; (try simp only [gv_of hc]); (try (have hc1 := and_l hc; (try simp only [gv_of hc1]); (try (have hc2 := and_l hc1; (try simp only [gv_of hc2]))))); go_simp; first | done | rfl))); try simp only [Act.put, zqA, zqB, zqC])
  first | (refine wpPl_pick_and rfl rfl rfl rfl rfl rfl ?_) | (refine wpPl_pick_or rfl rfl rfl rfl rfl rfl ?_) | (refine wpPl_read (v := ?_) rfl ?_ (fun w1 h1 => ?_) ?_; rotate_left 1; rfl; (obtain ⟨os1, d1, rfl⟩ := h1.more; go_simp; first | done | rfl))
  try simp only [Act.put, zqA, zqB, zqC]
  (refine wpPl_read (v := ?_) rfl ?_ (fun _ h => ?_) ?_; rotate_left 1; rfl; (obtain ⟨_, _, rfl⟩ := h.more; go_simp; try rfl))
  try simp only [Act.put, zqA, zqB, zqC]
  iterate 4 ((first | (refine wpPl_skip rfl rfl ?_) | (refine wpPl_read (v := ?_) rfl ?_ (fun w1 h1 => ?_) ?_; rotate_left 1; rfl; (obtain ⟨os1, d1, rfl⟩ := h1.more; go_simp; first | done | rfl)) | (refine wpPl_gread (v := ?_) (c := ?_) rfl rfl rfl rfl ?_ (fun hc w1 h1 => ?_) ?_; rotate_left 2; (first | exact gc_t _ | exact gc_f _ | exact gc_gt _ _ | exact gc_gf _ _); (obtain ⟨os1, d1, rfl⟩ := h1.more; (try simp only [gv_of hc]); (try (have hc1 := and_l hc; (try simp only [gv_of hc1]); (try (have hc2 := and_l hc1; (try simp only [gv_of hc2]))))); go_simp; first | done | rfl))); try simp only [Act.put, zqA, zqB, zqC])
  first | (refine wpPl_pick_and rfl rfl rfl rfl rfl rfl ?_) | (refine wpPl_pick_or rfl rfl rfl rfl rfl rfl ?_) | (refine wpPl_read (v := ?_) rfl ?_ (fun w1 h1 => ?_) ?_; rotate_left 1; rfl; (obtain ⟨os1, d1, rfl⟩ := h1.more; go_simp; first | done | rfl))
  try simp only [Act.put, zqA, zqB, zqC]
  (refine wpPl_read (v := ?_) rfl ?_ (fun _ h => ?_) ?_; rotate_left 1; rfl; (obtain ⟨_, _, rfl⟩ := h.more; go_simp; try rfl))
  try simp only [Act.put, zqA, zqB, zqC]
  iterate 4 ((first | (refine wpPl_skip rfl rfl ?_) | (refine wpPl_read (v := ?_) rfl ?_ (fun w1 h1 => ?_) ?_; rotate_left 1; rfl; (obtain ⟨os1, d1, rfl⟩ := h1.more; go_simp; first | done | rfl)) | (refine wpPl_gread (v := ?_) (c := ?_) rfl rfl rfl rfl ?_ (fun hc w1 h1 => ?_) ?_; rotate_left 2; (first | exact gc_t _ | exact gc_f _ | exact gc_gt _ _ | exact gc_gf _ _); (obtain ⟨os1, d1, rfl⟩ := h1.more; (try simp only [gv_of hc]); (try (have hc1 := and_l hc; (try simp only [gv_of hc1]); (try (have hc2 := and_l hc1; (try simp only [gv_of hc2]))))); go_simp; first | done | rfl))); try simp only [Act.put, zqA, zqB, zqC])
  first | (refine wpPl_pick_and rfl rfl rfl rfl rfl rfl ?_) | (refine wpPl_pick_or rfl rfl rfl rfl rfl rfl ?_) | (refine wpPl_read (v := ?_) rfl ?_ (fun w1 h1 => ?_) ?_; rotate_left 1; rfl; (obtain ⟨os1, d1, rfl⟩ := h1.more; go_simp; first | done | rfl))
  try simp only [Act.put, zqA, zqB, zqC]
  (refine wpPl_read (v := ?_) rfl ?_ (fun _ h => ?_) ?_; rotate_left 1; rfl; (obtain ⟨_, _, rfl⟩ := h.more; go_simp; try rfl))
  try simp only [Act.put, zqA, zqB, zqC]
  iterate 4 ((first | (refine wpPl_skip rfl rfl ?_) | (refine wpPl_read (v := ?_) rfl ?_ (fun w1 h1 => ?_) ?_; rotate_left 1; rfl; (obtain ⟨os1, d1, rfl⟩ := h1.more; go_simp; first | done | rfl)) | (refine wpPl_gread (v := ?_) (c := ?_) rfl rfl rfl rfl ?_ (fun hc w1 h1 => ?_) ?_; rotate_left 2; (first | exact gc_t _ | exact gc_f _ | exact gc_gt _ _ | exact gc_gf _ _); (obtain ⟨os1, d1, rfl⟩ := h1.more; (try simp only [gv_of hc]); (try (have hc1 := and_l hc; (try simp only [gv_of hc1]); (try (have hc2 := and_l hc1; (try simp only [gv_of hc2]))))); go_simp; first | done | rfl))); try simp only [Act.put, zqA, zqB, zqC])
  (refine wpPl_eff rfl ?_ (fun K hK => ?_); (first | with_reducible rfl | rfl | (go_simp; done)); go_simp; refine (num15_three _).mono ?_; rintro e w' ⟨b9, off9, c9, rfl, ⟨z0, z1, z2, z3, z4, z5⟩, hc9, hb⟩; have hl9 := lt_of_cell z0; (simp only [numK] at z0 z1 z2 z3 z4 z5); obtain ⟨os9, d9, rfl⟩ := hb.more; clear hb; (try simp only [drew_more] at z0 z1 z2 z3 z4 z5); (try simp only [more_size] at hl9); refine hK _ _ ?_ ?_; (repeat (first | (with_reducible (first | exact Ext.refl _ | exact ext_d _ _ _ _ | exact ext_app _ _ _ _ _ | exact ext_app2 _ _ _ _ _ _ | exact ext_app3 _ _ _ _ _ _ _ | exact ext_app4 _ _ _ _ _ _ _ _ | exact ext_app5 _ _ _ _ _ _ _ _ _)) | ((with_reducible refine ext_suffix ⟨_, ?_⟩); (try simp only [Array.append_assoc]); rfl) | (with_reducible (first | apply Ext.drew | apply Ext.alloc | apply Ext.more_)) | apply Ext.drew | apply Ext.alloc | apply Ext.more_)))
  try simp only [Act.put, zqA, zqB, zqC]
  iterate 2 ((first | (refine wpPl_skip rfl rfl ?_) | (refine wpPl_read (v := ?_) rfl ?_ (fun w1 h1 => ?_) ?_; rotate_left 1; rfl; (obtain ⟨os1, d1, rfl⟩ := h1.more; go_simp; first | done | rfl)) | (refine wpPl_gread (v := ?_) (c := ?_) rfl rfl rfl rfl ?_ (fun hc w1 h1 => ?_) ?_; rotate_left 2; (first | exact gc_t _ | exact gc_f _ | exact gc_gt _ _ | exact gc_gf _ _); (obtain ⟨os1, d1, rfl⟩ := h1.more; (try simp only [gv_of hc]); (try (have hc1 := and_l hc; (try simp only [gv_of hc1]); (try (have hc2 := and_l hc1; (try simp only [gv_of hc2]))))); go_simp; first | done | rfl))); try simp only [Act.put, zqA, zqB, zqC])
  first | (refine wpPl_effskip rfl ?_ ?_ ?_; (first | with_reducible rfl | rfl | (go_simp; done)); (repeat (first | (with_reducible (first | exact Ext.refl _ | exact ext_d _ _ _ _ | exact ext_app _ _ _ _ _ | exact ext_app2 _ _ _ _ _ _ | exact ext_app3 _ _ _ _ _ _ _ | exact ext_app4 _ _ _ _ _ _ _ _ | exact ext_app5 _ _ _ _ _ _ _ _ _)) | ((with_reducible refine ext_suffix ⟨_, ?_⟩); (try simp only [Array.append_assoc]); rfl) | (with_reducible (first | apply Ext.drew | apply Ext.alloc | apply Ext.more_)) | apply Ext.drew | apply Ext.alloc | apply Ext.more_))) | (refine wpPl_eff rfl ?_ (fun K hK => ?_); (first | with_reducible rfl | rfl | (go_simp; done)); go_simp; refine hK _ _ ?_ ?_; (repeat (first | (with_reducible (first | exact Ext.refl _ | exact ext_d _ _ _ _ | exact ext_app _ _ _ _ _ | exact ext_app2 _ _ _ _ _ _ | exact ext_app3 _ _ _ _ _ _ _ | exact ext_app4 _ _ _ _ _ _ _ _ | exact ext_app5 _ _ _ _ _ _ _ _ _)) | ((with_reducible refine ext_suffix ⟨_, ?_⟩); (try simp only [Array.append_assoc]); rfl) | (with_reducible (first | apply Ext.drew | apply Ext.alloc | apply Ext.more_)) | apply Ext.drew | apply Ext.alloc | apply Ext.more_)))
  try simp only [Act.put, zqA, zqB, zqC]
  first | (refine wpPl_skip rfl rfl ?_) | (refine wpPl_read (v := ?_) rfl ?_ (fun w1 h1 => ?_) ?_; rotate_left 1; rfl; (obtain ⟨os1, d1, rfl⟩ := h1.more; go_simp; first | done | rfl)) | (refine wpPl_gread (v := ?_) (c := ?_) rfl rfl rfl rfl ?_ (fun hc w1 h1 => ?_) ?_; rotate_left 2; (first | exact gc_t _ | exact gc_f _ | exact gc_gt _ _ | exact gc_gf _ _); (obtain ⟨os1, d1, rfl⟩ := h1.more; (try simp only [gv_of hc]); (try (have hc1 := and_l hc; (try simp only [gv_of hc1]); (try (have hc2 := and_l hc1; (try simp only [gv_of hc2]))))); go_simp; first | done | rfl))
  try simp only [Act.put, zqA, zqB, zqC]
  first | (refine wpPl_pick_and rfl rfl rfl rfl rfl rfl ?_) | (refine wpPl_pick_or rfl rfl rfl rfl rfl rfl ?_) | (refine wpPl_read (v := ?_) rfl ?_ (fun w1 h1 => ?_) ?_; rotate_left 1; rfl; (obtain ⟨os1, d1, rfl⟩ := h1.more; go_simp; first | done | rfl))
  try simp only [Act.put, zqA, zqB, zqC]
  (refine wpPl_read (v := ?_) rfl ?_ (fun _ h => ?_) ?_; rotate_left 1; rfl; (obtain ⟨_, _, rfl⟩ := h.more; go_simp; try rfl))
  try simp only [Act.put, zqA, zqB, zqC]
  (refine wpPl_eff rfl ?_ (fun K hK => ?_); (first | with_reducible rfl | rfl | (go_simp; done)); go_simp; refine (gnames_any _).mono ?_; rintro e w' ⟨v, ss, rfl, hS, hrow, hb⟩; obtain ⟨A10, c10, rfl⟩ := own_slice hrow; obtain ⟨os10, d10, rfl⟩ := hb.more; clear hb hrow hS; refine hK _ _ ?_ ?_; (repeat (first | (with_reducible (first | exact Ext.refl _ | exact ext_d _ _ _ _ | exact ext_app _ _ _ _ _ | exact ext_app2 _ _ _ _ _ _ | exact ext_app3 _ _ _ _ _ _ _ | exact ext_app4 _ _ _ _ _ _ _ _ | exact ext_app5 _ _ _ _ _ _ _ _ _)) | ((with_reducible refine ext_suffix ⟨_, ?_⟩); (try simp only [Array.append_assoc]); rfl) | (with_reducible (first | apply Ext.drew | apply Ext.alloc | apply Ext.more_)) | apply Ext.drew | apply Ext.alloc | apply Ext.more_)))
  try simp only [Act.put, zqA, zqB, zqC]
  iterate 2 ((first | (refine wpPl_skip rfl rfl ?_) | (refine wpPl_read (v := ?_) rfl ?_ (fun w1 h1 => ?_) ?_; rotate_left 1; rfl; (obtain ⟨os1, d1, rfl⟩ := h1.more; go_simp; first | done | rfl)) | (refine wpPl_gread (v := ?_) (c := ?_) rfl rfl rfl rfl ?_ (fun hc w1 h1 => ?_) ?_; rotate_left 2; (first | exact gc_t _ | exact gc_f _ | exact gc_gt _ _ | exact gc_gf _ _); (obtain ⟨os1, d1, rfl⟩ := h1.more; (try simp only [gv_of hc]); (try (have hc1 := and_l hc; (try simp only [gv_of hc1]); (try (have hc2 := and_l hc1; (try simp only [gv_of hc2]))))); go_simp; first | done | rfl))); try simp only [Act.put, zqA, zqB, zqC])
  first | (refine wpPl_pick_and rfl rfl rfl rfl rfl rfl ?_) | (refine wpPl_pick_or rfl rfl rfl rfl rfl rfl ?_) | (refine wpPl_read (v := ?_) rfl ?_ (fun w1 h1 => ?_) ?_; rotate_left 1; rfl; (obtain ⟨os1, d1, rfl⟩ := h1.more; go_simp; first | done | rfl))
  try simp only [Act.put, zqA, zqB, zqC]
  (refine wpPl_read (v := ?_) rfl ?_ (fun _ h => ?_) ?_; rotate_left 1; rfl; (obtain ⟨_, _, rfl⟩ := h.more; go_simp; try rfl))
  try simp only [Act.put, zqA, zqB]
  refine wpPl_nil ?_
  go_wp2_with fail
  go_ret
  exact ⟨rfl, hx0.trans (by repeat (first | (with_reducible (first | exact Ext.refl _ | exact ext_app _ _ _ _ _ | exact ext_app2 _ _ _ _ _ _)) | ((with_reducible refine ext_suffix ⟨_, ?_⟩); (try simp only [Array.append_assoc]); rfl) | (with_reducible (first | apply Ext.drew | apply Ext.alloc | apply Ext.more_))))⟩
end Go.Proofs.YtmjmijjbijlhfaaGreatDoor
namespace Go.Proofs.YtmjmijjbijlhfaaGreatDoor
open Go.RowKit NM
theorem same_self (x : NA) : sameA x.R x.C x.l x.R x.C x.l = true := by simp [sameA]
end Go.Proofs.YtmjmijjbijlhfaaGreatDoor
namespace Go.Proofs.YtmjmijjbijlhfaaGreatDoor
open Go.RowKit NM
theorem one_call {nm : ByteArray} {lo hi : Nat} {O : List Ar → NA} {P : Option Addr} {n : Nat} {xs : List Ar} {w : World}
    (hp : ∀ (gs : List GA) (W : World), Ext w W → ArgsG W P n n gs → Calls Tryz.prog 16 #[.string nm, .slice P n n] W (CallG W (callX lo hi gs (O (arsOf gs))))) (h : ArgsIn w P n n xs) (h1 : lo ≤ n) (h2 : n ≤ hi) :
    Calls Tryz.prog 20 #[.string nm, .slice P n n] w fun e w' => ResA w (O xs) e w' :=
  one15_any _ P n n w _ (fun W hW => by
    have hc := hp _ W hW (h.ext hW).toG
    rw [arsOf_toG, callX_in _ (by rw [h.len]; exact h1) (by rw [h.len]; exact h2) (fun a ha => (h.all a ha).right)] at hc
    exact hc)
section
variable {w : World} (htab : Tab w) {P : Option Addr}
theorem one_tocol {a : NA} {A : Option Addr} {n cap : Nat} (htab : Tab w) (h : ArgsIn w P 1 1 [arAt a A n cap]) :
    Calls Tryz.prog 20 #[.string ⟨#[84, 79, 67, 79, 76]⟩, .slice P 1 1] w fun e w' => ResA w (colA a.l) e w' := by
  have h9 := one_call (O := tocolO) (fun gs W hW hg => pcall_tocol P 1 1 gs W (htab.ext hW) hg) h (by decide) (by decide)
  exact h9
theorem one_torow {a : NA} {A : Option Addr} {n cap : Nat} (htab : Tab w) (h : ArgsIn w P 1 1 [arAt a A n cap]) :
    Calls Tryz.prog 20 #[.string ⟨#[84, 79, 82, 79, 87]⟩, .slice P 1 1] w fun e w' => ResA w ⟨1, a.l.length, a.l⟩ e w' := by
  have h9 := one_call (O := torowO) (fun gs W hW hg => pcall_torow P 1 1 gs W (htab.ext hW) hg) h (by decide) (by decide)
  exact h9
theorem one_turn {a : NA} {A : Option Addr} {n cap : Nat} (htab : Tab w) (h : ArgsIn w P 1 1 [arAt a A n cap]) :
    Calls Tryz.prog 20 #[.string ⟨#[84, 82, 65, 78, 83, 80, 79, 83, 69]⟩, .slice P 1 1] w fun e w' => ResA w (turnN a) e w' := by
  have h9 := one_call (O := turnO) (fun gs W hW hg => pcall_transpose P 1 1 gs W (htab.ext hW) hg) h (by decide) (by decide)
  exact h9
theorem one_rows {a : NA} {A : Option Addr} {n cap : Nat} (htab : Tab w) (h : ArgsIn w P 1 1 [arAt a A n cap]) :
    Calls Tryz.prog 20 #[.string ⟨#[82, 79, 87, 83]⟩, .slice P 1 1] w fun e w' => ResA w (oneA (cntV a.R)) e w' := by
  have h9 := one_call (O := rowsO) (fun gs W hW hg => pcall_rows P 1 1 gs W (htab.ext hW) hg) h (by decide) (by decide)
  exact h9
theorem one_cols {a : NA} {A : Option Addr} {n cap : Nat} (htab : Tab w) (h : ArgsIn w P 1 1 [arAt a A n cap]) :
    Calls Tryz.prog 20 #[.string ⟨#[67, 79, 76, 85, 77, 78, 83]⟩, .slice P 1 1] w fun e w' => ResA w (oneA (cntV a.C)) e w' := by
  have h9 := one_call (O := colsO) (fun gs W hW hg => pcall_columns P 1 1 gs W (htab.ext hW) hg) h (by decide) (by decide)
  exact h9
theorem one_uniq {a : NA} {A : Option Addr} {n cap : Nat} (h : ArgsIn w P 1 1 [arAt a A n cap]) :
    Calls Tryz.prog 20 #[.string ⟨#[85, 78, 73, 81, 85, 69]⟩, .slice P 1 1] w fun e w' => ResA w (uniqueT a) e w' := by
  have h9 := one_call (O := uniqueO) (fun gs W hW hg => pcall_unique P 1 1 gs W hg) h (by decide) (by decide)
  exact h9
end
end Go.Proofs.YtmjmijjbijlhfaaGreatDoor
namespace Go.Proofs.YtmjmijjbijlhfaaGreatDoor
open Go.RowKit NM
theorem gargs_one {w : World} {t : TypeId} {p : Nat} {cs : Array Value} {r c : Int} {A : Option Addr} {n cap : Nat} {l : List Val} (hp : p = w.heap.size) (hc : cs = #[.int .i64 r, .int .i64 c, .slice A n cap]) (h : ArrIn w A n cap l) :
    ArgsG (w.alloc (.cells cs t)) (some ⟨p, 0, none⟩) 1 1 [⟨r, c, A, n, cap, l⟩] :=
  ⟨by subst hp hc; exact Rd.of_row (cs := [.int .i64 r, .int .i64 c, .slice A n cap]) (gheap_new _ _) 0 (Nat.zero_le _), rfl, Nat.le_refl _, by decide, fun g hg => by rw [List.mem_singleton.1 hg]; exact h.ext ((Ext.refl _).alloc _)⟩
/-- A variable that holds an array. -/
def BoxN (W : World) (p : Nat) (x : NA) (D : Option Addr) (m c : Nat) : Prop := W.heap[p]? = some (.cells #[.int .i64 (x.R : Int), .int .i64 (x.C : Int), .slice D m c] 31) ∧ ArrIn W D m c x.l
theorem BoxN.cells {W : World} {p : Nat} {x : NA} {D : Option Addr} {m c : Nat} (h : BoxN W p x D m c) : W.cell? ⟨p, 0, none⟩ = some (.int .i64 (x.R : Int)) ∧ W.cell? ⟨p, 1, none⟩ = some (.int .i64 (x.C : Int)) ∧ W.cell? ⟨p, 2, none⟩ = some (.slice D m c) ∧ p < W.heap.size :=
  ⟨cell_of_row _ _ 0 _ _ _ h.1, cell_of_row _ _ 1 _ _ _ h.1, cell_of_row _ _ 2 _ _ _ h.1, lt_of_block h.1⟩
end Go.Proofs.YtmjmijjbijlhfaaGreatDoor
namespace Go.Proofs.YtmjmijjbijlhfaaGreatDoor
open Go.RowKit NM
theorem same_any (X : NA) (A : Option Addr) (n cap : Nat) (A' : Option Addr) (n' cap' : Nat) (W : World) (h : ArrIn W A n cap X.l) (h' : ArrIn W A' n' cap' X.l) :
    Calls Tryz.prog 17 #[AV X.R X.C (.slice A n cap), AV X.R X.C (.slice A' n' cap')] W fun e w' => e = .returned (.bool true) ∧ Ext W w' := by
  have h9 := refSame_any (X.R : Int) (X.C : Int) (X.R : Int) (X.C : Int) A A' n cap n' cap' X.l X.l W h h'
  rwa [same_self X] at h9
end Go.Proofs.YtmjmijjbijlhfaaGreatDoor
namespace Go.Proofs.YtmjmijjbijlhfaaGreatDoor
open Go.RowKit NM
abbrev set3 (w : World) (b : Nat) (r c : Int) (v : Value) : World := ((w.setCell ⟨b, 0, none⟩ (.int .i64 r)).setCell ⟨b, 1, none⟩ (.int .i64 c)).setCell ⟨b, 2, none⟩ v
theorem set3_heap {w : World} {b : Nat} {t : TypeId} {r c : Int} {v c0 c1 c2 : Value} (h : w.heap[b]? = some (.cells #[c0, c1, c2] t)) : (set3 w b r c v).heap[b]? = some (.cells #[.int .i64 r, .int .i64 c, v] t) := by
  have h0 := heap_setCell_same _ b 0 _ _ (.int .i64 r) h
  have h1 := heap_setCell_same _ b 1 _ _ (.int .i64 c) h0
  have h2 := heap_setCell_same _ b 2 _ _ v h1
  simpa using h2
theorem set3_other {w : World} {b q : Nat} {r c : Int} {v : Value} (h : q ≠ b) : (set3 w b r c v).heap[q]? = w.heap[q]? := by
  unfold set3
  rw [Below.heap_setCell _ _ _ _ h, Below.heap_setCell _ _ _ _ h, Below.heap_setCell _ _ _ _ h]
theorem set3_ext {W0 w : World} {b : Nat} {r c : Int} {v : Value} (h : Ext W0 w) (hb : W0.heap.size ≤ b) : Ext W0 (set3 w b r c v) := ((Below.setCell h hb _).setCell hb _).setCell hb _
theorem arr_set3 {w : World} {q : Nat} {t : TypeId} {r c : Int} {v c0 c1 c2 : Value} {D : Option Addr} {m cp : Nat} {l : List Val} (h : ArrIn w D m cp l) (hq : w.heap[q]? = some (.cells #[c0, c1, c2] t)) : ArrIn (set3 w q r c v) D m cp l := by
  refine ⟨fun j u hu => ?_, h.len, h.cap, h.small, h.ok⟩
  obtain ⟨b, off, rfl, h0, hc⟩ := h.rd j u hu
  refine ⟨b, off, rfl, h0, ?_⟩
  have hbq : b ≠ q := by
    rintro rfl
    have hl : 6 ≤ (vcells l).length := by
      cases l with
      | nil => simp [vcells] at hu
      | cons x l => rw [vcells_length, List.length_cons]; omega
    obtain ⟨b', off', e, _, hc'⟩ := h.rd 5 (vcells l)[5] (List.getElem?_eq_getElem (by omega))
    simp only [Option.some.injEq, Addr.mk.injEq, and_true] at e
    obtain ⟨rfl, rfl⟩ := e
    unfold World.cell? at hc'
    rw [hq] at hc'
    simp at hc'
  rw [← hc]
  unfold World.cell?
  rw [set3_other hbq]
theorem argsG_at {w : World} {t : TypeId} {p : Nat} {cs : Array Value} (xs : List Ar) (h : w.heap[p]? = some (.cells cs t)) (hc : cs = (acells xs).toArray) {n : Nat} (hn : xs.length = n) (hs : n ≤ 9223372036854775807) (ha : ∀ a ∈ xs, ArOk w a) :
    ArgsIn w (some ⟨p, 0, none⟩) n n xs := ⟨by subst hc; exact Rd.of_row h 0 (Nat.zero_le _), hn, Nat.le_refl _, hs, ha⟩
end Go.Proofs.YtmjmijjbijlhfaaGreatDoor
namespace Go.Proofs.YtmjmijjbijlhfaaGreatDoor
open Go.RowKit NM
set_option maxHeartbeats 0 in
theorem farrayAgain_any (r c : Int) (A : Option Addr) (n cap : Nat) (l : List Val) (w : World) (htab : Tab w) (h : ArrIn w A n cap l) :
    Calls Tryz.prog 6 #[AV r c (.slice A n cap)] w fun e w' => e = .returned (.bool true) ∧ Ext w w' := by
  have HT := Lib.hid htab
  have HA := Lib.hid h
  have hok := h.ok
  have hra := fun W (hW : ArrIn W A n cap l) => refRightA_any r c A n cap l W hW
  rw [← rightA_eq _ _ _ hok] at hra
  cases hr : rightA r c l with
  | false =>
    rw [hr] at hra
    clear htab h hok hr
    go_enter Tryz.func6, Tryz.ntmps6
    go_wp2_with (first | (go_at_call 9; (with_reducible refine (awake15_any _ (HT.out.ext (by with_reducible repeat (first | exact Ext.refl _ | apply Ext.drew | apply Ext.alloc | apply Ext.more_)))).mono ?_); rintro e w' ⟨rfl, hb⟩; obtain ⟨osw, dw, rfl⟩ := hb.more; clear hb) | (go_at_call 12; (refine (small15_any _ 1 1 _ _ (gargs_one (by simp) rfl (HA.out.ext (by with_reducible repeat (first | exact Ext.refl _ | apply Ext.drew | apply Ext.alloc | apply Ext.more_))))).mono ?_); rintro e w' ⟨s, rfl, hs, hb⟩; obtain ⟨oss, ds, rfl⟩ := hb.more; clear hb; rcases hs with rfl | rfl) | (go_at_call 14; refine (hra _ (HA.out.ext (by with_reducible repeat (first | exact Ext.refl _ | apply Ext.drew | apply Ext.alloc | apply Ext.more_)))).mono ?_; rintro e w' ⟨rfl, hb⟩; obtain ⟨osr, dr, rfl⟩ := hb.more; clear hb))
    all_goals
      go_ret
      exact ⟨rfl, by with_reducible repeat (first | exact Ext.refl _ | apply Ext.drew | apply Ext.alloc | apply Ext.more_)⟩
  | true =>
    obtain ⟨R, C, rfl, rfl⟩ := rightA_shape hr
    rw [hr] at hra
    have har : NA.right ⟨R, C, l⟩ := hr
    obtain ⟨r1, r2, r3, r4, r5⟩ := rightA_nat.1 har
    simp only at r1 r2 r3 r4
    have hln := h.len
    have hcap := h.cap
    have hsm := h.small
    obtain ⟨x0, b, off, _, _, hA0, _⟩ := h.at (k := 0) (by have := Nat.mul_pos r1 r2; omega)
    subst hA0
    clear htab h hok hr r5
    by_cases hR : R ≤ 60
    · have hR' : ¬ (60 : Int) < (R : Int) := by omega
      go_enter Tryz.func6, Tryz.ntmps6
      go_upto_region 5 with (first | (go_at_call 9; (with_reducible refine (awake15_any _ (HT.out.ext (by with_reducible repeat (first | exact Ext.refl _ | apply Ext.drew | apply Ext.alloc | apply Ext.more_)))).mono ?_); rintro e w' ⟨rfl, hb⟩; obtain ⟨osw, dw, rfl⟩ := hb.more; clear hb) | (go_at_call 12; (refine (small15_any _ 1 1 _ _ (gargs_one (by simp) rfl (HA.out.ext (by with_reducible repeat (first | exact Ext.refl _ | apply Ext.drew | apply Ext.alloc | apply Ext.more_))))).mono ?_); rintro e w' ⟨s, rfl, hs, hb⟩; obtain ⟨oss, ds, rfl⟩ := hb.more; clear hb; rcases hs with rfl | rfl) | (go_at_call 14; refine (hra _ (HA.out.ext (by with_reducible repeat (first | exact Ext.refl _ | apply Ext.drew | apply Ext.alloc | apply Ext.more_)))).mono ?_; rintro e w' ⟨rfl, hb⟩; obtain ⟨osr, dr, rfl⟩ := hb.more; clear hb))
      · go_ret
        exact ⟨rfl, by with_reducible repeat (first | exact Ext.refl _ | apply Ext.drew | apply Ext.alloc | apply Ext.more_)⟩
      · refine wp_world fun U hU => ?_
        have hx : Ext w U := by rw [hU]; exact (by with_reducible repeat (first | exact Ext.refl _ | apply Ext.drew | apply Ext.alloc | apply Ext.more_))
        have c0 : U.cell? ⟨w.heap.size, 0, none⟩ = some (.int .i64 (R : Int)) := by rw [hU]; go_simp
        have c1 : U.cell? ⟨w.heap.size, 1, none⟩ = some (.int .i64 (C : Int)) := by rw [hU]; go_simp
        have c2 : U.cell? ⟨w.heap.size, 2, none⟩ = some (.slice (some ⟨b, off, none⟩) n cap) := by rw [hU]; go_simp
        have la := lt_of_cell c0
        clear hU hra
        go_cut [3, 4] (fun s3 s4 wx => ∃ (pt pu : Nat) (Dt Du : Option Addr) (mt ct mu cu : Nat), s3 = .pointer (some ⟨pt, 0, none⟩) ∧ s4 = .pointer (some ⟨pu, 0, none⟩) ∧ Ext U wx ∧ Hid (BoxN wx pt (turnN ⟨R, C, l⟩) Dt mt ct) ∧ Hid (BoxN wx pu (uniqueT ⟨R, C, l⟩) Du mu cu))
        case first =>
          refine wp_floatG [(0, 0), (3, 0), (6, 4), (7, 4), (4, 4), (1, 4), (1, 3), (2, 1), (4, 3), (5, 1), (7, 3), (6, 3), (8, 5)] [9] [9] [] (by kernel_rfl) (by kernel_rfl) (by kernel_rfl) (fun _ _ d _ _ h => by cases d <;> exact h) (fun _ _ d _ _ h => by cases d <;> exact h) ?_
          iterate 2 ((refine wpFg_read (v := ?_) rfl ?_ (fun w1 h1 => ?_) ?_; rotate_left 1; rfl; (obtain ⟨os1, d1, rfl⟩ := h1.more; go_simp; first | done | rfl)); try simp only [Act.put, zqA, zqB, zqC])
          (refine wpFg_launch (t := 3) (.cells #[.int .i64 0, .int .i64 0, .slice none 0 0] 31) ptrB rfl rfl rfl (fun w1 => ?_) ?_; (first | rfl | (simp [go_sem, ptrB]; done) | (go_simp; rfl)))
          (refine wpFg_launch (t := 4) (.cells #[.int .i64 0, .int .i64 0, .slice none 0 0] 31) ptrB rfl rfl rfl (fun w1 => ?_) ?_; (first | rfl | (simp [go_sem, ptrB]; done) | (go_simp; rfl)))
          (refine wpFg_launch (t := 25) ?_ (fun b => .slice (some ⟨b, 0, none⟩) 1 1) rfl rfl rfl (fun w1 => ?_) ?_; rotate_left 1; (go_simp; first | done | rfl))
          (refine wpFg_launch (t := 22) ?_ (fun b => .slice (some ⟨b, 0, none⟩) 1 1) rfl rfl rfl (fun w1 => ?_) ?_; rotate_left 1; (go_simp; first | done | rfl))
          refine wpFg_wait fun q1 g1 n1 _ => ?_; refine ⟨fun W => ArgsIn W (some ⟨q1, 0, none⟩) 1 1 [arAt ⟨R, C, l⟩ (some ⟨b, off, none⟩) n cap], fun _ _ hx h => h.ext hx, fun W hXW _ h1 => argsG_at _ h1 (by first | rfl | (simp; done)) rfl (by decide) (by intro a ha; simp only [List.mem_cons, List.not_mem_nil, or_false] at ha; rcases ha with rfl; exact ⟨HA.out.ext (hx.trans (((Ext.refl U).drew).trans hXW)), har⟩), ?_⟩
          try simp only [Act.put, zqA, zqB, zqC]
          (refine wpFg_eff rfl ?_ (fun wf hXf hE K hK => ?_); rfl; obtain ⟨osf, df, rfl⟩ := hXf.more; go_simp; refine (one_turn (HT.out.ext (hx.trans (by with_reducible repeat (first | exact Ext.refl _ | apply Ext.drew | apply Ext.alloc | apply Ext.more_)))) hE).mono ?_; rintro e w' ⟨D1, m1, c1, rfl, hN, hb⟩; refine hK _ _ (fun W => ArrIn W D1 m1 c1 (turnN ⟨R, C, l⟩).l) (by (try simp only [more_drew, more_more, Array.append_assoc]); exact hb) (fun _ _ hx h => h.ext hx) hN.arr ?_)
          try simp only [Act.put, zqA, zqB, zqC]
          refine wpFg_wait fun q2 g2 n2 _ => ?_; refine ⟨fun W => ArrIn W D1 m1 c1 (turnN ⟨R, C, l⟩).l ∧ ArgsIn W (some ⟨q2, 0, none⟩) 1 1 [arAt ⟨R, C, l⟩ (some ⟨b, off, none⟩) n cap], fun _ _ hx h => ⟨h.1.ext hx, h.2.ext hx⟩, fun W hXW hE h1 => ⟨hE, argsG_at _ h1 (by first | rfl | (simp; done)) rfl (by decide) (by intro a ha; simp only [List.mem_cons, List.not_mem_nil, or_false] at ha; rcases ha with rfl; exact ⟨HA.out.ext (hx.trans (((Ext.refl U).drew).trans hXW)), har⟩)⟩, ?_⟩
          try simp only [Act.put, zqA, zqB, zqC]
          (refine wpFg_eff rfl ?_ (fun wf hXf hE K hK => ?_); rfl; obtain ⟨osf, df, rfl⟩ := hXf.more; go_simp; refine (one_uniq hE.2).mono ?_; rintro e w' ⟨D2, m2, c2, rfl, hN, hb⟩; refine hK _ _ (fun W => ArrIn W D1 m1 c1 (turnN ⟨R, C, l⟩).l ∧ ArrIn W D2 m2 c2 (uniqueT ⟨R, C, l⟩).l) (by (try simp only [more_drew, more_more, Array.append_assoc]); exact hb) (fun _ _ hx h => ⟨h.1.ext hx, h.2.ext hx⟩) ⟨hE.1.ext hb, hN.arr⟩ ?_)
          try simp only [Act.put, zqA, zqB, zqC]
          refine wpFg_wait fun q3 g3 n3 _ => ?_; refine ⟨fun W => ArrIn W D1 m1 c1 (turnN ⟨R, C, l⟩).l ∧ ArrIn W D2 m2 c2 (uniqueT ⟨R, C, l⟩).l ∧ W.heap[q3]? = some (.cells #[.int .i64 0, .int .i64 0, .slice none 0 0] 31), fun _ _ hx h => ⟨h.1.ext hx, h.2.1.ext hx, (hx.block (lt_of_block h.2.2)).trans h.2.2⟩, fun W _ hE h1 => ⟨hE.1, hE.2, h1⟩, ?_⟩
          try simp only [Act.put, zqA, zqB, zqC]
          refine wpFg_wait fun q4 g4 n4 _ => ?_; refine ⟨fun W => ArrIn W D1 m1 c1 (turnN ⟨R, C, l⟩).l ∧ ArrIn W D2 m2 c2 (uniqueT ⟨R, C, l⟩).l ∧ W.heap[q3]? = some (.cells #[.int .i64 0, .int .i64 0, .slice none 0 0] 31) ∧ W.heap[q4]? = some (.cells #[.int .i64 0, .int .i64 0, .slice none 0 0] 31), fun _ _ hx h => ⟨h.1.ext hx, h.2.1.ext hx, (hx.block (lt_of_block h.2.2.1)).trans h.2.2.1, (hx.block (lt_of_block h.2.2.2)).trans h.2.2.2⟩, fun W _ hE h1 => ⟨hE.1, hE.2.1, hE.2.2, h1⟩, ?_⟩
          try simp only [Act.put, zqA, zqB, zqC]
          (refine wpFg_store rfl ?_ (fun wf hXf hE K hK => ?_); rfl; obtain ⟨e1, e2, e3, e4⟩ := hE; (have u0 := cell_of_row _ _ 0 _ _ _ e4); (have u1 := cell_of_row _ _ 1 _ _ _ e4); (have u2 := cell_of_row _ _ 2 _ _ _ e4); (have uf0 := frozen_of_row _ _ 0 _ _ e4); (have uf1 := frozen_of_row _ _ 1 _ _ e4); (have uf2 := frozen_of_row _ _ 2 _ _ e4); (simp only [ptrB]); go_simp; refine hK _ _ (fun W => ArrIn W D1 m1 c1 (turnN ⟨R, C, l⟩).l ∧ ArrIn W D2 m2 c2 (uniqueT ⟨R, C, l⟩).l ∧ W.heap[q3]? = some (.cells #[.int .i64 0, .int .i64 0, .slice none 0 0] 31) ∧ W.heap[q4]? = some (.cells #[.int .i64 ((turnN ⟨R, C, l⟩).R : Int), .int .i64 ((turnN ⟨R, C, l⟩).C : Int), .slice D1 m1 c1] 31)) (set3_ext hXf g4) (by simp) (fun _ _ hx h => ⟨h.1.ext hx, h.2.1.ext hx, (hx.block (lt_of_block h.2.2.1)).trans h.2.2.1, (hx.block (lt_of_block h.2.2.2)).trans h.2.2.2⟩) ⟨arr_set3 e1 e4, arr_set3 e2 e4, (set3_other (fun e => n4 (by simp [e]))).trans e3, set3_heap e4⟩ ?_)
          try simp only [Act.put, zqA, zqB, zqC]
          refine wpFg_done fun wz hXz hE => ?_
          obtain ⟨e1, e2, e3, e4⟩ := hE; (have u0 := cell_of_row _ _ 0 _ _ _ e3); (have u1 := cell_of_row _ _ 1 _ _ _ e3); (have u2 := cell_of_row _ _ 2 _ _ _ e3); (have uf0 := frozen_of_row _ _ 0 _ _ e3); (have uf1 := frozen_of_row _ _ 1 _ _ e3); (have uf2 := frozen_of_row _ _ 2 _ _ e3); (have f1 := arr_set3 (r := (uniqueT ⟨R, C, l⟩).R) (c := (uniqueT ⟨R, C, l⟩).C) (v := .slice D2 m2 c2) e1 e3); (have f2 := arr_set3 (r := (uniqueT ⟨R, C, l⟩).R) (c := (uniqueT ⟨R, C, l⟩).C) (v := .slice D2 m2 c2) e2 e3); (have f3 := set3_heap (r := (uniqueT ⟨R, C, l⟩).R) (c := (uniqueT ⟨R, C, l⟩).C) (v := .slice D2 m2 c2) e3); (have f4 := (set3_other (r := (uniqueT ⟨R, C, l⟩).R) (c := (uniqueT ⟨R, C, l⟩).C) (v := .slice D2 m2 c2) (fun e => n4 (by simp [e]) : q4 ≠ q3)).trans e4); (have f5 : Ext U _ := Ext.trans (by with_reducible repeat (first | exact Ext.refl _ | apply Ext.drew | apply Ext.alloc | apply Ext.more_) : Ext U U.drew) (set3_ext (r := (uniqueT ⟨R, C, l⟩).R) (c := (uniqueT ⟨R, C, l⟩).C) (v := .slice D2 m2 c2) hXz g3)); (try simp only [ptrB])
          (refine wpTl_op rfl ?_ (fun K hK => ?_); rfl; go_simp; refine hK _ _ ?_)
          try simp only [Act.put, zqA, zqB, zqC]
          refine wpTl_nil ?_
          clear u0 u1 u2 uf0 uf1 uf2 e1 e2 e3 e4
          go_wp2_with fail
          go_meet
          exact ⟨q4, q3, D1, D2, m1, c1, m2, c2, rfl, rfl, f5, ⟨f4, f1⟩, ⟨f3, f2⟩⟩
        case rest =>
        obtain ⟨pt, pu, Dt, Du, mt, ct, mu, cu, rfl, rfl, hy, BT, BU⟩ := hcut
        obtain ⟨ZT, hZT⟩ : ∃ Z, turnN ⟨R, C, l⟩ = Z := ⟨_, rfl⟩
        obtain ⟨ZU, hZU⟩ : ∃ Z, uniqueT ⟨R, C, l⟩ = Z := ⟨_, rfl⟩
        have htt : turnN ZT = ⟨R, C, l⟩ := by rw [← hZT]; show (⟨R, C, turnL C R (turnL R C l)⟩ : NA) = _; rw [turn_turn R C l r4]
        have huu : uniqueT ZU = ZU := by rw [← hZU]; exact uniq_again har
        have htc : ZT.C = R := by rw [← hZT]; rfl
        have htr : ZT.right := by rw [← hZT]; exact turnN_right har
        have hur : ZU.right := by rw [← hZU]; exact uniqT_right har
        have huR : ZU.R ≤ R := by rw [← hZU]; exact uniq_le _ _
        have huC : ZU.C = C := by rw [← hZU]; rfl
        have hcl : (colA l).right := colA_right (by have := Nat.mul_pos r1 r2; omega) (by omega) (rightA_nat.1 har).2.2.2.2
        rw [hZT] at BT
        rw [hZU] at BU
        obtain ⟨RT, CT, lT⟩ := ZT
        obtain ⟨RU, CU, lU⟩ := ZU
        obtain rfl : R = CT := htc.symm
        obtain rfl : C = CU := huC.symm
        clear htc huC
        have h01 : ∀ W P, Tab W → ArgsIn W P 1 1 [arAt ⟨RT, R, lT⟩ Dt mt ct] → Calls Tryz.prog 20 #[.string ⟨#[84, 82, 65, 78, 83, 80, 79, 83, 69]⟩, .slice P 1 1] W fun e w' => ResA W ⟨R, C, l⟩ e w' := fun W P hT hh => by have h9 := one_turn hT hh; rwa [htt] at h9
        have h05 : ∀ W P, ArgsIn W P 1 1 [arAt ⟨RU, C, lU⟩ Du mu cu] → Calls Tryz.prog 20 #[.string ⟨#[85, 78, 73, 81, 85, 69]⟩, .slice P 1 1] W fun e w' => ResA W ⟨RU, C, lU⟩ e w' := fun W P hh => by have h9 := one_uniq hh; rwa [huu] at h9
        have h07 : ∀ W P, Tab W → ArgsIn W P 1 1 [arAt ⟨RT, R, lT⟩ Dt mt ct] → Calls Tryz.prog 20 #[.string ⟨#[67, 79, 76, 85, 77, 78, 83]⟩, .slice P 1 1] W fun e w' => ResA W (oneA (cntV (R : Int))) e w' := fun W P hT hh => by have h9 := one_cols hT hh; exact h9
        have hC4 : C ≤ 4096 := Nat.le_trans (Nat.le_mul_of_pos_left C r1) r3
        have hnC := fun W => num15_any (C : Int) W (t15 (by omega) (by omega))
        have HC := Lib.hid (HA.out.ext (hx.trans hy))
        have HTC := Lib.hid (HT.out.ext (hx.trans hy))
        replace c0 := hy.cell_some c0
        replace c1 := hy.cell_some c1
        replace c2 := hy.cell_some c2
        have la' := lt_of_cell c0
        obtain ⟨t0, t1, t2, t3⟩ := BT.out.cells
        obtain ⟨v0, v1, v2, v3⟩ := BU.out.cells
        try simp only at t0 t1 v0 v1
        have hle : (RU : Int) ≤ (R : Int) := by simp only at huR; omega
        clear hZT hZU htt huu huR la hcap hsm hln r4
        go_upto_region 6 with fail
        refine wp_floatG [(0, 0), (3, 0), (1, 1), (2, 1), (4, 1), (5, 0), (6, 0), (11, 0), (12, 4), (7, 4), (7, 3), (8, 1), (9, 1), (10, 1), (12, 3), (13, 1), (14, 1), (15, 0), (16, 0), (17, 0), (20, 0), (18, 1), (19, 1), (21, 1), (22, 0), (23, 0), (24, 0), (27, 0), (28, 4), (25, 4), (25, 3), (26, 1), (28, 3), (29, 1), (30, 1), (31, 0), (32, 0), (33, 0), (36, 0), (37, 0), (34, 1), (35, 1), (38, 1), (39, 1), (40, 0), (41, 0), (42, 0), (43, 0), (44, 0), (45, 0), (46, 0), (47, 0), (48, 0), (49, 0), (50, 0), (51, 0), (52, 0), (53, 0), (54, 0), (55, 0)] [] [] [] (by kernel_rfl) (by kernel_rfl) (by kernel_rfl) (fun _ _ d _ _ h => by cases d <;> exact h) (fun _ _ d _ _ h => by cases d <;> exact h) ?_
        iterate 2 ((refine wpFg_read (v := ?_) rfl ?_ (fun w1 h1 => ?_) ?_; rotate_left 1; rfl; (obtain ⟨os1, d1, rfl⟩ := h1.more; go_simp; first | done | rfl)); try simp only [Act.put, zqA, zqB, zqC])
        (refine wpFg_eff rfl ?_ (fun wf hXf hE K hK => ?_); rfl; obtain ⟨osf, df, rfl⟩ := hXf.more; go_simp; (try simp only [drew_more] at hE); generalize hq1 : wc.heap.size + osf.size = q1; refine hK _ _ (fun W => ArgsIn W (some ⟨q1, 0, none⟩) 1 1 [arAt ⟨RT, R, lT⟩ Dt mt ct]) (by exact (Ext.refl _).alloc _) (fun _ _ hx h => h.ext hx) (by exact argsG_new [arAt ⟨RT, R, lT⟩ Dt mt ct] (by rw [← hq1]; simp) rfl rfl (by decide) (by intro a ha; simp only [List.mem_cons, List.not_mem_nil, or_false] at ha; rcases ha with rfl; exact ⟨BT.out.2.ext (by with_reducible repeat (first | exact Ext.refl _ | apply Ext.drew | apply Ext.alloc | apply Ext.more_)), htr⟩)) ?_)
        try simp only [Act.put, zqA, zqB, zqC]
        (refine wpFg_eff rfl ?_ (fun wf hXf hE K hK => ?_); rfl; obtain ⟨osf, df, rfl⟩ := hXf.more; go_simp; (try simp only [drew_more] at hE); refine (h01 _ _ (HTC.out.ext (by with_reducible repeat (first | exact Ext.refl _ | apply Ext.drew | apply Ext.alloc | apply Ext.more_))) hE).mono ?_; rintro e w' ⟨E1, m1, c1, rfl, hN, hb⟩; refine hK _ _ (fun W => ArrIn W E1 m1 c1 l) (by (try simp only [more_drew, more_more, Array.append_assoc]); exact hb) (fun _ _ hx h => h.ext hx) hN.arr ?_)
        try simp only [Act.put, zqA, zqB, zqC]
        (refine wpFg_eff rfl ?_ (fun wf hXf hE K hK => ?_); rfl; obtain ⟨osf, df, rfl⟩ := hXf.more; go_simp; (try simp only [drew_more] at hE); refine (same_any ⟨R, C, l⟩ _ _ _ _ _ _ _ (hE) (HC.out.ext (by with_reducible repeat (first | exact Ext.refl _ | apply Ext.drew | apply Ext.alloc | apply Ext.more_)))).mono ?_; rintro e w' ⟨rfl, hb⟩; refine hK _ _ (fun _ => True) (by (try simp only [more_drew, more_more, Array.append_assoc]); exact hb) (fun _ _ _ _ => trivial) trivial ?_)
        try simp only [Act.put, zqA, zqB, zqC]
        iterate 3 ((refine wpFg_read (v := ?_) rfl ?_ (fun w1 h1 => ?_) ?_; rotate_left 1; rfl; (obtain ⟨os1, d1, rfl⟩ := h1.more; go_simp; first | done | rfl)); try simp only [Act.put, zqA, zqB, zqC])
        (refine wpFg_launch (t := 39) ?_ (fun b => .slice (some ⟨b, 0, none⟩) 1 1) rfl rfl rfl (fun w1 => ?_) ?_; rotate_left 1; (go_simp; first | done | rfl))
        (refine wpFg_launch (t := 34) ?_ (fun b => .slice (some ⟨b, 0, none⟩) 1 1) rfl rfl rfl (fun w1 => ?_) ?_; rotate_left 1; (go_simp; first | done | rfl))
        refine wpFg_wait fun q2 g2 n2 _ => ?_; refine ⟨fun W => ArgsIn W (some ⟨q2, 0, none⟩) 1 1 [arAt ⟨R, C, l⟩ (some ⟨b, off, none⟩) n cap], fun _ _ hx h => h.ext hx, fun W hXW _ h1 => argsG_at _ h1 (by first | rfl | (simp; done)) rfl (by decide) (by intro a ha; simp only [List.mem_cons, List.not_mem_nil, or_false] at ha; rcases ha with rfl; exact ⟨HC.out.ext (((Ext.refl wc).drew).trans hXW), har⟩), ?_⟩
        try simp only [Act.put, zqA, zqB, zqC]
        (refine wpFg_eff rfl ?_ (fun wf hXf hE K hK => ?_); rfl; obtain ⟨osf, df, rfl⟩ := hXf.more; go_simp; (try simp only [drew_more] at hE); refine (one_tocol (HTC.out.ext (by with_reducible repeat (first | exact Ext.refl _ | apply Ext.drew | apply Ext.alloc | apply Ext.more_))) hE).mono ?_; rintro e w' ⟨E2, m2, c2, rfl, hN, hb⟩; refine hK _ _ (fun W => ArrIn W E2 m2 c2 l) (by (try simp only [more_drew, more_more, Array.append_assoc]); exact hb) (fun _ _ hx h => h.ext hx) hN.arr ?_)
        try simp only [Act.put, zqA, zqB, zqC]
        (refine wpFg_eff rfl ?_ (fun wf hXf hE K hK => ?_); rfl; obtain ⟨osf, df, rfl⟩ := hXf.more; go_simp; (try simp only [drew_more] at hE); generalize hq3 : wc.heap.size + osf.size = q3; refine hK _ _ (fun W => ArgsIn W (some ⟨q3, 0, none⟩) 1 1 [arAt (colA l) E2 m2 c2]) (by exact (Ext.refl _).alloc _) (fun _ _ hx h => h.ext hx) (by exact argsG_new [arAt (colA l) E2 m2 c2] (by rw [← hq3]; simp) rfl rfl (by decide) (by intro a ha; simp only [List.mem_cons, List.not_mem_nil, or_false] at ha; rcases ha with rfl; exact ⟨ArrIn.ext hE (by with_reducible repeat (first | exact Ext.refl _ | apply Ext.drew | apply Ext.alloc | apply Ext.more_)), hcl⟩)) ?_)
        try simp only [Act.put, zqA, zqB, zqC]
        (refine wpFg_eff rfl ?_ (fun wf hXf hE K hK => ?_); rfl; obtain ⟨osf, df, rfl⟩ := hXf.more; go_simp; (try simp only [drew_more] at hE); refine (one_torow (HTC.out.ext (by with_reducible repeat (first | exact Ext.refl _ | apply Ext.drew | apply Ext.alloc | apply Ext.more_))) hE).mono ?_; rintro e w' ⟨E3, m3, c3, rfl, hN, hb⟩; refine hK _ _ (fun W => ArrIn W E3 m3 c3 l) (by (try simp only [more_drew, more_more, Array.append_assoc]); exact hb) (fun _ _ hx h => h.ext hx) hN.arr ?_)
        try simp only [Act.put, zqA, zqB, zqC]
        refine wpFg_wait fun q4 g4 n4 _ => ?_; refine ⟨fun W => ArrIn W E3 m3 c3 l ∧ ArgsIn W (some ⟨q4, 0, none⟩) 1 1 [arAt ⟨R, C, l⟩ (some ⟨b, off, none⟩) n cap], fun _ _ hx h => ⟨h.1.ext hx, h.2.ext hx⟩, fun W hXW hE h1 => ⟨hE, argsG_at _ h1 (by first | rfl | (simp; done)) rfl (by decide) (by intro a ha; simp only [List.mem_cons, List.not_mem_nil, or_false] at ha; rcases ha with rfl; exact ⟨HC.out.ext (((Ext.refl wc).drew).trans hXW), har⟩)⟩, ?_⟩
        try simp only [Act.put, zqA, zqB, zqC]
        (refine wpFg_eff rfl ?_ (fun wf hXf hE K hK => ?_); rfl; obtain ⟨osf, df, rfl⟩ := hXf.more; go_simp; (try simp only [drew_more] at hE); refine (one_torow (HTC.out.ext (by with_reducible repeat (first | exact Ext.refl _ | apply Ext.drew | apply Ext.alloc | apply Ext.more_))) hE.2).mono ?_; rintro e w' ⟨E4, m4, c4, rfl, hN, hb⟩; refine hK _ _ (fun W => ArrIn W E3 m3 c3 l ∧ ArrIn W E4 m4 c4 l) (by (try simp only [more_drew, more_more, Array.append_assoc]); exact hb) (fun _ _ hx h => ⟨h.1.ext hx, h.2.ext hx⟩) ⟨hE.1.ext hb, hN.arr⟩ ?_)
        try simp only [Act.put, zqA, zqB, zqC]
        (refine wpFg_eff rfl ?_ (fun wf hXf hE K hK => ?_); rfl; obtain ⟨osf, df, rfl⟩ := hXf.more; go_simp; (try simp only [drew_more] at hE); refine (same_any ⟨1, l.length, l⟩ _ _ _ _ _ _ _ (hE.1) (hE.2)).mono ?_; rintro e w' ⟨rfl, hb⟩; refine hK _ _ (fun _ => True) (by (try simp only [more_drew, more_more, Array.append_assoc]); exact hb) (fun _ _ _ _ => trivial) trivial ?_)
        try simp only [Act.put, zqA, zqB, zqC]
        iterate 4 ((refine wpFg_read (v := ?_) rfl ?_ (fun w1 h1 => ?_) ?_; rotate_left 1; rfl; (obtain ⟨os1, d1, rfl⟩ := h1.more; go_simp; first | done | rfl)); try simp only [Act.put, zqA, zqB, zqC])
        (refine wpFg_eff rfl ?_ (fun wf hXf hE K hK => ?_); rfl; obtain ⟨osf, df, rfl⟩ := hXf.more; go_simp; (try simp only [drew_more] at hE); generalize hq5 : wc.heap.size + osf.size = q5; refine hK _ _ (fun W => ArgsIn W (some ⟨q5, 0, none⟩) 1 1 [arAt ⟨RU, C, lU⟩ Du mu cu]) (by exact (Ext.refl _).alloc _) (fun _ _ hx h => h.ext hx) (by exact argsG_new [arAt ⟨RU, C, lU⟩ Du mu cu] (by rw [← hq5]; simp) rfl rfl (by decide) (by intro a ha; simp only [List.mem_cons, List.not_mem_nil, or_false] at ha; rcases ha with rfl; exact ⟨BU.out.2.ext (by with_reducible repeat (first | exact Ext.refl _ | apply Ext.drew | apply Ext.alloc | apply Ext.more_)), hur⟩)) ?_)
        try simp only [Act.put, zqA, zqB, zqC]
        (refine wpFg_eff rfl ?_ (fun wf hXf hE K hK => ?_); rfl; obtain ⟨osf, df, rfl⟩ := hXf.more; go_simp; (try simp only [drew_more] at hE); refine (h05 _ _ hE).mono ?_; rintro e w' ⟨E5, m5, c5, rfl, hN, hb⟩; refine hK _ _ (fun W => ArrIn W E5 m5 c5 lU) (by (try simp only [more_drew, more_more, Array.append_assoc]); exact hb) (fun _ _ hx h => h.ext hx) hN.arr ?_)
        try simp only [Act.put, zqA, zqB, zqC]
        (refine wpFg_eff rfl ?_ (fun wf hXf hE K hK => ?_); rfl; obtain ⟨osf, df, rfl⟩ := hXf.more; go_simp; (try simp only [drew_more] at hE); refine (same_any ⟨RU, C, lU⟩ _ _ _ _ _ _ _ (hE) (BU.out.2.ext (by with_reducible repeat (first | exact Ext.refl _ | apply Ext.drew | apply Ext.alloc | apply Ext.more_)))).mono ?_; rintro e w' ⟨rfl, hb⟩; refine hK _ _ (fun _ => True) (by (try simp only [more_drew, more_more, Array.append_assoc]); exact hb) (fun _ _ _ _ => trivial) trivial ?_)
        try simp only [Act.put, zqA, zqB, zqC]
        iterate 4 ((refine wpFg_read (v := ?_) rfl ?_ (fun w1 h1 => ?_) ?_; rotate_left 1; rfl; (obtain ⟨os1, d1, rfl⟩ := h1.more; go_simp; first | done | rfl)); try simp only [Act.put, zqA, zqB, zqC])
        (refine wpFg_launch (t := 55) ?_ (fun b => .slice (some ⟨b, 0, none⟩) 1 1) rfl rfl rfl (fun w1 => ?_) ?_; rotate_left 1; (go_simp; first | done | rfl))
        (refine wpFg_launch (t := 52) ?_ (fun b => .slice (some ⟨b, 0, none⟩) 1 1) rfl rfl rfl (fun w1 => ?_) ?_; rotate_left 1; (go_simp; first | done | rfl))
        refine wpFg_wait fun q6 g6 n6 _ => ?_; refine ⟨fun W => ArgsIn W (some ⟨q6, 0, none⟩) 1 1 [arAt ⟨R, C, l⟩ (some ⟨b, off, none⟩) n cap], fun _ _ hx h => h.ext hx, fun W hXW _ h1 => argsG_at _ h1 (by first | rfl | (simp; done)) rfl (by decide) (by intro a ha; simp only [List.mem_cons, List.not_mem_nil, or_false] at ha; rcases ha with rfl; exact ⟨HC.out.ext (((Ext.refl wc).drew).trans hXW), har⟩), ?_⟩
        try simp only [Act.put, zqA, zqB, zqC]
        (refine wpFg_eff rfl ?_ (fun wf hXf hE K hK => ?_); rfl; obtain ⟨osf, df, rfl⟩ := hXf.more; go_simp; (try simp only [drew_more] at hE); refine (one_rows (HTC.out.ext (by with_reducible repeat (first | exact Ext.refl _ | apply Ext.drew | apply Ext.alloc | apply Ext.more_))) hE).mono ?_; rintro e w' ⟨E6, m6, c6, rfl, hN, hb⟩; refine hK _ _ (fun W => ArrIn W E6 m6 c6 (oneA (cntV (R : Int))).l) (by (try simp only [more_drew, more_more, Array.append_assoc]); exact hb) (fun _ _ hx h => h.ext hx) hN.arr ?_)
        try simp only [Act.put, zqA, zqB, zqC]
        refine wpFg_wait fun q7 g7 n7 _ => ?_; refine ⟨fun W => ArrIn W E6 m6 c6 (oneA (cntV (R : Int))).l ∧ ArgsIn W (some ⟨q7, 0, none⟩) 1 1 [arAt ⟨RT, R, lT⟩ Dt mt ct], fun _ _ hx h => ⟨h.1.ext hx, h.2.ext hx⟩, fun W hXW hE h1 => ⟨hE, argsG_at _ h1 (by first | rfl | (simp; done)) rfl (by decide) (by intro a ha; simp only [List.mem_cons, List.not_mem_nil, or_false] at ha; rcases ha with rfl; exact ⟨BT.out.2.ext (((Ext.refl wc).drew).trans hXW), htr⟩)⟩, ?_⟩
        try simp only [Act.put, zqA, zqB, zqC]
        (refine wpFg_eff rfl ?_ (fun wf hXf hE K hK => ?_); rfl; obtain ⟨osf, df, rfl⟩ := hXf.more; go_simp; (try simp only [drew_more] at hE); refine (h07 _ _ (HTC.out.ext (by with_reducible repeat (first | exact Ext.refl _ | apply Ext.drew | apply Ext.alloc | apply Ext.more_))) hE.2).mono ?_; rintro e w' ⟨E7, m7, c7, rfl, hN, hb⟩; refine hK _ _ (fun W => ArrIn W E6 m6 c6 (oneA (cntV (R : Int))).l ∧ ArrIn W E7 m7 c7 (oneA (cntV (R : Int))).l) (by (try simp only [more_drew, more_more, Array.append_assoc]); exact hb) (fun _ _ hx h => ⟨h.1.ext hx, h.2.ext hx⟩) ⟨hE.1.ext hb, hN.arr⟩ ?_)
        try simp only [Act.put, zqA, zqB, zqC]
        (refine wpFg_eff rfl ?_ (fun wf hXf hE K hK => ?_); rfl; obtain ⟨osf, df, rfl⟩ := hXf.more; go_simp; (try simp only [drew_more] at hE); refine (same_any (oneA (cntV (R : Int))) _ _ _ _ _ _ _ (hE.1) (hE.2)).mono ?_; rintro e w' ⟨rfl, hb⟩; refine hK _ _ (fun _ => True) (by (try simp only [more_drew, more_more, Array.append_assoc]); exact hb) (fun _ _ _ _ => trivial) trivial ?_)
        try simp only [Act.put, zqA, zqB, zqC]
        iterate 5 ((refine wpFg_read (v := ?_) rfl ?_ (fun w1 h1 => ?_) ?_; rotate_left 1; rfl; (obtain ⟨os1, d1, rfl⟩ := h1.more; go_simp; first | done | rfl)); try simp only [Act.put, zqA, zqB, zqC])
        (refine wpFg_eff rfl ?_ (fun wf hXf hE K hK => ?_); rfl; obtain ⟨osf, df, rfl⟩ := hXf.more; go_simp; (try simp only [drew_more] at hE); generalize hq8 : wc.heap.size + osf.size = q8; refine hK _ _ (fun W => ArgsIn W (some ⟨q8, 0, none⟩) 1 1 [arAt ⟨R, C, l⟩ (some ⟨b, off, none⟩) n cap]) (by exact (Ext.refl _).alloc _) (fun _ _ hx h => h.ext hx) (by exact argsG_new [arAt ⟨R, C, l⟩ (some ⟨b, off, none⟩) n cap] (by rw [← hq8]; simp) rfl rfl (by decide) (by intro a ha; simp only [List.mem_cons, List.not_mem_nil, or_false] at ha; rcases ha with rfl; exact ⟨HC.out.ext (by with_reducible repeat (first | exact Ext.refl _ | apply Ext.drew | apply Ext.alloc | apply Ext.more_)), har⟩)) ?_)
        try simp only [Act.put, zqA, zqB, zqC]
        (refine wpFg_eff rfl ?_ (fun wf hXf hE K hK => ?_); rfl; obtain ⟨osf, df, rfl⟩ := hXf.more; go_simp; (try simp only [drew_more] at hE); refine (one_cols (HTC.out.ext (by with_reducible repeat (first | exact Ext.refl _ | apply Ext.drew | apply Ext.alloc | apply Ext.more_))) hE).mono ?_; rintro e w' ⟨E8, m8, c8, rfl, hN, hb⟩; refine hK _ _ (fun W => ArrIn W E8 m8 c8 (oneA (cntV (C : Int))).l) (by (try simp only [more_drew, more_more, Array.append_assoc]); exact hb) (fun _ _ hx h => h.ext hx) hN.arr ?_)
        try simp only [Act.put, zqA, zqB, zqC]
        (refine wpFg_eff rfl ?_ (fun wf hXf hE K hK => ?_); rfl; obtain ⟨osf, df, rfl⟩ := hXf.more; go_simp; (try simp only [drew_more] at hE); refine (hnC _).mono ?_; rintro e w' ⟨E9, m9, c9, rfl, hN, hb⟩; refine hK _ _ (fun W => ArrIn W E8 m8 c8 (oneA (cntV (C : Int))).l ∧ ArrIn W E9 m9 c9 (oneA (cntV (C : Int))).l) (by (try simp only [more_drew, more_more, Array.append_assoc]); exact hb) (fun _ _ hx h => ⟨h.1.ext hx, h.2.ext hx⟩) ⟨hE.ext hb, hN.arr⟩ ?_)
        try simp only [Act.put, zqA, zqB, zqC]
        (refine wpFg_eff rfl ?_ (fun wf hXf hE K hK => ?_); rfl; obtain ⟨osf, df, rfl⟩ := hXf.more; go_simp; (try simp only [drew_more] at hE); refine (same_any (oneA (cntV (C : Int))) _ _ _ _ _ _ _ (hE.1) (hE.2)).mono ?_; rintro e w' ⟨rfl, hb⟩; refine hK _ _ (fun _ => True) (by (try simp only [more_drew, more_more, Array.append_assoc]); exact hb) (fun _ _ _ _ => trivial) trivial ?_)
        try simp only [Act.put, zqA, zqB, zqC]
        iterate 16 ((refine wpFg_read (v := ?_) rfl ?_ (fun w1 h1 => ?_) ?_; rotate_left 1; rfl; (obtain ⟨os1, d1, rfl⟩ := h1.more; go_simp; first | done | rfl)); try simp only [Act.put, zqA, zqB, zqC])
        (refine wpFg_done fun wz hXz hE => ?_; obtain ⟨osz, dz, rfl⟩ := hXz.more)
        refine wpTl_nil ?_
        go_wp2_with fail
        go_ret
        exact ⟨rfl, hx.trans (hy.trans (by with_reducible repeat (first | exact Ext.refl _ | exact ext_d _ _ _ _ | exact ext_app _ _ _ _ _ | exact ext_app2 _ _ _ _ _ _ | exact ext_app3 _ _ _ _ _ _ _ | apply Ext.drew | apply Ext.alloc | apply Ext.more_)))⟩
    · have hR' : (60 : Int) < (R : Int) := by omega
      go_enter Tryz.func6, Tryz.ntmps6
      go_wp2_with (first | (go_at_call 9; (with_reducible refine (awake15_any _ (HT.out.ext (by with_reducible repeat (first | exact Ext.refl _ | apply Ext.drew | apply Ext.alloc | apply Ext.more_)))).mono ?_); rintro e w' ⟨rfl, hb⟩; obtain ⟨osw, dw, rfl⟩ := hb.more; clear hb) | (go_at_call 12; (refine (small15_any _ 1 1 _ _ (gargs_one (by simp) rfl (HA.out.ext (by with_reducible repeat (first | exact Ext.refl _ | apply Ext.drew | apply Ext.alloc | apply Ext.more_))))).mono ?_); rintro e w' ⟨s, rfl, hs, hb⟩; obtain ⟨oss, ds, rfl⟩ := hb.more; clear hb; rcases hs with rfl | rfl) | (go_at_call 14; refine (hra _ (HA.out.ext (by with_reducible repeat (first | exact Ext.refl _ | apply Ext.drew | apply Ext.alloc | apply Ext.more_)))).mono ?_; rintro e w' ⟨rfl, hb⟩; obtain ⟨osr, dr, rfl⟩ := hb.more; clear hb))
      all_goals
        go_ret
        exact ⟨rfl, by with_reducible repeat (first | exact Ext.refl _ | apply Ext.drew | apply Ext.alloc | apply Ext.more_)⟩
end Go.Proofs.YtmjmijjbijlhfaaGreatDoor
namespace Go.Proofs.YtmjmijjbijlhfaaGreatDoor
open Go.ChangeShapes Go.WideShapes Go.ChangeAt Go.RowKit Go.Deep
theorem own : ownKnob Tryz.prog.godebug = none := by kernel_rfl
theorem laidOut : laidOutB Tryz.prog = true := by kernel_rfl
theorem cells_num : Tryz.prog.cellsOf 41 = 2 := by kernel_rfl
theorem cells_int : Tryz.prog.cellsOf 3 = 1 := by kernel_rfl
/-- What all rows of this seat list. -/
def laid3 : List (String × DataW Unit) := [("math/bits.deBruijn32tab", Rows.laid_math_bits_deBruijn32tab), ("math/bits.deBruijn64tab", Rows.laid_math_bits_deBruijn64tab), ("internal/strconv.uint64pow10", Rows.laid_internal_strconv_uint64pow10)]
theorem pow10_data : (Rows.laid_internal_strconv_uint64pow10 : DataW Unit) = Lib.tabData .u64 Lib.pow10Tab := by
  unfold Rows.laid_internal_strconv_uint64pow10 Lib.tabData Lib.pow10Tab
  simp [List.range_succ]
theorem gPow : Tryz.prog.globalNamed "internal/strconv.uint64pow10" = some 3 := by kernel_rfl
theorem tPow : (Tryz.prog.globals[3]?).map (·.type) = some 199 := by kernel_rfl
theorem tab_of_laid {W : World} (h : laidMetH Tryz.prog laid3 W) : Tab W := by
  rw [MakeChecks.laidMetH_plain _ _ _ (by kernel_rfl)] at h
  obtain ⟨ps, ⟨g0, t0, cs0, f0, p0, q0, hg0, ht0, hv0, hd0, ⟨g1, t1, cs1, f1, p1, q1, hg1, ht1, hv1, hd1, ⟨g2, t2, cs2, f2, p2, q2, hg2, ht2, hv2, hd2, _, _⟩, _⟩, _⟩, _, _⟩ := h
  obtain rfl := Option.some.inj (gPow.symm.trans hg2)
  obtain rfl := Option.some.inj (tPow.symm.trans ht2)
  rw [pow10_data] at hd2
  unfold Tab Lib.TabIs
  rw [hv2, ← Lib.cells_of_tab Tryz.underlying199 Tryz.underlying47 (by kernel_rfl) (by kernel_rfl) hd2]
theorem door_met (os : Os) (args : Array Value) : laidMetH Tryz.prog laid3 ((World.doorLaid Tryz.prog 400 os).forCall (fun _ _ => 0) ⟨#[], args, []⟩).memory :=
  laidMetH_of_parts3 (fuel := 8) (laidMet_of_run' 8 (by kernel_rfl) (by kernel_rfl)) (by kernel_rfl) (by kernel_rfl)
set_option maxRecDepth 100000
section
variable {H : Type} {enc : TypeId × Value → H} {w : World} {base : Nat} {spare : Nat → Bool} {held : Bool}
theorem i64_of {n : Int} (h : (Lit.int .i64 n).wf = true) : I64 n := by
  simpa [Lit.wf, IntKind.min, IntKind.max, IntKind.signed, IntKind.bits, I64] using h
theorem trod_blocks_ {t : TypeId} {v : Value} {d : DataW H} {p : List MemPlace} (h : DataW.Trod enc Tryz.prog w base spare held t v d p) : ∀ x ∈ p, x.block < w.heap.size := by
  obtain ⟨m, hm⟩ := h
  exact DataW.trod_lt m _ _ _ hm
end
end Go.Proofs.YtmjmijjbijlhfaaGreatDoor
namespace Go.Proofs.YtmjmijjbijlhfaaGreatDoor
open Go.ChangeShapes Go.WideShapes Go.ChangeAt Go.RowKit Go.Deep
theorem cells_val : Tryz.prog.cellsOf 43 = 6 := by kernel_rfl
theorem cells_string : Tryz.prog.cellsOf 9 = 1 := by kernel_rfl
theorem cells_bool : Tryz.prog.cellsOf 4 = 1 := by kernel_rfl
theorem cells_arr : Tryz.prog.cellsOf 31 = 3 := by kernel_rfl
set_option maxRecDepth 100000
section
variable {H : Type} {enc : TypeId × Value → H} {w : World} {base : Nat} {spare : Nat → Bool} {held : Bool}
theorem open_num {fuel : Nat} {c1 c2 : Value} {x : DataW H × List MemPlace} (h : DataW.trod enc Tryz.prog w base spare held fuel 41 [c1, c2] = some x) : ∃ m e : Int, [c1, c2] = [.int .i64 m, .int .i64 e] ∧ I64 m ∧ I64 e := by
  obtain ⟨xs, n, rfl, _, hl, hxs, hf⟩ := DataW.trod_struct Tryz.underlying41 h
  obtain ⟨y0, hy0⟩ : ∃ y, xs[0]? = some y := ⟨_, List.getElem?_eq_getElem (by rw [hxs]; decide)⟩
  have g0 : DataW.trod enc Tryz.prog w base spare held n 3 [c1] = some y0 := by rw [← hy0]; have := hf 0 _ rfl; simpa [cells_int] using this
  obtain ⟨y1, hy1⟩ : ∃ y, xs[1]? = some y := ⟨_, List.getElem?_eq_getElem (by rw [hxs]; decide)⟩
  have g1 : DataW.trod enc Tryz.prog w base spare held n 3 [c2] = some y1 := by rw [← hy1]; have := hf 1 _ rfl; simpa [cells_int] using this
  obtain ⟨m, e0, _, w0⟩ := DataW.trod_int Tryz.underlying3 g0
  obtain ⟨e, e1, _, w1⟩ := DataW.trod_int Tryz.underlying3 g1
  simp only [List.cons.injEq, and_true] at e0 e1
  subst e0 e1
  exact ⟨m, e, rfl, i64_of w0, i64_of w1⟩
set_option maxHeartbeats 800000 in
theorem open_val {fuel : Nat} {cs : List Value} {x : DataW H × List MemPlace} (h : DataW.trod enc Tryz.prog w base spare held fuel 43 cs = some x) : ∃ y : Val, cs = y.cells ∧ y.ok := by
  obtain ⟨xs, n, rfl, _, hl, hxs, hf⟩ := DataW.trod_struct Tryz.underlying43 h
  rw [cells_val] at hl
  match cs, hl with
  | [c0, c1, c2, c3, c4, c5], _ =>
    obtain ⟨y0, hy0⟩ : ∃ y, xs[0]? = some y := ⟨_, List.getElem?_eq_getElem (by rw [hxs]; decide)⟩
    have g0 : DataW.trod enc Tryz.prog w base spare held n 3 [c0] = some y0 := by rw [← hy0]; have := hf 0 _ rfl; simpa [cells_int] using this
    obtain ⟨y1, hy1⟩ : ∃ y, xs[1]? = some y := ⟨_, List.getElem?_eq_getElem (by rw [hxs]; decide)⟩
    have g1 : DataW.trod enc Tryz.prog w base spare held n 41 [c1, c2] = some y1 := by rw [← hy1]; have := hf 1 _ rfl; simpa [cells_num] using this
    obtain ⟨y2, hy2⟩ : ∃ y, xs[2]? = some y := ⟨_, List.getElem?_eq_getElem (by rw [hxs]; decide)⟩
    have g2 : DataW.trod enc Tryz.prog w base spare held n 9 [c3] = some y2 := by rw [← hy2]; have := hf 2 _ rfl; simpa [cells_string] using this
    obtain ⟨y3, hy3⟩ : ∃ y, xs[3]? = some y := ⟨_, List.getElem?_eq_getElem (by rw [hxs]; decide)⟩
    have g3 : DataW.trod enc Tryz.prog w base spare held n 4 [c4] = some y3 := by rw [← hy3]; have := hf 3 _ rfl; simpa [cells_bool] using this
    obtain ⟨y4, hy4⟩ : ∃ y, xs[4]? = some y := ⟨_, List.getElem?_eq_getElem (by rw [hxs]; decide)⟩
    have g4 : DataW.trod enc Tryz.prog w base spare held n 3 [c5] = some y4 := by rw [← hy4]; have := hf 4 _ rfl; simpa [cells_int] using this
    obtain ⟨k, e0, _, w0⟩ := DataW.trod_int Tryz.underlying3 g0
    obtain ⟨m, ex, e1, w1, w2⟩ := open_num g1
    obtain ⟨t, e3, _, w3⟩ := DataW.trod_string Tryz.underlying9 g2
    obtain ⟨b, e4, _⟩ := DataW.trod_bool Tryz.underlying4 g3
    obtain ⟨f, e5, _, w5⟩ := DataW.trod_int Tryz.underlying3 g4
    simp only [List.cons.injEq, and_true] at e0 e1 e3 e4 e5
    obtain ⟨rfl, rfl⟩ := e1
    subst e0 e3 e4 e5
    exact ⟨⟨k, m, ex, t, b, f⟩, rfl, i64_of w0, w1, w2, w3, i64_of w5⟩
/-- A slice of values. -/
theorem open_vals {fuel : Nat} {a : Option Addr} {len cap : Nat} {x : DataW H × List MemPlace} (h : DataW.trod enc Tryz.prog w base spare held fuel 29 [.slice a len cap] = some x) : ∃ l, ArrIn w a len cap l := by
  rcases open_slice Tryz.underlying29 h with ⟨hcs, _⟩ | ⟨ad, len', cap', m, n, D, Pl, hcs, hb, hl, hm, hmm, _, hi⟩
  · simp only [List.cons.injEq, Value.slice.injEq, and_true] at hcs
    obtain ⟨rfl, rfl, rfl⟩ := hcs
    exact ⟨[], SlV.nil _ _ _, rfl, Nat.le_refl _, by omega, by simp⟩
  · simp only [List.cons.injEq, Value.slice.injEq, and_true] at hcs
    obtain ⟨rfl, rfl, rfl⟩ := hcs
    have hlm : len ≤ m := by rw [hmm]; split <;> omega
    obtain ⟨X, hX⟩ := choose_lt (α := Val) (n := len) (p := fun i y => w.cells? base (ad.add (i * 6)) 6 = some y.cells ∧ y.ok) (fun i hil => by
      obtain ⟨cs', h1, h2⟩ := hi i (by omega)
      rw [cells_val] at h1
      obtain ⟨y, rfl, hy⟩ := open_val h2
      exact ⟨y, h1, hy⟩)
    refine ⟨(List.range len).map X, ?_, by simp, hl, by simp only [maxLen] at hm; omega, ?_⟩
    · intro j u hu
      have hj : j / 6 < len := by
        have := (List.getElem?_eq_some_iff.1 hu).1
        rw [vcells_length] at this
        simp at this
        omega
      have hat := vcells_at ((List.range len).map X) (j / 6) (X (j / 6)) (by simp [hj]) (j % 6) (by omega)
      rw [show j / 6 * 6 + j % 6 = j by omega, hu] at hat
      obtain ⟨_, _, hc⟩ := World.cells?_some (hX (j / 6) hj).1
      have h6 := hc (j % 6) (by omega)
      rw [← hat, Go.Deep.add_add, show j / 6 * 6 + j % 6 = j by omega] at h6
      obtain ⟨b, off, spot⟩ := ad
      have hsp : spot = none := by
        obtain ⟨_, _, hc0⟩ := World.cells?_some (hX 0 (by omega)).1
        have h0 := hc0 0 (by omega)
        simp [Addr.add, Val.cells] at h0
        exact World.cell?_spot h0
      subst hsp
      rw [Addr.add_mid] at h6
      exact ⟨b, off, rfl, Nat.zero_le _, h6⟩
    · intro y hy
      simp only [List.mem_map, List.mem_range] at hy
      obtain ⟨i, hi', rfl⟩ := hy
      exact (hX i hi').2
theorem open_arr {r : Reach} {b0 : Nat} {v : Value} {d : DataW H} {p : List MemPlace} (hv : Value.okWide Tryz.prog w r b0 31 v) (h : DataW.Trod enc Tryz.prog w base spare held 31 v d p) :
    ∃ (a c : Int) (A : Option Addr) (n cap : Nat) (l : List Val), v = AV a c (.slice A n cap) ∧ I64 a ∧ I64 c ∧ ArrIn w A n cap l := by
  obtain ⟨c0, c1, c2, y0, y1, y2, m, rfl, rfl, rfl, hy0, hy1, hy2⟩ := Joins.open_agg3 Tryz.underlying31 (by kernel_rfl) cells_arr hv h
  obtain ⟨a, e0, _, w0⟩ := DataW.trod_int Tryz.underlying3 hy0
  obtain ⟨c, e1, _, w1⟩ := DataW.trod_int Tryz.underlying3 hy1
  obtain ⟨A, n, cap, e2⟩ := Joins.slice_form Tryz.underlying29 hy2
  simp only [List.cons.injEq, and_true] at e0 e1 e2
  subst e0 e1 e2
  obtain ⟨l, hl⟩ := open_vals hy2
  exact ⟨a, c, A, n, cap, l, rfl, i64_of w0, i64_of w1, hl⟩
end
end Go.Proofs.YtmjmijjbijlhfaaGreatDoor
