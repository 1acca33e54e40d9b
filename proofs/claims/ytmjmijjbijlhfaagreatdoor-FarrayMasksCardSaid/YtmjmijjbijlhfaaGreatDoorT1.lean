/- What the rows' proofs lean on: the contracts of the functions that they reach, and plain facts (part T1). -/
import Derived.WalkKit
import Derived.WalkLawsBesides
import Derived.WalkSpells
import Derived.Outline
import Derived.Below
import Derived.Deep.RegionHeld3
import Derived.Deep.DeepCutAuto
import Derived.Deep.AppendLies
import Derived.Maps.AppendAt
import Derived.Lib.Hide
import Derived.OrdersHeld
import Derived.Test.YtmjmijjbijlhfaaGreatDoorProg
import Derived.Shelf.Small.Bits
import Derived.Shelf.Small.Strs
import Derived.Shelf.Strconv.Itoa0
import Derived.Shelf.Strconv.Itoa1
import Derived.Shelf.LaysM
import Derived.Shelf.Strconv.Itoa2
import Derived.Shelf.Bits.Mul64
import Derived.Ground.SlgmProg
import Derived.Shelf.SortM.Plain
import Derived.Shelf.SortM.SortNone
import Derived.Lib.ItoaMem
import Derived.Lib.OthersKept
import Derived.Deep.CutBlock
import Derived.Laws.Bits64b
import Derived.Lib.AppendZeros
import Derived.Lib.Bytealg
import Derived.Laws.RangeAny
import Derived.Maps.OwnSet
import Derived.Maps.Own
import Derived.Laws.EntriesVeiled
import Derived.Lib.ConvBytes
import Derived.Lib.SlBytesRow
import Derived.Lib.SmallJoins
import Derived.RegionTactic
import Derived.Sort.OwnSortedInts
import Derived.Shelf.SlIter.Nil
import Derived.Ground.GgzProg
import Derived.Test.YtmjmijjbijlhfaaGreatDoorRows
import Derived.Test.YtmjmijjbijlhfaaGreatDoorCards
import Derived.Test.YtmjmijjbijlhfaaGreatDoorTie
import Derived.ProofKit
import Derived.LaidMore
import Derived.OpenShut
import Derived.ShutString
import Derived.ChangeOld
import Derived.Stop.Joined
import Derived.Deep.Slices
import Derived.SevenTiedAt
import Derived.Test.YtmjmijjbijlhfaaGreatDoorR5
set_option linter.unusedSimpArgs false
set_option linter.unusedVariables false
set_option maxRecDepth 100000
namespace Go.Proofs.YtmjmijjbijlhfaaGreatDoor
open Go.RowKit
theorem ValAt.ext {w w' : World} {b o : Nat} {x : Val} (h : ValAt w b o x) (hb : Ext w w') : ValAt w' b o x :=
  ⟨hb.cell_some h.1, hb.cell_some h.2.1, hb.cell_some h.2.2.1, hb.cell_some h.2.2.2.1, hb.cell_some h.2.2.2.2.1, hb.cell_some h.2.2.2.2.2⟩
end Go.Proofs.YtmjmijjbijlhfaaGreatDoor
namespace Go.Proofs.YtmjmijjbijlhfaaGreatDoor
open Go.RowKit
set_option maxHeartbeats 400000 in
theorem refBad_any (f : Int) (w : World) :
    Calls Tryz.prog 21 #[.int .i64 f] w fun e w' => ArrO w.heap.size w' e 1 1 [badV f] ∧ Ext w w' := by
  go_enter Tryz.func21, Tryz.ntmps21
  go_wp2
  refine bodyPost_ret (v := AV 1 1 (.slice (some ⟨w.heap.size + 1, 0, none⟩) 1 1)) (by simp [results, Tryz.results21, go_sem]) rfl ⟨⟨_, _, rfl, ?_, Nat.le_refl _⟩, by repeat (first | exact Ext.refl _ | apply Ext.drew | apply Ext.alloc | apply Ext.more_)⟩
  exact SlV.one (by simp) (by simp)
end Go.Proofs.YtmjmijjbijlhfaaGreatDoor
namespace Go.Proofs.YtmjmijjbijlhfaaGreatDoor
open Go.RowKit NM
/-- A value's truth, and a fault. -/
def truthO (v : Val) : Bool × Int :=
  if v.kind = 1 then (decide (v.mant ≠ 0), 0)
  else if v.kind = 2 then (if (foldB v.text).toList == [84, 82, 85, 69] then (true, 0) else if (foldB v.text).toList == [70, 65, 76, 83, 69] then (false, 0) else (false, 2))
  else if v.kind = 3 then (v.truth, 0)
  else if v.kind = 4 then (false, v.fault)
  else (false, 0)
abbrev bfV (p : Bool × Int) : Value := .tuple #[.bool p.1, .int .i64 p.2]
set_option maxHeartbeats 1000000 in
theorem toTruth_any (v : Val) (w : World) (hv : v.right) :
    Calls Tryz.prog 85 #[VV v.kind v.mant v.exp v.text v.truth v.fault] w fun e w' => e = .returned (bfV (truthO v)) ∧ Ext w w' := by
  rcases hv.form with rfl | ⟨m, e, rfl, hr⟩ | ⟨t, rfl, ht⟩ | ⟨x, rfl⟩ | ⟨f, rfl, hf⟩
  · show Calls Tryz.prog 85 #[VV 0 0 0 ⟨#[]⟩ false 0] w fun e w' => e = .returned (.tuple #[.bool false, .int .i64 0]) ∧ Ext w w'
    go_enter Tryz.func85, Tryz.ntmps85
    go_wp2
    exact bodyPost_ret (v := .tuple #[.bool false, .int .i64 0]) (by simp [results, Tryz.results85, go_sem]) rfl ⟨rfl, by with_reducible repeat (first | exact Ext.refl _ | apply Ext.drew | apply Ext.alloc | apply Ext.more_)⟩
  · show Calls Tryz.prog 85 #[VV 1 m e ⟨#[]⟩ false 0] w fun e w' => e = .returned (.tuple #[.bool (decide (m ≠ 0)), .int .i64 0]) ∧ Ext w w'
    clear hr hv
    by_cases hm : m = 0
    · subst hm
      go_enter Tryz.func85, Tryz.ntmps85
      go_wp2
      exact bodyPost_ret (v := .tuple #[.bool false, .int .i64 0]) (by simp [results, Tryz.results85, go_sem]) rfl ⟨rfl, by with_reducible repeat (first | exact Ext.refl _ | apply Ext.drew | apply Ext.alloc | apply Ext.more_)⟩
    · rw [decide_eq_true hm]
      have hm' : (m != 0) = true := by simpa using hm
      go_enter Tryz.func85, Tryz.ntmps85
      go_wp2
      exact bodyPost_ret (v := .tuple #[.bool true, .int .i64 0]) (by simp [results, Tryz.results85, go_sem]) rfl ⟨rfl, by with_reducible repeat (first | exact Ext.refl _ | apply Ext.drew | apply Ext.alloc | apply Ext.more_)⟩
  · have hF := fun W => fold_any t W (by omega)
    have hT : truthO ⟨2, 0, 0, t, false, 0⟩ = if (foldB t).toList == [84, 82, 85, 69] then (true, 0) else if (foldB t).toList == [70, 65, 76, 83, 69] then (false, 0) else (false, 2) := rfl
    rw [hT]
    show Calls Tryz.prog 85 #[VV 2 0 0 t false 0] w _
    clear hT ht hv
    generalize foldB t = X at *
    cases h1 : X.toList == [84, 82, 85, 69] with
    | true =>
      rw [if_pos rfl]
      go_enter Tryz.func85, Tryz.ntmps85
      go_wp2_with (go_at_call 144; (with_reducible refine (hF _).mono ?_); rintro e w' ⟨rfl, hb⟩; obtain ⟨os, d, rfl⟩ := hb.more; clear hb)
      exact bodyPost_ret (v := .tuple #[.bool true, .int .i64 0]) (by simp [results, Tryz.results85, go_sem]) rfl ⟨rfl, by with_reducible repeat (first | exact Ext.refl _ | apply Ext.drew | apply Ext.alloc | apply Ext.more_)⟩
    | false =>
      rw [if_neg (by simp)]
      cases h2 : X.toList == [70, 65, 76, 83, 69] with
      | true =>
        rw [if_pos rfl]
        go_enter Tryz.func85, Tryz.ntmps85
        go_wp2_with (go_at_call 144; (with_reducible refine (hF _).mono ?_); rintro e w' ⟨rfl, hb⟩; obtain ⟨os, d, rfl⟩ := hb.more; clear hb)
        exact bodyPost_ret (v := .tuple #[.bool false, .int .i64 0]) (by simp [results, Tryz.results85, go_sem]) rfl ⟨rfl, by with_reducible repeat (first | exact Ext.refl _ | apply Ext.drew | apply Ext.alloc | apply Ext.more_)⟩
      | false =>
        rw [if_neg (by simp)]
        go_enter Tryz.func85, Tryz.ntmps85
        go_wp2_with (go_at_call 144; (with_reducible refine (hF _).mono ?_); rintro e w' ⟨rfl, hb⟩; obtain ⟨os, d, rfl⟩ := hb.more; clear hb)
        exact bodyPost_ret (v := .tuple #[.bool false, .int .i64 2]) (by simp [results, Tryz.results85, go_sem]) rfl ⟨rfl, by with_reducible repeat (first | exact Ext.refl _ | apply Ext.drew | apply Ext.alloc | apply Ext.more_)⟩
  · show Calls Tryz.prog 85 #[VV 3 0 0 ⟨#[]⟩ x 0] w fun e w' => e = .returned (.tuple #[.bool x, .int .i64 0]) ∧ Ext w w'
    go_enter Tryz.func85, Tryz.ntmps85
    go_wp2
    exact bodyPost_ret (v := .tuple #[.bool x, .int .i64 0]) (by simp [results, Tryz.results85, go_sem]) rfl ⟨rfl, by with_reducible repeat (first | exact Ext.refl _ | apply Ext.drew | apply Ext.alloc | apply Ext.more_)⟩
  · show Calls Tryz.prog 85 #[VV 4 0 0 ⟨#[]⟩ false f] w fun e w' => e = .returned (.tuple #[.bool false, .int .i64 f]) ∧ Ext w w'
    go_enter Tryz.func85, Tryz.ntmps85
    go_upto_region 14 with fail
    go_region
    all_goals
      go_wp2
      exact bodyPost_ret (v := .tuple #[.bool false, .int .i64 f]) (by simp [results, Tryz.results85, go_sem]) rfl ⟨rfl, by with_reducible repeat (first | exact Ext.refl _ | apply Ext.drew | apply Ext.alloc | apply Ext.more_)⟩
end Go.Proofs.YtmjmijjbijlhfaaGreatDoor
namespace Go.Proofs.YtmjmijjbijlhfaaGreatDoor
open Go.RowKit NM
def colL (R C : Nat) (l : List Val) (ps : List Nat) : List Val := (List.range R).flatMap fun r => ps.map fun c => getV l (r * C + c)
/-- An array's columns at these places. -/
def colsN (a : NA) (ps : List Nat) : NA := ⟨a.R, ps.length, colL a.R a.C a.l ps⟩
theorem colsN_l (a : NA) (ps : List Nat) : (colsN a ps).l = vals (fun i j => getV a.l (i * a.C + plc ps j)) ps.length (a.R * ps.length) := by
  rw [← flat_vals]
  show (List.range a.R).flatMap _ = _
  refine flatMap_cong fun i _ => ?_
  conv => lhs; rw [← plc_map ps]
  rw [List.map_map]; rfl
theorem colsN_all {P : Val → Prop} {a : NA} {ps : List Nat} (hl : a.l.length = a.R * a.C) (hp : ∀ r ∈ ps, r < a.C) (h : ∀ x ∈ a.l, P x) : ∀ x ∈ (colsN a ps).l, P x := by
  rw [colsN_l]
  exact vals_all fun i j hi hj => getV_allP h (by rw [hl]; exact cell_lt hi (hp _ (plc_mem hj)))
end Go.Proofs.YtmjmijjbijlhfaaGreatDoor
namespace Go.Proofs.YtmjmijjbijlhfaaGreatDoor
open Go.RowKit NM
/-- FILTER: the first fault, the places that are true. -/
def maskF : List Val → Int
  | [] => 0
  | v :: l => if (truthO v).2 ≠ 0 then (truthO v).2 else maskF l
def maskP : List Val → Nat → List Nat
  | [], _ => []
  | v :: l, k => if (truthO v).1 then k :: maskP l (k + 1) else maskP l (k + 1)
def filterT (a b c : NA) (g : Bool) : NA :=
  if ¬ (b.C = 1 ∧ b.R = a.R) ∧ (b.R ≠ 1 ∨ b.C ≠ a.C) then aloneO 2
  else if maskF b.l ≠ 0 then aloneO (maskF b.l)
  else if maskP b.l 0 = [] then (if g then c else aloneO 9)
  else if b.C = 1 ∧ b.R = a.R then rowsN a (maskP b.l 0) else colsN a (maskP b.l 0)
def filterO (xs : List Ar) : NA := filterT (argN xs 0) (argN xs 1) (argN xs 2) (givenB xs 2)
end Go.Proofs.YtmjmijjbijlhfaaGreatDoor
namespace Go.Proofs.YtmjmijjbijlhfaaGreatDoor
open Go.RowKit NM
set_option maxHeartbeats 4000000 in
theorem colsOf_any (R C : Nat) (l : List Val) (A : Option Addr) (n cap : Nat) (ps : List Nat) (B : Option Addr) (cb : Nat) (w : World) (h : ArrIn w A n cap l) (hr : NA.right ⟨R, C, l⟩) (hps : Rd 0 w B (i6 ps)) (hcb : ps.length ≤ cb) (hp : ∀ r ∈ ps, r < C) (hm : R * ps.length ≤ 4096) (hm2 : ps.length ≤ 4096) :
    Calls Tryz.prog 83 #[AV R C (.slice A n cap), .slice B ps.length cb] w fun e w' => ResA w (colsN ⟨R, C, l⟩ ps) e w' := by
  obtain ⟨r1, r2, r3, r4, r5⟩ := rightA_nat.1 hr
  simp only at r1 r2 r3 r4 r5
  have hln := h.len
  obtain ⟨i0, hi0, hz0, hz1, hz2⟩ := info_parts info_val
  have hmk := make_vals (R * ps.length) hm
  have hw0 : IntKind.i64.wrap ((ps.length : Int) * (R : Int)) = ((R * ps.length : Nat) : Int) := by rw [IntKind.wrap_i64, ← Int.natCast_mul, Nat.mul_comm]; omega
  have hres : colsN ⟨R, C, l⟩ ps = ⟨R, ps.length, vals (fun i j => getV l (i * C + plc ps j)) ps.length (R * ps.length)⟩ := by
    have := colsN_l ⟨R, C, l⟩ ps
    show (⟨R, ps.length, (colsN ⟨R, C, l⟩ ps).l⟩ : NA) = _
    rw [this]
  have hok : ∀ x ∈ (colsN ⟨R, C, l⟩ ps).l, x.ok := colsN_all (a := ⟨R, C, l⟩) r4 hp h.ok
  rw [hres] at hok ⊢
  have HO := Lib.hid hok
  have hmo := made_own ((w.alloc (Obj.cells #[.int .i64 (R : Int), .int .i64 (C : Int), .slice (A) n cap] 31)).alloc (Obj.cells #[.int .i64 0, .int .i64 0, .slice none 0 0] 31)) ((w.alloc (Obj.cells #[.int .i64 (R : Int), .int .i64 (C : Int), .slice (A) n cap] 31)).alloc (Obj.cells #[.int .i64 0, .int .i64 0, .slice none 0 0] 31)).heap.size (R * ps.length) hm (Nat.le_refl _)
  have hC4 : C ≤ 4096 := Nat.le_trans (Nat.le_mul_of_pos_left C r1) r3
  have hR4 : R ≤ 4096 := Nat.le_trans (Nat.le_mul_of_pos_right R r2) r3
  generalize hM : ps.length = M at *
  generalize hN : R * M = N at *
  have HN := Lib.hid hN
  have HM := Lib.hid hM
  clear hN hres hok hM
  go_enter Tryz.func83, Tryz.ntmps83
  go_wp2_with fail
  go_loopw [5, 17] (fun v i wr => ∃ k : Nat, k ≤ R ∧ i = .int .i64 (k : Int) ∧ Hid (wr.ownsRow ((w.alloc (Obj.cells #[.int .i64 (R : Int), .int .i64 (C : Int), .slice (A) n cap] 31)).alloc (Obj.cells #[.int .i64 0, .int .i64 0, .slice none 0 0] 31)).heap.size 43 6 v (k * M) (vcells (vals (fun i j => getV l (i * C + plc ps j)) M (k * M)))) ∧ Ext ((w.alloc (Obj.cells #[.int .i64 (R : Int), .int .i64 (C : Int), .slice (A) n cap] 31)).alloc (Obj.cells #[.int .i64 0, .int .i64 0, .slice none 0 0] 31)) wr) (fun _ i _ => R - (intOf i).toNat)
  case atStart =>
    refine ⟨0, Nat.zero_le _, rfl, ?_, (Ext.refl _).alloc _⟩
    show World.ownsRow _ _ _ _ _ _ _
    rw [Nat.zero_mul]
    simp only [World.size_alloc] at hmo ⊢
    exact hmo
  case round =>
    obtain ⟨r, hk, rfl, HW, hxr⟩ := hrel
    clear hmo
    by_cases hlt : r < R
    · obtain ⟨m1, m2⟩ := lt_mul hlt r3
      have hrM : r * M + M ≤ N := by rw [← HN.out]; have := Nat.mul_le_mul_right M (show r + 1 ≤ R by omega); rw [Nat.add_mul, Nat.one_mul] at this; exact this
      go_wp2_with fail
      obtain ⟨wo, rfl⟩ : ∃ wo : World, wo = wr := ⟨_, rfl⟩
      go_loopw [5, 22] (fun v i wr => ∃ j : Nat, j ≤ M ∧ i = .int .i64 (j : Int) ∧ Hid (wr.ownsRow ((w.alloc (Obj.cells #[.int .i64 (R : Int), .int .i64 (C : Int), .slice (A) n cap] 31)).alloc (Obj.cells #[.int .i64 0, .int .i64 0, .slice none 0 0] 31)).heap.size 43 6 v (r * M + j) (vcells (vals (fun i j => getV l (i * C + plc ps j)) M (r * M + j)))) ∧ Ext ((w.alloc (Obj.cells #[.int .i64 (R : Int), .int .i64 (C : Int), .slice (A) n cap] 31)).alloc (Obj.cells #[.int .i64 0, .int .i64 0, .slice none 0 0] 31)) wr) (fun _ i _ => M - (intOf i).toNat)
      case atStart => exact ⟨0, Nat.zero_le _, rfl, HW, hxr⟩
      case round =>
        obtain ⟨j, hj, rfl, HV, hxv⟩ := hrel
        clear HW hxr
        have hsz := hxv.size
        have hx0 := hxv
        obtain ⟨os, d, rfl⟩ := hxv.more
        clear hxv
        by_cases hjM : j < M
        · obtain ⟨c, hck⟩ : ∃ c, ps[j]? = some c := ⟨_, List.getElem?_eq_getElem (by rw [HM.out]; exact hjM)⟩
          have hcC : c < C := hp c (List.mem_of_getElem? hck)
          have hpj : plc ps j = c := by unfold plc; rw [hck]; rfl
          obtain ⟨bp, op, rfl, _, hcp⟩ := hps j (.int .i64 c) (by rw [List.getElem?_map, hck]; rfl)
          have hbp := lt_of_cell hcp
          obtain ⟨x, b, off, hx, hxo, rfl, ⟨y0, y1, y2, y3, y4, y5⟩⟩ := h.at (k := r * C + c) (by omega)
          have hbl := lt_of_cell y0
          have hcap := h.cap
          have hgx : getV l (r * C + plc ps j) = x := by rw [hpj]; unfold getV; rw [hx]; rfl
          have hstep := vals_succ (fun i j => getV l (i * C + plc ps j)) M r j hjM
          simp only [hgx] at hstep
          have e1 : IntKind.i64.wrap ((r : Int) * (C : Int)) = ((r * C : Nat) : Int) := by rw [IntKind.wrap_i64, ← Int.natCast_mul]; omega
          have e2 : IntKind.i64.wrap (((r * C : Nat) : Int) + (c : Int)) = ((r * C + c : Nat) : Int) := by rw [IntKind.wrap_i64]; generalize r * C = z at *; omega
          have hKn : r * C + c < n := by omega
          have HS := Lib.hid hstep
          generalize hP : r * C = P at *
          generalize hK : P + c = K at *
          have HR := Lib.hid hrM
          clear hstep hck hr hp hx hgx hP hK hpj hrM
          go_wp2_with (at_builtin; refine wpList_append_own _ rfl _ _ _ rfl ((w.alloc (Obj.cells #[.int .i64 (R : Int), .int .i64 (C : Int), .slice (some ⟨b, off, none⟩) n cap] 31)).alloc (Obj.cells #[.int .i64 0, .int .i64 0, .slice none 0 0] 31)).heap.size 43 i0 (VV 0 0 0 ⟨#[]⟩ false 0) 6 56 Tryz.underlying29 hi0 hz0 hz1 hz2 rfl (by decide) _ (r * M + j) _ rfl (own_ext HV.out ((Ext.refl _).alloc _)) _ 1 1 x.cells rfl rfl (new_cells_at _ _ x.cells (by simp) rfl _) (fun u hu => vcells_one (l := [x]) u (by simpa [vcells] using hu)) (by have := HR.out; simp only [maxLen]; omega) (by have := HR.out; omega) (by simp; omega) ?_; intro v4 w4 ho4 hg4 _)
          have hx4 := ext_grownN (hx0.alloc _) (own_ext HV.out ((Ext.refl _).alloc _)) hg4
          refine ⟨⟨j + 1, by omega, by go_num, ?_, hx4⟩, by simp [intOf]; omega⟩
          show World.ownsRow _ _ _ _ _ _ _
          rw [← Nat.add_assoc, HS.out, vcells_append]
          simpa [vcells] using ho4
        · obtain rfl : j = M := by omega
          go_wp2_with fail
          refine ⟨⟨r + 1, by omega, by go_num, ?_, hx0⟩, by simp [intOf]; omega⟩
          show World.ownsRow _ _ _ _ _ _ _
          rw [show (r + 1) * j = r * j + j by rw [Nat.add_mul, Nat.one_mul]]
          exact HV.out
    · obtain rfl : R = r := by omega
      obtain ⟨os, d, rfl⟩ := hxr.more
      clear hxr
      have HW2 := HW.out
      rw [HN.out] at HW2
      obtain ⟨D, cc, rfl, hD⟩ := own_arrN (n := N) (w := ((w.alloc (Obj.cells #[.int .i64 (R : Int), .int .i64 (C : Int), .slice (A) n cap] 31)).alloc (Obj.cells #[.int .i64 0, .int .i64 0, .slice none 0 0] 31))) (X := ((w.alloc (Obj.cells #[.int .i64 (R : Int), .int .i64 (C : Int), .slice (A) n cap] 31)).alloc (Obj.cells #[.int .i64 0, .int .i64 0, .slice none 0 0] 31))) HW2 (Nat.le_refl _) (by omega) HO.out
      clear HW HW2
      go_wp2_with (go_at_call 48; (with_reducible refine (made_any _ _ _ _ _ _).mono ?_); rintro e w' ⟨rfl, hb⟩; have hDr := Rd.ext hD.rd hb; obtain ⟨os6, d6, rfl⟩ := hb.more; clear hb)
      exact bodyPost_ret (v := AV R M (.slice D N cc)) (by simp [results, Tryz.results83, go_sem]) rfl ⟨D, N, cc, rfl, ⟨(by (try simp only [more_more] at hDr); (try simp only [drew_more] at hDr); (try simp only [more_drew] at hDr); (try simp only [Array.append_assoc] at hDr); exact Rd.swap hDr (by first | (simp; done) | (simp; omega) | omega) (by first | (simp; done) | (simp; omega) | omega) (by first | (simp; done) | (simp; omega) | omega)), hD.len, hD.cap, hD.small, hD.ok⟩, by with_reducible repeat (first | exact Ext.refl _ | apply Ext.drew | apply Ext.alloc | apply Ext.more_)⟩
end Go.Proofs.YtmjmijjbijlhfaaGreatDoor
namespace Go.Proofs.YtmjmijjbijlhfaaGreatDoor
open Go.RowKit NM
theorem colsOf_pl (a : NA) (A : Option Addr) (n cap : Nat) (ps : List Nat) (B : Option Addr) (cb : Nat) (w : World) (h : ArrIn w A n cap a.l) (hr : a.right) (hps : Rd 0 w B (i6 ps)) (hcb : ps.length ≤ cb) (hp : PlOk ps a.C) :
    Calls Tryz.prog 83 #[AV a.R a.C (.slice A n cap), .slice B ps.length cb] w fun e w' => ResA w (colsN a ps) e w' := by
  obtain ⟨r1, r2, r3, r4, r5⟩ := rightA_nat.1 hr
  exact colsOf_any a.R a.C a.l A n cap ps B cb w h hr hps hcb hp.lt (Nat.le_trans (Nat.mul_le_mul_left _ hp.le) r3) (Nat.le_trans hp.le (Nat.le_trans (Nat.le_mul_of_pos_left a.C r1) r3))
end Go.Proofs.YtmjmijjbijlhfaaGreatDoor
namespace Go.Proofs.YtmjmijjbijlhfaaGreatDoor
open Go.RowKit NM
theorem rbad_res (f : Int) (hf : 1 ≤ f ∧ f ≤ 9) (w : World) : Calls Tryz.prog 21 #[.int .i64 f] w fun e w' => ResA w (aloneO f) e w' := by
  refine (refBad_any f w).mono ?_
  rintro e w' ⟨h1, h2⟩
  have hb : bad_ f = badV f := by unfold bad_ badF; rw [if_neg (by omega)]
  refine ArrO.res (x := aloneO f) ?_ (by simp [aloneO, oneA]) (fun y hy => by rw [show y = bad_ f by simpa [aloneO, oneA] using hy]; exact ok_bad f) h2
  show ArrO w.heap.size w' e 1 1 [bad_ f]
  rw [hb]; exact h1
end Go.Proofs.YtmjmijjbijlhfaaGreatDoor
namespace Go.Proofs.YtmjmijjbijlhfaaGreatDoor
open Go.RowKit NM
theorem maskF_append : ∀ (l l' : List Val), maskF (l ++ l') = if maskF l ≠ 0 then maskF l else maskF l'
  | [], l' => by simp [maskF]
  | v :: l, l' => by
    show (if (truthO v).2 ≠ 0 then (truthO v).2 else maskF (l ++ l')) = if (if (truthO v).2 ≠ 0 then (truthO v).2 else maskF l) ≠ 0 then (if (truthO v).2 ≠ 0 then (truthO v).2 else maskF l) else maskF l'
    by_cases h : (truthO v).2 ≠ 0
    · rw [if_pos h, if_pos h, if_pos h]
    · rw [if_neg h, if_neg h, maskF_append l l']
theorem maskP_append : ∀ (l l' : List Val) (k : Nat), maskP (l ++ l') k = maskP l k ++ maskP l' (k + l.length)
  | [], l', k => by simp [maskP]
  | v :: l, l', k => by
    show (if (truthO v).1 then k :: maskP (l ++ l') (k + 1) else maskP (l ++ l') (k + 1)) = (if (truthO v).1 then k :: maskP l (k + 1) else maskP l (k + 1)) ++ maskP l' (k + (l.length + 1))
    rw [maskP_append l l' (k + 1), show k + 1 + l.length = k + (l.length + 1) by omega]
    split
    · rfl
    · rfl
theorem mask_step {l : List Val} {k : Nat} {v : Val} (hv : l[k]? = some v) : maskF (l.take (k + 1)) = (if maskF (l.take k) ≠ 0 then maskF (l.take k) else (truthO v).2) ∧ maskP (l.take (k + 1)) 0 = maskP (l.take k) 0 ++ (if (truthO v).1 then [k] else []) := by
  have hk := (List.getElem?_eq_some_iff.1 hv).1
  have e : l.take (k + 1) = l.take k ++ [v] := by rw [List.take_add_one, hv]; rfl
  have hl : (l.take k).length = k := by rw [List.length_take]; omega
  rw [e, maskF_append, maskP_append, hl, Nat.zero_add]
  constructor
  · congr 1
    show (if (truthO v).2 ≠ 0 then (truthO v).2 else 0) = _
    split
    · rfl
    · rename_i h; have : (truthO v).2 = 0 := by simpa using h
      exact this.symm
  · congr 1
theorem maskF_first {l : List Val} {k : Nat} {v : Val} (hv : l[k]? = some v) (h0 : maskF (l.take k) = 0) (h1 : (truthO v).2 ≠ 0) : maskF l = (truthO v).2 := by
  have h2 := (mask_step hv).1
  rw [h0, if_neg (by simp)] at h2
  conv => lhs; rw [← List.take_append_drop (k + 1) l]
  rw [maskF_append, h2, if_pos h1]
theorem maskP_lt : ∀ {l : List Val} {k i : Nat}, i ∈ maskP l k → k ≤ i ∧ i < k + l.length
  | [], k, i, h => by simp [maskP] at h
  | v :: l, k, i, h => by
    have h' : i ∈ (if (truthO v).1 then k :: maskP l (k + 1) else maskP l (k + 1)) := h
    rw [List.length_cons]
    split at h'
    · rcases List.mem_cons.1 h' with rfl | h'
      · omega
      · have := maskP_lt h'; omega
    · have := maskP_lt h'; omega
theorem maskP_length : ∀ (l : List Val) (k : Nat), (maskP l k).length ≤ l.length
  | [], k => Nat.le_refl _
  | v :: l, k => by
    show (if (truthO v).1 then k :: maskP l (k + 1) else maskP l (k + 1)).length ≤ l.length + 1
    have := maskP_length l (k + 1)
    split
    · rw [List.length_cons]; omega
    · omega
/-- A column, a row of truths. -/
def truV (b : Bool) : Val := ⟨3, 0, 0, ⟨#[]⟩, b, 0⟩
theorem truV_right (b : Bool) : (truV b).right := by cases b <;> rfl
theorem truthO_truV (b : Bool) : truthO (truV b) = (b, 0) := rfl
theorem maskF_tru (f : Nat → Bool) : ∀ n, maskF ((List.range n).map fun i => truV (f i)) = 0
  | 0 => rfl
  | n + 1 => by rw [List.range_succ, List.map_append, maskF_append, maskF_tru f n]; rfl
theorem maskP_tru (f : Nat → Bool) : ∀ n, maskP ((List.range n).map fun i => truV (f i)) 0 = (List.range n).filter f
  | 0 => rfl
  | n + 1 => by
    rw [List.range_succ, List.map_append, maskP_append, maskP_tru f n, List.filter_append]
    congr 1
    simp only [List.map_cons, List.map_nil, List.length_map, List.length_range, Nat.zero_add, maskP, truthO_truV]
    cases hf : f n <;> simp [hf]
/-- The rows that are true, and those that are not. -/
def maskN (R : Nat) (f : Nat → Bool) : NA := ⟨R, 1, (List.range R).map fun i => truV (f i)⟩
theorem filter_mask {a c : NA} (ha : a.right) (f : Nat → Bool) : filterT a (maskN a.R f) c false = if (List.range a.R).filter f = [] then aloneO 9 else rowsN a ((List.range a.R).filter f) := by
  unfold filterT maskN
  rw [if_neg (by simp)]
  simp only [maskF_tru, maskP_tru]
  rw [if_neg (by simp)]
  by_cases h : (List.range a.R).filter f = []
  · rw [if_pos h, if_pos h, if_neg (by simp)]
  · rw [if_neg h, if_neg h, if_pos (by simp)]
theorem filterT_bad {a b c : NA} {g br : Bool} (h1 : (decide (b.C = 1) && decide (b.R = a.R)) = br) (h2 : (!br && (decide (b.R ≠ 1) || decide (b.C ≠ a.C))) = true) : filterT a b c g = aloneO 2 := by
  unfold filterT
  rw [if_pos]
  subst h1
  simp only [Bool.and_eq_true, Bool.not_eq_true', Bool.or_eq_true, decide_eq_true_eq, Bool.and_eq_false_iff, decide_eq_false_iff_not] at h2
  refine ⟨fun e => ?_, h2.2⟩
  rcases h2.1 with h | h
  · exact h e.1
  · exact h e.2
theorem filterT_ok {a b c : NA} {g br : Bool} (h1 : (decide (b.C = 1) && decide (b.R = a.R)) = br) (h2 : (!br && (decide (b.R ≠ 1) || decide (b.C ≠ a.C))) = false) :
    filterT a b c g = if maskF b.l ≠ 0 then aloneO (maskF b.l) else if maskP b.l 0 = [] then (if g then c else aloneO 9) else if br = true then rowsN a (maskP b.l 0) else colsN a (maskP b.l 0) := by
  have e3 : (br = true) = (b.C = 1 ∧ b.R = a.R) := by rw [← h1]; simp
  unfold filterT
  rw [if_neg]
  · simp only [e3]
  · rintro ⟨e1, e2⟩
    rw [← e3] at e1
    have e1 : br = false := by simpa using e1
    rw [e1] at h2
    rcases e2 with e2 | e2 <;> simp [e2] at h2
end Go.Proofs.YtmjmijjbijlhfaaGreatDoor
namespace Go.Proofs.YtmjmijjbijlhfaaGreatDoor
open Go.RowKit NM
set_option maxHeartbeats 1000000 in
theorem copied_any (x : NA) (A : Option Addr) (n cap : Nat) (w : World) (h : ArrIn w A n cap x.l) (hr : x.right) :
    Calls Tryz.prog 87 #[AV x.R x.C (.slice A n cap)] w fun e w' => ResA w x e w' := by
  obtain ⟨r1, r2, r3, r4, r5⟩ := rightA_nat.1 hr
  have hln := h.len
  have hn1 : 0 < n := by rw [← hln, r4]; exact Nat.mul_pos r1 r2
  have hcl := fun W (hW : ArrIn W A n cap x.l) => clone_any A n cap x.l W hW hn1 (by omega)
  have hao := h.ok
  have hb16 : n ≤ 4096 := by omega
  have HA := Lib.hid h
  obtain ⟨R, C, l⟩ := x
  simp only at hcl hao hln
  clear r1 r2 r3 r4 r5 hr h
  go_enter Tryz.func87, Tryz.ntmps87
  go_upto_region 1 with fail
  refine wp_plan (S := Ext _) [(0, 0), (1, 0), (2, 0), (3, 0), (4, 0), (5, 0), (6, 1), (7, 1), (8, 2)] [8] (by kernel_rfl) (by kernel_rfl) (by kernel_rfl) (fun _ _ d _ _ h => by cases d <;> exact h) (Ext.drew (Ext.refl _)) ?_
  iterate 6 ((refine wpPl_read (v := ?_) rfl ?_ (fun _ h => ?_) ?_; rotate_left 1; rfl; (obtain ⟨_, _, rfl⟩ := h.more; go_simp; try rfl)); try simp only [Act.put, zqA, zqB, zqC])
  (refine wpPl_eff rfl ?_ (fun K hK => ?_); rfl; go_simp; refine (hcl _ (HA.out.ext (by with_reducible repeat (first | exact Ext.refl _ | apply Ext.drew | apply Ext.alloc | apply Ext.more_)))).mono ?_; rintro e w' ⟨D, cc, rfl, hDr, hcc, hb⟩; obtain ⟨os5, d5, rfl⟩ := hb.more; clear hb; refine hK _ _ ?_ ?_; (repeat (first | (with_reducible (first | exact Ext.refl _ | exact ext_d _ _ _ _ | exact ext_app _ _ _ _ _ | exact ext_app2 _ _ _ _ _ _ | exact ext_app3 _ _ _ _ _ _ _ | exact ext_app4 _ _ _ _ _ _ _ _ | exact ext_app5 _ _ _ _ _ _ _ _ _)) | ((with_reducible refine ext_suffix ⟨_, ?_⟩); (try simp only [Array.append_assoc]); rfl) | (with_reducible (first | apply Ext.drew | apply Ext.alloc | apply Ext.more_)) | apply Ext.drew | apply Ext.alloc | apply Ext.more_)))
  try simp only [Act.put, zqA, zqB, zqC]
  (refine wpPl_eff rfl ?_ (fun K hK => ?_); rfl; go_simp; refine (made_any _ _ _ _ _ _).mono ?_; rintro e w' ⟨rfl, hb⟩; have hDr := Rd.ext hDr hb; obtain ⟨os6, d6, rfl⟩ := hb.more; clear hb; refine hK _ _ ?_ ?_; (repeat (first | (with_reducible (first | exact Ext.refl _ | exact ext_d _ _ _ _ | exact ext_app _ _ _ _ _ | exact ext_app2 _ _ _ _ _ _ | exact ext_app3 _ _ _ _ _ _ _ | exact ext_app4 _ _ _ _ _ _ _ _ | exact ext_app5 _ _ _ _ _ _ _ _ _)) | ((with_reducible refine ext_suffix ⟨_, ?_⟩); (try simp only [Array.append_assoc]); rfl) | (with_reducible (first | apply Ext.drew | apply Ext.alloc | apply Ext.more_)) | apply Ext.drew | apply Ext.alloc | apply Ext.more_)))
  try simp only [Act.put, zqA, zqB, zqC]
  (refine wpPl_tail rfl ?_ (fun K hK => ?_); rfl; go_simp; refine hK _ _ ?_)
  try simp only [Act.put]
  refine wpPl_nil ?_
  go_wp2_with fail
  exact bodyPost_ret (v := AV R C (.slice D n cc)) (by simp [results, Tryz.results87, go_sem]) rfl ⟨D, n, cc, rfl, ⟨(by (try simp only [more_more] at hDr); (try simp only [drew_more] at hDr); (try simp only [more_drew] at hDr); (try simp only [Array.append_assoc] at hDr); exact Rd.swap hDr (by first | (simp; done) | (simp; omega) | omega) (by first | (simp; done) | (simp; omega) | omega) (by first | (simp; done) | (simp; omega) | omega)), hln, hcc, by omega, hao⟩, by with_reducible repeat (first | exact Ext.refl _ | apply Ext.drew | apply Ext.alloc | apply Ext.more_)⟩
end Go.Proofs.YtmjmijjbijlhfaaGreatDoor
namespace Go.Proofs.YtmjmijjbijlhfaaGreatDoor
open Go.RowKit NM
/-- As many values as places. -/
def PlOkE (l : List Val) (h : Nat) : Prop := l.length = h
set_option maxHeartbeats 8000000 in
theorem gfilter_any (A : Option Addr) (n cap : Nat) (xs : List Ar) (w : World) (h : ArgsIn w A n cap xs) (h2 : 2 ≤ n) :
    Calls Tryz.prog 39 #[.slice A n cap] w fun e w' => ResA w (filterO xs) e w' := by
  obtain ⟨R, C, l, b1, off1, n1, cap1, b, off, x0, ha, rfl, ⟨v0, v1, v2⟩, _, hc1, _, _, _, hbl, _, _, _, harr, _⟩ := h.first (k := 0) (by omega)
  obtain ⟨R2, C2, l2, b2, off2, n2, cap2, b', off', x2, ha2, hbo, ⟨u0, u1, u2⟩, hn2, hc2, _, _, _, _, hb2, _, _, harr2, _⟩ := h.first (k := 1) (by omega)
  simp only [Option.some.injEq, Addr.mk.injEq, and_true] at hbo
  obtain ⟨rfl, rfl⟩ := hbo
  have hxr : NA.right ⟨R, C, l⟩ := (h.all _ (List.mem_of_getElem? ha)).right
  have hxr2 : NA.right ⟨R2, C2, l2⟩ := (h.all _ (List.mem_of_getElem? ha2)).right
  have hcap := h.cap
  have hsm := h.small
  simp only [Nat.zero_mul, Nat.add_zero, Nat.one_mul] at v0 v1 v2 u0 u1 u2
  have hx0 : argN xs 0 = ⟨R, C, l⟩ := by unfold argN; rw [ha]
  have hx1 : argN xs 1 = ⟨R2, C2, l2⟩ := by unfold argN; rw [ha2]
  obtain ⟨r1, r2, r3, r4, r5⟩ := rightA_nat.1 hxr
  obtain ⟨s1, s2, s3, s4, s5⟩ := rightA_nat.1 hxr2
  simp only at r1 r2 r3 r4 s1 s2 s3 s4 s5
  have hln2 := harr2.len
  have hn24 : n2 ≤ 4096 := by omega
  unfold filterO
  rw [hx0, hx1]
  have gv := fun W (hW : ArgsIn W (some ⟨b, off, none⟩) n cap xs) => given_any _ n cap xs 2 W hW _ rfl
  have H := Lib.hid h
  have HA := Lib.hid harr
  have HA2 := Lib.hid harr2
  obtain ⟨g, hg⟩ : ∃ g, givenB xs 2 = g := ⟨_, rfl⟩
  rw [hg]
  have HG := Lib.hid hg
  rw [hg] at gv
  simp only [show ((2 : Nat) : Int) = 2 from rfl] at gv
  obtain ⟨X, hX⟩ : ∃ X, filterT ⟨R, C, l⟩ ⟨R2, C2, l2⟩ (argN xs 2) g = X := ⟨_, rfl⟩
  rw [hX]
  have HX := Lib.hid hX
  clear h harr harr2 ha ha2 hx0 hx1 hX r4 hg
  go_enter Tryz.func39, Tryz.ntmps39
  go_upto_region 1 with fail
  go_cut [3, 4] (fun s3 s4 wx => ∃ pa pb : Nat, s3 = .pointer (some ⟨pa, 0, none⟩) ∧ s4 = .pointer (some ⟨pb, 0, none⟩) ∧ Ext w wx ∧ w.heap.size + 3 ≤ wx.heap.size ∧ wx.cell? ⟨pa, 0, none⟩ = some (.int .i64 (R : Int)) ∧ wx.cell? ⟨pa, 1, none⟩ = some (.int .i64 (C : Int)) ∧ wx.cell? ⟨pa, 2, none⟩ = some (.slice (some ⟨b1, off1, none⟩) n1 cap1) ∧ wx.cell? ⟨pb, 0, none⟩ = some (.int .i64 (R2 : Int)) ∧ wx.cell? ⟨pb, 1, none⟩ = some (.int .i64 (C2 : Int)) ∧ wx.cell? ⟨pb, 2, none⟩ = some (.slice (some ⟨b2, off2, none⟩) n2 cap2) ∧ Hid (∃ os d, wx = more (w.alloc (Obj.cells #[.int .i64 0, .int .i64 0, .slice none 0 0] 31)) os d))
  case first =>
    go_region
    · go_wp2_with fail
      go_meet
      refine ⟨_, _, rfl, rfl, by with_reducible repeat (first | exact Ext.refl _ | apply Ext.drew | apply Ext.alloc | apply Ext.more_), by simp, ?_, ?_, ?_, ?_, ?_, ?_, (show Ext (w.alloc (Obj.cells #[.int .i64 0, .int .i64 0, .slice none 0 0] 31)) _ from (by with_reducible repeat (first | exact Ext.refl _ | apply Ext.drew | apply Ext.alloc | apply Ext.more_))).more⟩
      all_goals (simp [go_sem]; done)
    · go_wp2_with fail
      go_meet
      refine ⟨_, _, rfl, rfl, by with_reducible repeat (first | exact Ext.refl _ | apply Ext.drew | apply Ext.alloc | apply Ext.more_), by simp, ?_, ?_, ?_, ?_, ?_, ?_, (show Ext (w.alloc (Obj.cells #[.int .i64 0, .int .i64 0, .slice none 0 0] 31)) _ from (by with_reducible repeat (first | exact Ext.refl _ | apply Ext.drew | apply Ext.alloc | apply Ext.more_))).more⟩
      all_goals (simp [go_sem]; done)
  case rest =>
  obtain ⟨pa, pb, rfl, rfl, hx, hsz, c0, c1, c2, e0, e1, e2, HU⟩ := hcut
  have la := lt_of_cell c0
  have lb := lt_of_cell e0
  replace v0 := hx.cell_some v0
  clear v0 v1 v2 u0 u1 u2
  obtain ⟨br, hbr⟩ : ∃ br, (decide (C2 = 1) && decide (R2 = R)) = br := ⟨_, rfl⟩
  have HBR := Lib.hid hbr
  go_upto_region 2 with fail
  go_cut [5] (fun s5 wx => s5 = .bool br ∧ wx = wc)
  case first =>
    by_cases q1 : C2 = 1
    · have q1' : ((C2 : Int) == 1) = true := by simp; omega
      by_cases q2 : R2 = R
      · have q2' : ((R2 : Int) == (R : Int)) = true := by simp; omega
        obtain rfl : true = br := by rw [← hbr]; simp [q1, q2]
        clear hbr q1 q2
        go_wp2_with fail
        go_meet
        exact ⟨rfl, rfl⟩
      · have q2' : ((R2 : Int) == (R : Int)) = false := by simp; omega
        obtain rfl : false = br := by rw [← hbr]; simp [q2]
        clear hbr q1 q2
        go_wp2_with fail
        go_meet
        exact ⟨rfl, rfl⟩
    · have q1' : ((C2 : Int) == 1) = false := by simp; omega
      obtain rfl : false = br := by rw [← hbr]; simp [q1]
      clear hbr q1
      go_wp2_with fail
      go_meet
      exact ⟨rfl, rfl⟩
  case rest =>
  obtain ⟨rfl, rfl⟩ := hcut
  clear hbr
  obtain ⟨bad, hbad⟩ : ∃ bad, (!br && (decide (R2 ≠ 1) || decide (C2 ≠ C))) = bad := ⟨_, rfl⟩
  have HBAD := Lib.hid hbad
  go_upto_region 3 with fail
  go_cut [40] (fun s40 wx => s40 = .bool bad ∧ wx = wc)
  case first =>
    cases br with
    | true =>
      obtain rfl : false = bad := by rw [← hbad]; simp
      clear hbad
      go_wp2_with fail
      go_meet
      exact ⟨rfl, rfl⟩
    | false =>
      by_cases q1 : R2 = 1
      · have q1' : ((R2 : Int) != 1) = false := by simp; omega
        by_cases q2 : C2 = C
        · have q2' : ((C2 : Int) != (C : Int)) = false := by simp; omega
          obtain rfl : false = bad := by rw [← hbad]; simp [q1, q2]
          clear hbad q1 q2
          go_wp2_with fail
          go_meet
          exact ⟨rfl, rfl⟩
        · have q2' : ((C2 : Int) != (C : Int)) = true := by simp; omega
          obtain rfl : true = bad := by rw [← hbad]; simp [q2]
          clear hbad q1 q2
          go_wp2_with fail
          go_meet
          exact ⟨rfl, rfl⟩
      · have q1' : ((R2 : Int) != 1) = true := by simp; omega
        obtain rfl : true = bad := by rw [← hbad]; simp [q1]
        clear hbad q1
        go_wp2_with fail
        go_meet
        exact ⟨rfl, rfl⟩
  case rest =>
  obtain ⟨rfl, rfl⟩ := hcut
  clear hbad
  cases bad with
  | true =>
    obtain rfl : aloneO 2 = X := by rw [← HX.out]; exact (filterT_bad (a := ⟨R, C, l⟩) (b := ⟨R2, C2, l2⟩) HBR.out HBAD.out).symm
    go_wp2_with ((go_at_call 29; (with_reducible refine (galone_any _ _).mono ?_); rintro e w' ⟨D, m, cc, rfl, hD, hb⟩; obtain ⟨os5, d5, rfl⟩ := hb.more; clear hb; have hDr := hD.rd); obtain ⟨osu, du, rfl⟩ := HU.out)
    exact bodyPost_ret (v := AV (aloneO 2).R (aloneO 2).C (.slice D m cc)) (by simp [results, Tryz.results39, go_sem]) rfl ⟨D, m, cc, rfl, ⟨(by (try simp only [more_alloc, more_more] at hDr); (try simp only [more_alloc, more_more]); (try simp only [drew_more] at hDr); (try simp only [more_drew] at hDr); (try simp only [Array.append_assoc] at hDr); (try simp only [Array.append_assoc]); exact Rd.swap hDr (by first | (simp; done) | (simp; omega) | omega) (by first | (simp; done) | (simp; omega) | omega) (by first | (simp; done) | (simp; omega) | omega)), hD.len, hD.cap, hD.small, hD.ok⟩, by with_reducible repeat (first | exact Ext.refl _ | apply Ext.drew | apply Ext.alloc | apply Ext.more_)⟩
  | false =>
  have HX2 : Hid ((if maskF l2 ≠ 0 then aloneO (maskF l2) else if maskP l2 0 = [] then (if g then argN xs 2 else aloneO 9) else if br = true then rowsN ⟨R, C, l⟩ (maskP l2 0) else colsN ⟨R, C, l⟩ (maskP l2 0)) = X) := by
    show _ = _
    rw [← HX.out]; exact (filterT_ok (a := ⟨R, C, l⟩) (b := ⟨R2, C2, l2⟩) HBR.out HBAD.out).symm
  have hpl : (br = true → PlOkE l2 R) ∧ (br = false → PlOkE l2 C) := by
    have e1 := HBR.out
    have e2 := HBAD.out
    constructor
    · intro hb
      rw [hb] at e1
      simp only [Bool.and_eq_true, decide_eq_true_eq] at e1
      unfold PlOkE
      rw [s4, e1.1, e1.2, Nat.mul_one]
    · intro hb
      rw [hb] at e2
      simp only [Bool.not_false, Bool.true_and, Bool.or_eq_false_iff, decide_eq_false_iff_not, ne_eq, Decidable.not_not] at e2
      unfold PlOkE
      rw [s4, e2.1, e2.2, Nat.one_mul]
  have HPL := Lib.hid hpl
  clear HX HBR HBAD hpl
  obtain ⟨i0, hi0, hz0, hz1, hz2⟩ := info_parts info_int_
  go_wp2_with fail
  go_loopw [6, 45] (fun v i wr => ∃ (k : Nat) (ps : List Nat), k ≤ n2 ∧ i = .int .i64 (k : Int) ∧ ps.length ≤ k ∧ Hid (maskF (l2.take k) = 0) ∧ Hid (ps = maskP (l2.take k) 0) ∧ Hid (wr.ownsRow wc.heap.size 3 1 v ps.length (i6 ps)) ∧ Ext wc wr) (fun _ i _ => n2 - (intOf i).toNat)
  case atStart => exact ⟨0, [], Nat.zero_le _, rfl, Nat.le_refl _, rfl, rfl, World.ownsRow_nil _ _ _ _, Ext.refl _⟩
  case round =>
    obtain ⟨k, ps, hk, rfl, hpk, HF, HP, HO, hxr⟩ := hrel
    have hsr := hxr.size
    have hxr0 := hxr
    obtain ⟨os, d, rfl⟩ := hxr.more
    clear hxr
    by_cases hlt : k < n2
    · have hlt' : (k : Int) < (n2 : Int) := by omega
      obtain ⟨x, bq, oq, hxk, hxo, hbq, hat⟩ := HA2.out.at hlt
      simp only [Option.some.injEq, Addr.mk.injEq, and_true] at hbq
      obtain ⟨rfl, rfl⟩ := hbq
      obtain ⟨y0, y1, y2, y3, y4, y5⟩ := hat.ext hx
      have hb2' := lt_of_cell y0
      have hxR : x.right := s5 x (List.mem_of_getElem? hxk)
      have ht := fun W => toTruth_any x W hxR
      obtain ⟨m1, m2⟩ := mask_step hxk
      rw [HF.out, if_neg (by simp)] at m1
      rw [← HP.out] at m2
      have hmf0 := maskF_first hxk HF.out
      obtain ⟨⟨tb, tf⟩, hxt⟩ : ∃ p, truthO x = p := ⟨_, rfl⟩
      rw [hxt] at m1 m2 ht hmf0
      simp only at m1 m2 hmf0
      clear hxt
      by_cases hf : tf = 0
      · have M1 := Lib.hid (m1.trans hf)
        cases hb : tb with
        | true =>
          rw [hb, if_pos rfl] at m2
          have M2 := Lib.hid m2
          have ht2 : ∀ W, Calls Tryz.prog 85 #[VV x.kind x.mant x.exp x.text x.truth x.fault] W fun e w' => e = .returned (.tuple #[.bool true, .int .i64 0]) ∧ Ext W w' := fun W => by have := ht W; unfold bfV at this; rw [hb, hf] at this; exact this
          clear ht m1 m2 hf hb hxk hxo hat HX2 HPL hmf0
          go_wp2_with (first | (go_at_call 85; (with_reducible refine (ht2 _).mono ?_); rintro e w' ⟨rfl, hb⟩; obtain ⟨ost, dt, rfl⟩ := hb.more; clear hb) | (at_builtin; refine wpList_append_own _ rfl _ _ _ rfl wc.heap.size 3 i0 (.int .i64 0) 1 8 Tryz.underlying37 hi0 hz0 hz1 hz2 rfl (by decide) _ ps.length (i6 ps) rfl (own_ext HO.out (by with_reducible repeat (first | exact Ext.refl _ | exact ext_d _ _ _ _ | exact ext_app _ _ _ _ _ | exact ext_app2 _ _ _ _ _ _ | exact ext_app3 _ _ _ _ _ _ _ | apply Ext.drew | apply Ext.alloc | apply Ext.more_))) _ 1 1 [.int .i64 k] rfl rfl (Rd.one_ _ _ (by first | rfl | (simp; done))).add (one_i6 [k]) (by simp [maxLen]; omega) (by omega) (by simp; omega) ?_; intro v4 w4 ho4 hg4 _))
          have hx4 := ext_grown (X := wc) (by with_reducible repeat (first | exact Ext.refl _ | apply Ext.drew | apply Ext.alloc | apply Ext.more_)) (own_ext HO.out (by with_reducible repeat (first | exact Ext.refl _ | exact ext_d _ _ _ _ | exact ext_app _ _ _ _ _ | exact ext_app2 _ _ _ _ _ _ | exact ext_app3 _ _ _ _ _ _ _ | apply Ext.drew | apply Ext.alloc | apply Ext.more_))) hg4
          refine ⟨⟨k + 1, ps ++ [k], by omega, by go_num, by simp; omega, M1, Lib.hid M2.out.symm, ?_, hx4⟩, by simp [intOf]; omega⟩
          show World.ownsRow _ _ _ _ _ _ _
          unfold i6; rw [List.map_append, List.length_append]
          exact ho4
        | false =>
          rw [hb, if_neg (by simp), List.append_nil] at m2
          have M2 := Lib.hid m2
          have ht2 : ∀ W, Calls Tryz.prog 85 #[VV x.kind x.mant x.exp x.text x.truth x.fault] W fun e w' => e = .returned (.tuple #[.bool false, .int .i64 0]) ∧ Ext W w' := fun W => by have := ht W; unfold bfV at this; rw [hb, hf] at this; exact this
          clear ht m1 m2 hf hb hxk hxo hat HX2 HPL hmf0
          go_wp2_with (go_at_call 85; (with_reducible refine (ht2 _).mono ?_); rintro e w' ⟨rfl, hb⟩; obtain ⟨ost, dt, rfl⟩ := hb.more; clear hb)
          exact ⟨⟨k + 1, ps, by omega, by go_num, by omega, M1, Lib.hid M2.out.symm, own_ext HO.out (by with_reducible repeat (first | exact Ext.refl _ | exact ext_d _ _ _ _ | exact ext_app _ _ _ _ _ | exact ext_app2 _ _ _ _ _ _ | exact ext_app3 _ _ _ _ _ _ _ | apply Ext.drew | apply Ext.alloc | apply Ext.more_)), by with_reducible repeat (first | exact Ext.refl _ | apply Ext.drew | apply Ext.alloc | apply Ext.more_)⟩, by simp [intOf]; omega⟩
      · have hmf : maskF l2 = tf := hmf0 hf
        obtain rfl : aloneO tf = X := by rw [← HX2.out, hmf, if_pos hf]
        have hf' : (tf != 0) = true := by simpa using hf
        clear m1 m2 hf hxk hxo hat HX2 HPL hmf hmf0
        go_wp2_with (first | (go_at_call 85; (with_reducible refine (ht _).mono ?_); rintro e w' ⟨rfl, hb⟩; obtain ⟨ost, dt, rfl⟩ := hb.more; clear hb) | ((go_at_call 29; (with_reducible refine (galone_any _ _).mono ?_); rintro e w' ⟨D, m, cc, rfl, hD, hb⟩; obtain ⟨os5, d5, rfl⟩ := hb.more; clear hb; have hDr := hD.rd); obtain ⟨osu, du, rfl⟩ := HU.out))
        exact bodyPost_ret (v := AV (aloneO tf).R (aloneO tf).C (.slice D m cc)) (by simp [results, Tryz.results39, go_sem]) rfl ⟨D, m, cc, rfl, ⟨(by (try simp only [more_alloc, more_more] at hDr); (try simp only [more_alloc, more_more]); (try simp only [drew_more] at hDr); (try simp only [more_drew] at hDr); (try simp only [Array.append_assoc] at hDr); (try simp only [Array.append_assoc]); exact Rd.swap hDr (by first | (simp; done) | (simp; omega) | omega) (by first | (simp; done) | (simp; omega) | omega) (by first | (simp; done) | (simp; omega) | omega)), hD.len, hD.cap, hD.small, hD.ok⟩, by with_reducible repeat (first | exact Ext.refl _ | apply Ext.drew | apply Ext.alloc | apply Ext.more_)⟩
    · obtain rfl : k = n2 := by omega
      have hT : l2.take k = l2 := List.take_of_length_le (by omega)
      have hF0 := HF.out
      have hP0 := HP.out
      rw [hT] at hF0 hP0
      have HX3 := HX2.out
      rw [hF0, if_neg (by simp), ← hP0] at HX3
      have HX3 := Lib.hid HX3
      clear HX2 HF hT hF0
      obtain ⟨B1, cb1, rfl, hB1, hcb1⟩ := Rd.of_own HO.out
      have HB1 := Lib.hid (Rd.mono hB1 (Nat.zero_le _))
      have HLT := Lib.hid (fun i (hi : i ∈ ps) => by rw [hP0] at hi; exact maskP_lt hi)
      have HLE := Lib.hid (show ps.length ≤ l2.length by rw [hP0]; exact maskP_length _ _)
      clear hB1 HO HP hP0
      by_cases hps : ps = []
      · have l0 : ((ps.length : Int) == 0) = true := by rw [hps]; rfl
        have HX4 := HX3.out
        rw [if_pos hps] at HX4
        cases g with
        | true =>
          have hlt3 := given_lt H.out HG.out
          obtain ⟨R3, C3, l3, b3, off3, n3, cap3, b', off', x3, ha3, hbo, ⟨t0, t1, t2⟩, _, hc3, _, _, _, _, hb3, _, _, harr3, _⟩ := H.out.first (k := 2) hlt3
          simp only [Option.some.injEq, Addr.mk.injEq, and_true] at hbo
          obtain ⟨rfl, rfl⟩ := hbo
          simp only at t0 t1 t2
          replace t0 := hx.cell_some t0
          replace t1 := hx.cell_some t1
          replace t2 := hx.cell_some t2
          have lt0 := lt_of_cell t0
          have hxr3 : NA.right ⟨R3, C3, l3⟩ := (H.out.all _ (List.mem_of_getElem? ha3)).right
          have hco := fun W (hW : ArrIn W (some ⟨b3, off3, none⟩) n3 cap3 l3) => copied_any ⟨R3, C3, l3⟩ _ n3 cap3 W hW hxr3
          obtain rfl : (⟨R3, C3, l3⟩ : NA) = X := by rw [← HX4, if_pos rfl]; unfold argN; rw [ha3]
          have HA3 := Lib.hid (harr3.ext hx)
          clear HX3 HX4 hps HLT HLE HPL ha3 harr3 hxr3
          go_wp2_with (first | (go_at_call 86; (with_reducible refine (gv _ (H.out.ext (Ext.trans hx (by with_reducible repeat (first | exact Ext.refl _ | exact ext_d _ _ _ _ | exact ext_app _ _ _ _ _ | exact ext_app2 _ _ _ _ _ _ | exact ext_app3 _ _ _ _ _ _ _ | apply Ext.drew | apply Ext.alloc | apply Ext.more_))))).mono ?_); rintro e w' ⟨rfl, hb⟩; obtain ⟨osg, dg, rfl⟩ := hb.more; clear hb) | ((go_at_call 87; (with_reducible refine (hco _ (HA3.out.ext (by with_reducible repeat (first | exact Ext.refl _ | exact ext_d _ _ _ _ | exact ext_app _ _ _ _ _ | exact ext_app2 _ _ _ _ _ _ | exact ext_app3 _ _ _ _ _ _ _ | apply Ext.drew | apply Ext.alloc | apply Ext.more_)))).mono ?_); rintro e w' ⟨D, m, cc, rfl, hD, hb⟩; obtain ⟨os5, d5, rfl⟩ := hb.more; clear hb; have hDr := hD.rd); obtain ⟨osu, du, rfl⟩ := HU.out))
          exact bodyPost_ret (v := AV R3 C3 (.slice D m cc)) (by simp [results, Tryz.results39, go_sem]) rfl ⟨D, m, cc, rfl, ⟨(by (try simp only [more_alloc, more_more] at hDr); (try simp only [more_alloc, more_more]); (try simp only [drew_more] at hDr); (try simp only [more_drew] at hDr); (try simp only [Array.append_assoc] at hDr); (try simp only [Array.append_assoc]); exact Rd.swap hDr (by first | (simp; done) | (simp; omega) | omega) (by first | (simp; done) | (simp; omega) | omega) (by first | (simp; done) | (simp; omega) | omega)), hD.len, hD.cap, hD.small, hD.ok⟩, by with_reducible repeat (first | exact Ext.refl _ | apply Ext.drew | apply Ext.alloc | apply Ext.more_)⟩
        | false =>
          obtain rfl : aloneO 9 = X := by rw [← HX4]; rfl
          clear HX3 HX4 hps HLT HLE HPL
          go_wp2_with (first | (go_at_call 86; (with_reducible refine (gv _ (H.out.ext (Ext.trans hx (by with_reducible repeat (first | exact Ext.refl _ | exact ext_d _ _ _ _ | exact ext_app _ _ _ _ _ | exact ext_app2 _ _ _ _ _ _ | exact ext_app3 _ _ _ _ _ _ _ | apply Ext.drew | apply Ext.alloc | apply Ext.more_))))).mono ?_); rintro e w' ⟨rfl, hb⟩; obtain ⟨osg, dg, rfl⟩ := hb.more; clear hb) | ((go_at_call 29; (with_reducible refine (galone_any _ _).mono ?_); rintro e w' ⟨D, m, cc, rfl, hD, hb⟩; obtain ⟨os5, d5, rfl⟩ := hb.more; clear hb; have hDr := hD.rd); obtain ⟨osu, du, rfl⟩ := HU.out))
          exact bodyPost_ret (v := AV (aloneO 9).R (aloneO 9).C (.slice D m cc)) (by simp [results, Tryz.results39, go_sem]) rfl ⟨D, m, cc, rfl, ⟨(by (try simp only [more_alloc, more_more] at hDr); (try simp only [more_alloc, more_more]); (try simp only [drew_more] at hDr); (try simp only [more_drew] at hDr); (try simp only [Array.append_assoc] at hDr); (try simp only [Array.append_assoc]); exact Rd.swap hDr (by first | (simp; done) | (simp; omega) | omega) (by first | (simp; done) | (simp; omega) | omega) (by first | (simp; done) | (simp; omega) | omega)), hD.len, hD.cap, hD.small, hD.ok⟩, by with_reducible repeat (first | exact Ext.refl _ | apply Ext.drew | apply Ext.alloc | apply Ext.more_)⟩
      · have hpos : 1 ≤ ps.length := by
          cases ps with
          | nil => exact absurd rfl hps
          | cons _ _ => simp
        have l0 : ((ps.length : Int) == 0) = false := by simp; omega
        have HX4 := HX3.out
        rw [if_neg hps] at HX4
        cases br with
        | true =>
          have hXe : rowsN ⟨R, C, l⟩ ps = X := by rw [← HX4]; rfl
          have hPl : PlOk ps R := ⟨hpos, by have h1 := HPL.out.1 rfl; unfold PlOkE at h1; have := HLE.out; omega, fun i hi => by have h1 := HPL.out.1 rfl; unfold PlOkE at h1; have := HLT.out i hi; omega⟩
          have hr1 := fun W (hW : ArrIn W (some ⟨b1, off1, none⟩) n1 cap1 l) hB => rowsOf_pl ⟨R, C, l⟩ _ n1 cap1 ps B1 cb1 W hW hxr hB hcb1 hPl
          rw [hXe] at hr1
          have HR1 := Lib.hid hr1
          clear hXe hr1 HX3 HX4 hps HLT HLE HPL hPl hpos
          go_wp2_with (first | ((go_at_call 84; (with_reducible refine (HR1.out _ ((HA.out.ext hx).ext (by with_reducible repeat (first | exact Ext.refl _ | exact ext_d _ _ _ _ | exact ext_app _ _ _ _ _ | exact ext_app2 _ _ _ _ _ _ | exact ext_app3 _ _ _ _ _ _ _ | apply Ext.drew | apply Ext.alloc | apply Ext.more_))) (HB1.out.ext (by with_reducible repeat (first | exact Ext.refl _ | exact ext_d _ _ _ _ | exact ext_app _ _ _ _ _ | exact ext_app2 _ _ _ _ _ _ | exact ext_app3 _ _ _ _ _ _ _ | apply Ext.drew | apply Ext.alloc | apply Ext.more_)))).mono ?_); rintro e w' ⟨D, m, cc, rfl, hD, hb⟩; obtain ⟨os5, d5, rfl⟩ := hb.more; clear hb; have hDr := hD.rd); obtain ⟨osu, du, rfl⟩ := HU.out))
          exact bodyPost_ret (v := AV X.R X.C (.slice D m cc)) (by simp [results, Tryz.results39, go_sem]) rfl ⟨D, m, cc, rfl, ⟨(by (try simp only [more_alloc, more_more] at hDr); (try simp only [more_alloc, more_more]); (try simp only [drew_more] at hDr); (try simp only [more_drew] at hDr); (try simp only [Array.append_assoc] at hDr); (try simp only [Array.append_assoc]); exact Rd.swap hDr (by first | (simp; done) | (simp; omega) | omega) (by first | (simp; done) | (simp; omega) | omega) (by first | (simp; done) | (simp; omega) | omega)), hD.len, hD.cap, hD.small, hD.ok⟩, by with_reducible repeat (first | exact Ext.refl _ | apply Ext.drew | apply Ext.alloc | apply Ext.more_)⟩
        | false =>
          have hXe : colsN ⟨R, C, l⟩ ps = X := by rw [← HX4]; rfl
          have hPl : PlOk ps C := ⟨hpos, by have h1 := HPL.out.2 rfl; unfold PlOkE at h1; have := HLE.out; omega, fun i hi => by have h1 := HPL.out.2 rfl; unfold PlOkE at h1; have := HLT.out i hi; omega⟩
          have hr1 := fun W (hW : ArrIn W (some ⟨b1, off1, none⟩) n1 cap1 l) hB => colsOf_pl ⟨R, C, l⟩ _ n1 cap1 ps B1 cb1 W hW hxr hB hcb1 hPl
          rw [hXe] at hr1
          have HR1 := Lib.hid hr1
          clear hXe hr1 HX3 HX4 hps HLT HLE HPL hPl hpos
          go_wp2_with (first | ((go_at_call 83; (with_reducible refine (HR1.out _ ((HA.out.ext hx).ext (by with_reducible repeat (first | exact Ext.refl _ | exact ext_d _ _ _ _ | exact ext_app _ _ _ _ _ | exact ext_app2 _ _ _ _ _ _ | exact ext_app3 _ _ _ _ _ _ _ | apply Ext.drew | apply Ext.alloc | apply Ext.more_))) (HB1.out.ext (by with_reducible repeat (first | exact Ext.refl _ | exact ext_d _ _ _ _ | exact ext_app _ _ _ _ _ | exact ext_app2 _ _ _ _ _ _ | exact ext_app3 _ _ _ _ _ _ _ | apply Ext.drew | apply Ext.alloc | apply Ext.more_)))).mono ?_); rintro e w' ⟨D, m, cc, rfl, hD, hb⟩; obtain ⟨os5, d5, rfl⟩ := hb.more; clear hb; have hDr := hD.rd); obtain ⟨osu, du, rfl⟩ := HU.out))
          exact bodyPost_ret (v := AV X.R X.C (.slice D m cc)) (by simp [results, Tryz.results39, go_sem]) rfl ⟨D, m, cc, rfl, ⟨(by (try simp only [more_alloc, more_more] at hDr); (try simp only [more_alloc, more_more]); (try simp only [drew_more] at hDr); (try simp only [more_drew] at hDr); (try simp only [Array.append_assoc] at hDr); (try simp only [Array.append_assoc]); exact Rd.swap hDr (by first | (simp; done) | (simp; omega) | omega) (by first | (simp; done) | (simp; omega) | omega) (by first | (simp; done) | (simp; omega) | omega)), hD.len, hD.cap, hD.small, hD.ok⟩, by with_reducible repeat (first | exact Ext.refl _ | apply Ext.drew | apply Ext.alloc | apply Ext.more_)⟩
end Go.Proofs.YtmjmijjbijlhfaaGreatDoor
namespace Go.Proofs.YtmjmijjbijlhfaaGreatDoor
open Go.RowKit NM
/-- The first k places of two rows are alike. -/
def RowAl (a b : NA) (i j k : Nat) : Prop := ∀ t, t < k → getV a.l (i * a.C + t) = getV b.l (j * b.C + t)
def rowS (a : NA) (i : Nat) (b : NA) (j : Nat) : Bool := decide (((List.range a.C).map fun t => getV a.l (i * a.C + t)) = (List.range b.C).map fun t => getV b.l (j * b.C + t))
theorem rowS_iff {a b : NA} {i j : Nat} (hC : a.C = b.C) : rowS a i b j = true ↔ RowAl a b i j a.C := by
  unfold rowS RowAl
  rw [decide_eq_true_eq]
  constructor
  · intro h t ht
    have h9 := congrArg (fun l => l[t]?) h
    simp only [List.getElem?_map] at h9
    rw [List.getElem?_range ht, List.getElem?_range (by rw [← hC]; exact ht)] at h9
    simpa using h9
  · intro h
    have e : (List.range b.C).map (fun t => getV b.l (j * b.C + t)) = (List.range a.C).map fun t => getV b.l (j * b.C + t) := by rw [← hC]
    rw [e]
    exact List.map_congr_left fun t ht => h t (List.mem_range.1 ht)
set_option maxHeartbeats 2000000 in
theorem rowsSame_any (a b : NA) (A B : Option Addr) (n cap n' cap' i j : Nat) (w : World) (h : ArrIn w A n cap a.l) (h' : ArrIn w B n' cap' b.l) (ha : a.right) (hb : b.right) (hC : a.C = b.C) (hi : i < a.R) (hj : j < b.R) :
    Calls Tryz.prog 18 #[AV a.R a.C (.slice A n cap), .int .i64 (i : Int), AV b.R b.C (.slice B n' cap'), .int .i64 (j : Int)] w fun e w' => e = .returned (.bool (rowS a i b j)) ∧ Ext w w' := by
  have hneq := neq_val
  have hsm := h.small
  have hsm' := h'.small
  have hln := h.len
  have hln' := h'.len
  obtain ⟨a1, a2, a3, a4, a5⟩ := rightA_nat.1 ha
  obtain ⟨b1, b2, b3, b4, b5⟩ := rightA_nat.1 hb
  obtain ⟨R, hR⟩ : ∃ R, rowS a i b j = R := ⟨_, rfl⟩
  have HR : Hid ((R = true) = RowAl a b i j a.C) := by show _ = _; rw [← hR]; exact propext (rowS_iff hC)
  rw [hR]
  obtain ⟨C, hCe⟩ : ∃ C, a.C = C := ⟨_, rfl⟩
  obtain ⟨s, hs⟩ : ∃ s, i * C = s := ⟨_, rfl⟩
  obtain ⟨u, hu⟩ : ∃ u, j * C = u := ⟨_, rfl⟩
  have hsn : s + C ≤ n := by
    have := Nat.mul_le_mul_right C (show i + 1 ≤ a.R from hi)
    rw [Nat.add_mul, Nat.one_mul, hs] at this
    rw [← hln, a4, hCe]; exact this
  have hun : u + C ≤ n' := by
    have := Nat.mul_le_mul_right C (show j + 1 ≤ b.R from hj)
    rw [Nat.add_mul, Nat.one_mul, hu] at this
    rw [← hln', b4, ← hC, hCe]; exact this
  have e1 : IntKind.i64.wrap ((i : Int) * (C : Int)) = (s : Int) := by rw [← Int.natCast_mul, hs, IntKind.wrap_i64]; omega
  have e2 : IntKind.i64.wrap ((j : Int) * (C : Int)) = (u : Int) := by rw [← Int.natCast_mul, hu, IntKind.wrap_i64]; omega
  have HF : Hid (i * a.C = s ∧ j * b.C = u ∧ a.C = C) := ⟨by rw [hCe]; exact hs, by rw [← hC, hCe]; exact hu, hCe⟩
  rw [← hC]
  rw [hCe]
  obtain ⟨l, hl⟩ : ∃ l, a.l = l := ⟨_, rfl⟩
  obtain ⟨l', hl'⟩ : ∃ l', b.l = l' := ⟨_, rfl⟩
  obtain ⟨r, hr⟩ : ∃ r : Nat, a.R = r := ⟨_, rfl⟩
  obtain ⟨r', hr'⟩ : ∃ r' : Nat, b.R = r' := ⟨_, rfl⟩
  rw [hr, hr']
  rw [hl] at h
  rw [hl'] at h'
  have HL : Hid (a.l = l ∧ b.l = l') := ⟨hl, hl'⟩
  clear hR ha hb hC hi hj hln hln' a1 a2 a3 a4 a5 b1 b2 b3 b4 b5 hCe hs hu hl hl' hr hr'
  go_enter Tryz.func18, Tryz.ntmps18
  go_wp2
  go_loopw [12] (fun x wr => ∃ k : Nat, k ≤ C ∧ x = .int .i64 (k : Int) ∧ Ext ((w.alloc (Obj.cells #[.int .i64 (r : Int), .int .i64 (C : Int), .slice A n cap] 31)).alloc (Obj.cells #[.int .i64 (r' : Int), .int .i64 (C : Int), .slice B n' cap'] 31)) wr ∧ Hid (RowAl a b i j k)) (fun x _ => C - (intOf x).toNat)
  case atStart => exact ⟨0, Nat.zero_le _, rfl, Ext.refl _, fun t ht => absurd ht (Nat.not_lt_zero _)⟩
  case round =>
    obtain ⟨k, hk, rfl, hX, H⟩ := hrel
    obtain ⟨os, d, rfl⟩ := hX.more
    by_cases hlt : k < C
    · obtain ⟨p, hp⟩ : ∃ p, s + k = p := ⟨_, rfl⟩
      obtain ⟨q, hq⟩ : ∃ q, u + k = q := ⟨_, rfl⟩
      have e3 : IntKind.i64.wrap ((s : Int) + (k : Int)) = (p : Int) := by rw [IntKind.wrap_i64]; omega
      have e4 : IntKind.i64.wrap ((u : Int) + (k : Int)) = (q : Int) := by rw [IntKind.wrap_i64]; omega
      have hpn : p < n := by omega
      have hqn : q < n' := by omega
      have hlt' : (k : Int) < (C : Int) := by omega
      obtain ⟨x, bl, off, hx, hxo, rfl, hv⟩ := h.at hpn
      obtain ⟨v0, v1, v2, v3, v4, v5⟩ := hv
      have hbl : bl < w.heap.size := lt_of_cell v0
      obtain ⟨y, bl', off', hy, hyo, rfl, hv'⟩ := h'.at hqn
      obtain ⟨u0, u1, u2, u3, u4, u5⟩ := hv'
      have hbl' : bl' < w.heap.size := lt_of_cell u0
      have gx : getV a.l (i * a.C + k) = x := by rw [HL.out.1, HF.out.1, hp]; unfold getV; rw [hx]; rfl
      have gy : getV b.l (j * b.C + k) = y := by rw [HL.out.2, HF.out.2.1, hq]; unfold getV; rw [hy]; rfl
      by_cases hxy : x = y
      · have HK : Hid (RowAl a b i j (k + 1)) := fun t ht => by
          by_cases e : t = k
          · rw [e, gx, gy, hxy]
          · exact H.out t (by omega)
        have hxy' : eqV x y = true := by rw [hxy]; simp [eqV]
        clear gx gy hxy hx hxo hy hyo hp hq H
        go_wp2
        refine wp_plan (S := Ext _) [(0, 0), (1, 0), (2, 0), (3, 0), (4, 0), (5, 0), (6, 0), (7, 0), (8, 0), (9, 0), (10, 0), (11, 0), (12, 0), (13, 0), (14, 0), (15, 0), (16, 0), (17, 0), (18, 0), (19, 0), (20, 0)] [] (by kernel_rfl) (by kernel_rfl) (by kernel_rfl) (fun _ _ d _ _ h => by cases d <;> exact h) (Ext.drew (Ext.refl _)) ?_
        iterate 21 ((refine wpPl_read (v := ?_) rfl ?_ (fun _ h => ?_) ?_; rotate_left 1; rfl; (obtain ⟨_, _, rfl⟩ := h.more; go_simp; try rfl)); try simp only [Act.put, zqA, zqB, zqC])
        refine wpPl_nil ?_
        go_wp2
        exact ⟨⟨k + 1, by omega, by go_num, by repeat (first | exact Ext.refl _ | apply Ext.drew | apply Ext.alloc | apply Ext.more_), HK⟩, by simp [intOf]; omega⟩
      · have hxy' : eqV x y = false := by simpa [eqV] using hxy
        have hR2 : Hid (R = false) := by
          show _ = _
          rw [← Bool.not_eq_true, HR.out]
          intro h9
          have := h9 k (by rw [HF.out.2.2]; exact hlt)
          rw [gx, gy] at this
          exact hxy this
        clear gx gy hxy hx hxo hy hyo hp hq H
        go_wp2
        refine wp_plan (S := Ext _) [(0, 0), (1, 0), (2, 0), (3, 0), (4, 0), (5, 0), (6, 0), (7, 0), (8, 0), (9, 0), (10, 0), (11, 0), (12, 0), (13, 0), (14, 0), (15, 0), (16, 0), (17, 0), (18, 0), (19, 0), (20, 0)] [] (by kernel_rfl) (by kernel_rfl) (by kernel_rfl) (fun _ _ d _ _ h => by cases d <;> exact h) (Ext.drew (Ext.refl _)) ?_
        iterate 21 ((refine wpPl_read (v := ?_) rfl ?_ (fun _ h => ?_) ?_; rotate_left 1; rfl; (obtain ⟨_, _, rfl⟩ := h.more; go_simp; try rfl)); try simp only [Act.put, zqA, zqB, zqC])
        refine wpPl_nil ?_
        go_wp2
        go_ret
        exact ⟨ret_bool hR2.out.symm, by repeat (first | exact Ext.refl _ | apply Ext.drew | apply Ext.alloc | apply Ext.more_)⟩
    · have hR2 : Hid (R = true) := by
        show _ = _
        rw [HR.out, HF.out.2.2]
        obtain rfl : k = C := by omega
        exact H.out
      have hlt' : ¬ (k : Int) < (C : Int) := by omega
      clear H
      go_wp2
      go_ret
      exact ⟨ret_bool hR2.out.symm, by repeat (first | exact Ext.refl _ | apply Ext.drew | apply Ext.alloc | apply Ext.more_)⟩
end Go.Proofs.YtmjmijjbijlhfaaGreatDoor
namespace Go.Proofs.YtmjmijjbijlhfaaGreatDoor
open Go.RowKit NM
/-- How many places below j are true. -/
def cntF (f : Nat → Bool) (j : Nat) : Nat := ((List.range j).filter f).length
theorem cntF_yes {f : Nat → Bool} {j : Nat} (h : f j = true) : cntF f (j + 1) = cntF f j + 1 := by
  unfold cntF; rw [List.range_succ, List.filter_append, List.length_append]; simp [h]
theorem cntF_no {f : Nat → Bool} {j : Nat} (h : f j = false) : cntF f (j + 1) = cntF f j := by
  unfold cntF; rw [List.range_succ, List.filter_append, List.length_append]; simp [h]
theorem cntF_le (f : Nat → Bool) (j : Nat) : cntF f j ≤ j := by
  unfold cntF; have := List.length_filter_le f (List.range j); rwa [List.length_range] at this
theorem mask_at {f : Nat → Bool} {R j : Nat} (hj : j < R) (h : f j = true) : ((List.range R).filter f)[cntF f j]? = some j := by
  obtain ⟨k, rfl⟩ : ∃ k, R = j + (k + 1) := ⟨R - j - 1, by omega⟩
  unfold cntF
  rw [List.range_add, List.filter_append, List.getElem?_append_right (Nat.le_refl _), show ((List.range j).filter f).length - ((List.range j).filter f).length = 0 from Nat.sub_self _]
  rw [List.range_succ_eq_map, List.map_cons, List.filter_cons, Nat.add_zero, if_pos h]
  rfl
/-- What FILTER gives at a mask. -/
def maskX (a : NA) (f : Nat → Bool) : NA := if (List.range a.R).filter f = [] then aloneO 9 else rowsN a ((List.range a.R).filter f)
theorem maskX_at {a : NA} {f : Nat → Bool} {j : Nat} (ha : a.right) (hj : j < a.R) (h : f j = true) :
    maskX a f = rowsN a ((List.range a.R).filter f) ∧ cntF f j < (maskX a f).R ∧ (maskX a f).C = a.C ∧ (maskX a f).right ∧ rowS (maskX a f) (cntF f j) a j = true := by
  obtain ⟨a1, a2, a3, a4, a5⟩ := rightA_nat.1 ha
  have hm := mask_at hj h
  have hlt := (List.getElem?_eq_some_iff.1 hm).1
  have hne : (List.range a.R).filter f ≠ [] := fun e => by rw [e] at hlt; simp at hlt
  have hpl : ∀ r ∈ (List.range a.R).filter f, r < a.R := fun r hr => List.mem_range.1 (List.mem_filter.1 hr).1
  have e : maskX a f = rowsN a ((List.range a.R).filter f) := if_neg hne
  refine ⟨e, by rw [e]; exact hlt, by rw [e]; rfl, by rw [e]; exact rowsN_right ha hpl (by omega) (by have := List.length_filter_le f (List.range a.R); rwa [List.length_range] at this), ?_⟩
  rw [rowS_iff (by rw [e]; rfl), e]
  intro t ht
  rw [rowsN_l a4 hpl]
  show getV (vals (fun i j => getV a.l (plc ((List.range a.R).filter f) i * a.C + j)) a.C (((List.range a.R).filter f).length * a.C)) (cntF f j * a.C + t) = _
  have ht' : t < a.C := ht
  rw [getV_vals _ hlt ht']
  have : plc ((List.range a.R).filter f) (cntF f j) = j := by unfold plc; rw [hm]; rfl
  rw [this]
/-- At the end. -/
theorem maskX_end (a : NA) (f : Nat → Bool) : cntF f a.R = (maskX a f).R ∨ (cntF f a.R ≠ (maskX a f).R ∧ cntF f a.R = 0 ∧ maskX a f = aloneO 9) := by
  by_cases h : (List.range a.R).filter f = []
  · have e : maskX a f = aloneO 9 := if_pos h
    have h0 : cntF f a.R = 0 := by unfold cntF; rw [h]; rfl
    right
    rw [e, h0]
    exact ⟨by decide, rfl, rfl⟩
  · left
    unfold maskX
    rw [if_neg h]
    rfl
theorem maskN_l (R : Nat) (f : Nat → Bool) : (maskN R f).l = (List.range R).map fun i => truV (f i) := rfl
theorem mask_take (f : Nat → Bool) (k : Nat) : ((List.range (k + 1)).map fun i => truV (f i)) = ((List.range k).map fun i => truV (f i)) ++ [truV (f k)] := by rw [List.range_succ, List.map_append]; rfl
theorem mask_get {R j : Nat} (f : Nat → Bool) (h : j < R) : (maskN R f).l[j]? = some (truV (f j)) := by
  rw [maskN_l, List.getElem?_map, List.getElem?_range h]; rfl
theorem mask_right {R : Nat} (h1 : 1 ≤ R) (h2 : R ≤ 4096) (f : Nat → Bool) : (maskN R f).right := by
  refine rightA_nat.2 ⟨h1, Nat.le_refl 1, by show R * 1 ≤ 4096; omega, by show ((List.range R).map _).length = R * 1; simp, fun x hx => ?_⟩
  obtain ⟨i, _, rfl⟩ := List.mem_map.1 hx
  exact truV_right _
end Go.Proofs.YtmjmijjbijlhfaaGreatDoor
namespace Go.Proofs.YtmjmijjbijlhfaaGreatDoor
open Go.RowKit NM
theorem pcall_filter (A : Option Addr) (n cap : Nat) (gs : List GA) (w : World) (htab : Tab w) (h : ArgsG w A n cap gs) : Calls Tryz.prog 16 #[.string ⟨#[70, 73, 76, 84, 69, 82]⟩, .slice A n cap] w (CallG w (callX 2 3 gs (filterO (arsOf gs)))) :=
  gcall_any ⟨#[70, 73, 76, 84, 69, 82]⟩ 2 3 39 (fun _ _ => #[]) (by decide) (fun _ _ => rfl) (fun args W => by go_simp) (by decide) (by decide) A n cap gs w h _ (fun hr h1 h2 p1 p2 W hW _ => gfilter_any A n cap _ W ((arsOf_in h hr).ext hW) h1)
end Go.Proofs.YtmjmijjbijlhfaaGreatDoor
namespace Go.Proofs.YtmjmijjbijlhfaaGreatDoor
open Go.RowKit NM
theorem own_ty {w : World} {base p : Nat} {e t : TypeId} {size n : Nat} {v : Value} {xs : List Value} {cs : Array Value} {fr : Nat × Nat} (h : w.ownsRow base e size v n xs) (hp : w.heap[p]? = some (.cells cs t fr)) (hne : t ≠ e) : v.ownBlock ≠ some p := by
  rcases h.2 with ⟨rfl, _⟩ | ⟨g, cap, cur, rfl, _, hg, _⟩
  · simp [Value.ownBlock]
  · intro e1
    obtain rfl : g = p := by simpa [Value.ownBlock] using e1
    rw [hg] at hp
    simp only [Option.some.injEq, Obj.cells.injEq] at hp
    exact hne hp.2.1.symm
theorem grown_set (w : World) (p i : Nat) (z : Value) : w.grownBy (w.setCell ⟨p, i, none⟩ z) (some p) :=
  ⟨rfl, rfl, rfl, by simp [World.setCell], fun k _ hne => Below.heap_setCell _ _ _ _ (fun e => hne (by rw [e]))⟩
structure TwoV (U w : World) (py pn R : Nat) (u1 u2 v1 v2 : Value) (k1 k2 : Nat) (Y N : List Value) : Prop where
  ext : Ext U w
  bp : U.heap.size ≤ py
  bn : U.heap.size ≤ pn
  ne : py ≠ pn
  hy : w.heap[py]? = some (.cells #[.int .i64 (R : Int), .int .i64 1, u1] 31)
  hn : w.heap[pn]? = some (.cells #[.int .i64 (R : Int), .int .i64 1, u2] 31)
  oy : w.ownsRow U.heap.size 43 6 v1 k1 Y
  on : w.ownsRow U.heap.size 43 6 v2 k2 N
  ap : ∀ g, v1.ownBlock = some g → v2.ownBlock = some g → False
section
variable {U w w' : World} {py pn R k1 k2 : Nat} {u1 u2 v1 v2 : Value} {Y N : List Value}
theorem TwoV.swap (h : TwoV U w py pn R u1 u2 v1 v2 k1 k2 Y N) : TwoV U w pn py R u2 u1 v2 v1 k2 k1 N Y := ⟨h.ext, h.bn, h.bp, h.ne.symm, h.hn, h.hy, h.on, h.oy, fun g h1 h2 => h.ap g h2 h1⟩
theorem TwoV.to (h : TwoV U w py pn R u1 u2 v1 v2 k1 k2 Y N) (hx : Ext w w') : TwoV U w' py pn R u1 u2 v1 v2 k1 k2 Y N :=
  ⟨h.ext.trans hx, h.bp, h.bn, h.ne, (hx.block (lt_of_block h.hy)).trans h.hy, (hx.block (lt_of_block h.hn)).trans h.hn, own_ext h.oy hx, own_ext h.on hx, h.ap⟩
theorem TwoV.app (h : TwoV U w py pn R u1 u2 v1 v2 k1 k2 Y N) {v4 : Value} {n : Nat} {Z : List Value} (ho : w'.ownsRow U.heap.size 43 6 v4 n Z) (hg : w.grownBy w' v1.ownBlock) (hat : v4.ownBlock = v1.ownBlock ∨ v4.ownBlock = some w.heap.size) : TwoV U w' py pn R u1 u2 v4 v2 n k2 Z N := by
  refine ⟨ext_grownN (X := U) h.ext h.oy hg, h.bp, h.bn, h.ne, ?_, ?_, ho, h.on.kept hg ?_, fun g h1 h2 => ?_⟩
  · rw [hg.block py (lt_of_block h.hy) (fun e => own_ty h.oy h.hy (by decide) e.symm)]; exact h.hy
  · rw [hg.block pn (lt_of_block h.hn) (fun e => own_ty h.oy h.hn (by decide) e.symm)]; exact h.hn
  · cases hv : v2.ownBlock with
    | none => exact Or.inl rfl
    | some g => exact Or.inr fun e => h.ap g e.symm hv
  · rcases hat with e | e
    · exact h.ap g (e ▸ h1) h2
    · rw [e] at h1
      have := (h.on.lt g h2).2
      simp only [Option.some.injEq] at h1
      omega
theorem TwoV.put (h : TwoV U w py pn R u1 u2 v1 v2 k1 k2 Y N) (z : Value) : TwoV U (w.setCell ⟨py, 2, none⟩ z) py pn R z u2 v1 v2 k1 k2 Y N := by
  refine ⟨Below.setCell h.ext h.bp _, h.bp, h.bn, h.ne, ?_, (Below.heap_setCell _ _ _ _ h.ne.symm).trans h.hn, h.oy.kept (grown_set w py 2 z) (Or.inr (own_ty h.oy h.hy (by decide))), h.on.kept (grown_set w py 2 z) (Or.inr (own_ty h.on h.hy (by decide))), h.ap⟩
  have := heap_setCell_same _ py 2 _ _ z h.hy
  simpa using this
theorem TwoV.cells (h : TwoV U w py pn R u1 u2 v1 v2 k1 k2 Y N) : w.cell? ⟨py, 0, none⟩ = some (.int .i64 (R : Int)) ∧ w.cell? ⟨py, 1, none⟩ = some (.int .i64 1) ∧ w.cell? ⟨py, 2, none⟩ = some u1 ∧ w.frozen? ⟨py, 2, none⟩ = false ∧ py < w.heap.size :=
  ⟨cell_of_row _ _ 0 _ _ _ h.hy, cell_of_row _ _ 1 _ _ _ h.hy, cell_of_row _ _ 2 _ _ _ h.hy, frozen_of_row _ _ 2 _ _ h.hy, lt_of_block h.hy⟩
end
theorem filter_two {a : NA} (ha : a.right) (f : Nat → Bool) (A D : Option Addr) (n cap m c : Nat) : filterO [arAt a A n cap, arAt (maskN a.R f) D m c] = maskX a f := by
  unfold filterO maskX
  exact filter_mask ha f
theorem one_filter {a : NA} {w : World} {P A D : Option Addr} {n cap m c : Nat} {f : Nat → Bool} (htab : Tab w) (ha : a.right) (h : ArgsIn w P 2 2 [arAt a A n cap, arAt (maskN a.R f) D m c]) :
    Calls Tryz.prog 20 #[.string ⟨#[70, 73, 76, 84, 69, 82]⟩, .slice P 2 2] w fun e w' => ResA w (maskX a f) e w' := by
  have h9 := one_call (O := filterO) (fun gs W hW hg => pcall_filter P 2 2 gs W (htab.ext hW) hg) h (by decide) (by decide)
  rwa [filter_two ha] at h9
end Go.Proofs.YtmjmijjbijlhfaaGreatDoor
namespace Go.Proofs.YtmjmijjbijlhfaaGreatDoor
open Go.RowKit NM
def bitB (bits : Int) (i : Nat) : Bool := Go.bits BinOp.and IntKind.u64 (bits / 2 ^ i) 1 == 1
set_option maxHeartbeats 0 in
theorem farrayMasks_any (r c : Int) (A : Option Addr) (n cap : Nat) (l : List Val) (bits : Int) (w : World) (htab : Tab w) (h : ArrIn w A n cap l) :
    Calls Tryz.prog 7 #[AV r c (.slice A n cap), .int .u64 bits] w fun e w' => e = .returned (.bool true) ∧ Ext w w' := by
  have HT := Lib.hid htab
  have HA := Lib.hid h
  have hok := h.ok
  have hra := fun W (hW : ArrIn W A n cap l) => refRightA_any r c A n cap l W hW
  rw [← rightA_eq _ _ _ hok] at hra
  cases hr : rightA r c l with
  | false =>
    rw [hr] at hra
    clear htab h hok hr
    go_enter Tryz.func7, Tryz.ntmps7
    go_wp2_with (first | (go_at_call 9; (with_reducible refine (awake15_any _ (HT.out.ext (by with_reducible repeat (first | exact Ext.refl _ | apply Ext.drew | apply Ext.alloc | apply Ext.more_)))).mono ?_); rintro e w' ⟨rfl, hb⟩; obtain ⟨osw, dw, rfl⟩ := hb.more; clear hb) | (go_at_call 12; (refine (small15_any _ 1 1 _ _ (gargs_one (by simp) rfl (HA.out.ext (by with_reducible repeat (first | exact Ext.refl _ | apply Ext.drew | apply Ext.alloc | apply Ext.more_))))).mono ?_); rintro e w' ⟨s, rfl, hs, hb⟩; obtain ⟨oss, ds, rfl⟩ := hb.more; clear hb; rcases hs with rfl | rfl) | (go_at_call 14; refine (hra _ (HA.out.ext (by with_reducible repeat (first | exact Ext.refl _ | apply Ext.drew | apply Ext.alloc | apply Ext.more_)))).mono ?_; rintro e w' ⟨rfl, hb⟩; obtain ⟨osr, dr, rfl⟩ := hb.more; clear hb))
    all_goals
      go_ret
      exact ⟨rfl, by with_reducible repeat (first | exact Ext.refl _ | apply Ext.drew | apply Ext.alloc | apply Ext.more_)⟩
  | true =>
    obtain ⟨R, C, rfl, rfl⟩ := rightA_shape hr
    rw [hr] at hra
    have har : NA.right ⟨R, C, l⟩ := hr
    obtain ⟨r1, r2, r3, r4, r5⟩ := rightA_nat.1 har
    simp only at r1 r2 r3 r4
    have hln := h.len
    have hcap := h.cap
    have hsm := h.small
    obtain ⟨x0, b, off, _, _, hA0, _⟩ := h.at (k := 0) (by have := Nat.mul_pos r1 r2; omega)
    subst hA0
    clear htab h hok hr r5
    by_cases hR : R ≤ 60
    · have hR' : ¬ (60 : Int) < (R : Int) := by omega
      go_enter Tryz.func7, Tryz.ntmps7
      go_upto_region 5 with (first | (go_at_call 9; (with_reducible refine (awake15_any _ (HT.out.ext (by with_reducible repeat (first | exact Ext.refl _ | apply Ext.drew | apply Ext.alloc | apply Ext.more_)))).mono ?_); rintro e w' ⟨rfl, hb⟩; obtain ⟨osw, dw, rfl⟩ := hb.more; clear hb) | (go_at_call 12; (refine (small15_any _ 1 1 _ _ (gargs_one (by simp) rfl (HA.out.ext (by with_reducible repeat (first | exact Ext.refl _ | apply Ext.drew | apply Ext.alloc | apply Ext.more_))))).mono ?_); rintro e w' ⟨s, rfl, hs, hb⟩; obtain ⟨oss, ds, rfl⟩ := hb.more; clear hb; rcases hs with rfl | rfl) | (go_at_call 14; refine (hra _ (HA.out.ext (by with_reducible repeat (first | exact Ext.refl _ | apply Ext.drew | apply Ext.alloc | apply Ext.more_)))).mono ?_; rintro e w' ⟨rfl, hb⟩; obtain ⟨osr, dr, rfl⟩ := hb.more; clear hb))
      · go_ret
        exact ⟨rfl, by with_reducible repeat (first | exact Ext.refl _ | apply Ext.drew | apply Ext.alloc | apply Ext.more_)⟩
      · refine wp_world fun U hU => ?_
        have hx : Ext w U := by rw [hU]; exact (by with_reducible repeat (first | exact Ext.refl _ | apply Ext.drew | apply Ext.alloc | apply Ext.more_))
        have c0 : U.cell? ⟨w.heap.size, 0, none⟩ = some (.int .i64 (R : Int)) := by rw [hU]; go_simp
        have c1 : U.cell? ⟨w.heap.size, 1, none⟩ = some (.int .i64 (C : Int)) := by rw [hU]; go_simp
        have c2 : U.cell? ⟨w.heap.size, 2, none⟩ = some (.slice (some ⟨b, off, none⟩) n cap) := by rw [hU]; go_simp
        have la := lt_of_cell c0
        clear hU hra
        go_cut [5, 6] (fun s5 s6 wx => ∃ py pn : Nat, s5 = .pointer (some ⟨py, 0, none⟩) ∧ s6 = .pointer (some ⟨pn, 0, none⟩) ∧ Hid (TwoV U wx py pn R (.slice none 0 0) (.slice none 0 0) (.slice none 0 0) (.slice none 0 0) 0 0 [] []))
        case first =>
          refine wp_floatG [(0, 0), (1, 0), (2, 0), (3, 0), (4, 0), (5, 0), (6, 4), (7, 4), (7, 3), (6, 3), (8, 5)] [9] [9] [] (by kernel_rfl) (by kernel_rfl) (by kernel_rfl) (fun _ _ d _ _ h => by cases d <;> exact h) (fun _ _ d _ _ h => by cases d <;> exact h) ?_
          iterate 6 ((refine wpFg_read (v := ?_) rfl ?_ (fun w1 h1 => ?_) ?_; rotate_left 1; rfl; (obtain ⟨os1, d1, rfl⟩ := h1.more; go_simp; first | done | rfl)); try simp only [Act.put, zqA, zqB, zqC])
          (refine wpFg_launch (t := 5) (.cells #[.int .i64 0, .int .i64 0, .slice none 0 0] 31) ptrB rfl rfl rfl (fun w1 => ?_) ?_; (first | rfl | (simp [go_sem, ptrB]; done) | (go_simp; rfl)))
          (refine wpFg_launch (t := 6) (.cells #[.int .i64 0, .int .i64 0, .slice none 0 0] 31) ptrB rfl rfl rfl (fun w1 => ?_) ?_; (first | rfl | (simp [go_sem, ptrB]; done) | (go_simp; rfl)))
          refine wpFg_wait fun q3 g3 n3 _ => ?_; refine ⟨fun W => W.heap[q3]? = some (.cells #[.int .i64 0, .int .i64 0, .slice none 0 0] 31), fun _ _ hx h => (hx.block (lt_of_block h)).trans h, fun W _ hE h1 => h1, ?_⟩
          try simp only [Act.put, zqA, zqB, zqC]
          refine wpFg_wait fun q4 g4 n4 _ => ?_; refine ⟨fun W => W.heap[q3]? = some (.cells #[.int .i64 0, .int .i64 0, .slice none 0 0] 31) ∧ W.heap[q4]? = some (.cells #[.int .i64 0, .int .i64 0, .slice none 0 0] 31), fun _ _ hx h => ⟨(hx.block (lt_of_block h.1)).trans h.1, (hx.block (lt_of_block h.2)).trans h.2⟩, fun W _ hE h1 => ⟨hE, h1⟩, ?_⟩
          try simp only [Act.put, zqA, zqB, zqC]
          (refine wpFg_store rfl ?_ (fun wf hXf hE K hK => ?_); rfl; obtain ⟨e3, e4⟩ := hE; (have u0 := cell_of_row _ _ 0 _ _ _ e4); (have u1 := cell_of_row _ _ 1 _ _ _ e4); (have u2 := cell_of_row _ _ 2 _ _ _ e4); (have uf0 := frozen_of_row _ _ 0 _ _ e4); (have uf1 := frozen_of_row _ _ 1 _ _ e4); (have uf2 := frozen_of_row _ _ 2 _ _ e4); (simp only [ptrB]); go_simp; refine hK _ _ (fun W => W.heap[q3]? = some (.cells #[.int .i64 0, .int .i64 0, .slice none 0 0] 31) ∧ W.heap[q4]? = some (.cells #[.int .i64 (R : Int), .int .i64 1, .slice none 0 0] 31)) (set3_ext hXf g4) (by simp) (fun _ _ hx h => ⟨(hx.block (lt_of_block h.1)).trans h.1, (hx.block (lt_of_block h.2)).trans h.2⟩) ⟨(set3_other (fun e => n4 (by simp [e]))).trans e3, set3_heap e4⟩ ?_)
          try simp only [Act.put, zqA, zqB, zqC]
          refine wpFg_done fun wz hXz hE => ?_
          obtain ⟨e3, e4⟩ := hE; (have u0 := cell_of_row _ _ 0 _ _ _ e3); (have u1 := cell_of_row _ _ 1 _ _ _ e3); (have u2 := cell_of_row _ _ 2 _ _ _ e3); (have uf0 := frozen_of_row _ _ 0 _ _ e3); (have uf1 := frozen_of_row _ _ 1 _ _ e3); (have uf2 := frozen_of_row _ _ 2 _ _ e3); (have f3 := set3_heap (r := (R : Int)) (c := 1) (v := .slice none 0 0) e3); (have f4 := (set3_other (r := (R : Int)) (c := 1) (v := .slice none 0 0) (fun e => n4 (by simp [e]) : q4 ≠ q3)).trans e4); (have f5 : Ext U _ := Ext.trans (by with_reducible repeat (first | exact Ext.refl _ | apply Ext.drew | apply Ext.alloc | apply Ext.more_) : Ext U U.drew) (set3_ext (r := (R : Int)) (c := 1) (v := .slice none 0 0) hXz g3)); (try simp only [ptrB])
          (refine wpTl_op rfl ?_ (fun K hK => ?_); rfl; go_simp; refine hK _ _ ?_)
          try simp only [Act.put, zqA, zqB, zqC]
          refine wpTl_nil ?_
          clear u0 u1 u2 uf0 uf1 uf2 e3 e4
          go_wp2_with fail
          go_meet
          exact ⟨q4, q3, rfl, rfl, ⟨f5, g4, g3, fun e => n4 (by simp [e]), f4, f3, World.ownsRow_nil _ _ _ _, World.ownsRow_nil _ _ _ _, fun g h1 => by cases h1⟩⟩
        case rest =>
        obtain ⟨py, pn, rfl, rfl, HV⟩ := hcut
        have d0 := HV.out.ext.cell_some c0
        have ld := lt_of_cell d0
        obtain ⟨i0, hi0, hz0, hz1, hz2⟩ := info_parts info_val
        go_upto_region 7 with fail
        go_loopw [39] (fun x wr => ∃ (k : Nat) (v1 v2 : Value) , k ≤ R ∧ x = .int .i64 (k : Int) ∧ Hid (TwoV U wr py pn R v1 v2 v1 v2 k k (vcells ((List.range k).map fun i => truV (bitB bits i))) (vcells ((List.range k).map fun i => truV (!bitB bits i))))) (fun x _ => R - (intOf x).toNat)
        case atStart => exact ⟨0, _, _, Nat.zero_le _, rfl, HV.out⟩
        case round =>
          obtain ⟨k, v1, v2, hk, rfl, HV2⟩ := hrel
          clear HV d0 ld
          have d0 := HV2.out.ext.cell_some c0
          have ld := lt_of_cell d0
          obtain ⟨y0, y1, y2, yf, yl⟩ := HV2.out.cells
          obtain ⟨z0, z1, z2, zf, zl⟩ := HV2.out.swap.cells
          have hsz := HV2.out.ext.size
          by_cases hlt : k < R
          · have hlt' : (k : Int) < (R : Int) := by omega
            go_upto_region 10 with fail
            generalize hbk : (Go.bits BinOp.and IntKind.u64 (bits / 2 ^ k) 1 == 1) = bk
            have HB : Hid (bitB bits k = bk) := hbk
            clear hbk
            go_upto_region 11 with ((at_builtin; refine wpList_append_own_at _ rfl _ _ _ rfl U.heap.size 43 i0 (VV 0 0 0 ⟨#[]⟩ false 0) 6 56 Tryz.underlying29 hi0 hz0 hz1 hz2 rfl (by decide) v1 k _ rfl (own_ext HV2.out.oy (by with_reducible repeat (first | exact Ext.refl _ | exact ext_d _ _ _ _ | exact ext_app _ _ _ _ _ | exact ext_app2 _ _ _ _ _ _ | exact ext_app3 _ _ _ _ _ _ _ | apply Ext.drew | apply Ext.alloc | apply Ext.more_))) _ 1 1 (Val.cells (truV bk)) rfl rfl (new_cells_at _ _ _ (by first | rfl | (simp; done)) rfl _) (cells_one _) (by simp only [maxLen]; omega) (by omega) (by simp; omega) ?_; intro v4 w4 ho4 hg4 _ hat4; obtain ⟨G4, g4, rfl⟩ := own_slice ho4); have hs4 := TwoV.app (HV2.out.to (by with_reducible repeat (first | exact Ext.refl _ | exact ext_d _ _ _ _ | exact ext_app _ _ _ _ _ | exact ext_app2 _ _ _ _ _ _ | exact ext_app3 _ _ _ _ _ _ _ | apply Ext.drew | apply Ext.alloc | apply Ext.more_))) ho4 hg4 hat4; obtain ⟨p0, p1, p2, pf, pl⟩ := hs4.cells)
            have hs5 := hs4.put (.slice G4 (k + 1) g4)
            refine wp_world fun V5 hV5 => ?_
            have HV5 : Hid (TwoV U V5 py pn R (.slice G4 (k + 1) g4) v2 (.slice G4 (k + 1) g4) v2 (k + 1) k (vcells ((List.range k).map fun i => truV (bitB bits i)) ++ Val.cells (truV bk)) (vcells ((List.range k).map fun i => truV (!bitB bits i)))) := by rw [hV5]; exact hs5.to (by with_reducible repeat (first | exact Ext.refl _ | exact ext_d _ _ _ _ | exact ext_app _ _ _ _ _ | exact ext_app2 _ _ _ _ _ _ | exact ext_app3 _ _ _ _ _ _ _ | apply Ext.drew | apply Ext.alloc | apply Ext.more_))
            clear hV5 hs5 hs4 ho4 hg4 hat4 p0 p1 p2 pf pl y0 y1 y2 yf yl z0 z1 z2 zf zl HV2 hsz d0 ld
            obtain ⟨v5, hv5⟩ : ∃ v, Value.slice G4 (k + 1) g4 = v := ⟨_, rfl⟩
            rw [hv5] at HV5
            clear hv5
            obtain ⟨z0, z1, z2, zf, zl⟩ := HV5.out.swap.cells
            have hsz := HV5.out.ext.size
            go_upto_region 12 with ((at_builtin; refine wpList_append_own_at _ rfl _ _ _ rfl U.heap.size 43 i0 (VV 0 0 0 ⟨#[]⟩ false 0) 6 56 Tryz.underlying29 hi0 hz0 hz1 hz2 rfl (by decide) v2 k _ rfl (own_ext HV5.out.on (by with_reducible repeat (first | exact Ext.refl _ | exact ext_d _ _ _ _ | exact ext_app _ _ _ _ _ | exact ext_app2 _ _ _ _ _ _ | exact ext_app3 _ _ _ _ _ _ _ | apply Ext.drew | apply Ext.alloc | apply Ext.more_))) _ 1 1 (Val.cells (truV (!bk))) rfl rfl (new_cells_at _ _ _ (by first | rfl | (simp; done)) rfl _) (cells_one _) (by simp only [maxLen]; omega) (by omega) (by simp; omega) ?_; intro v4 w4 ho4 hg4 _ hat4; obtain ⟨G4, g4, rfl⟩ := own_slice ho4); have hs4 := TwoV.app (HV5.out.swap.to (by with_reducible repeat (first | exact Ext.refl _ | exact ext_d _ _ _ _ | exact ext_app _ _ _ _ _ | exact ext_app2 _ _ _ _ _ _ | exact ext_app3 _ _ _ _ _ _ _ | apply Ext.drew | apply Ext.alloc | apply Ext.more_))) ho4 hg4 hat4; obtain ⟨p0, p1, p2, pf, pl⟩ := hs4.cells)
            have hs6 := (hs4.put (.slice G4 (k + 1) g4)).swap
            refine wp_world fun V6 hV6 => ?_
            have HV6 : Hid (TwoV U V6 py pn R v5 (.slice G4 (k + 1) g4) v5 (.slice G4 (k + 1) g4) (k + 1) (k + 1) (vcells ((List.range (k + 1)).map fun i => truV (bitB bits i))) (vcells ((List.range (k + 1)).map fun i => truV (!bitB bits i)))) := by
              show TwoV _ _ _ _ _ _ _ _ _ _ _ _ _
              rw [mask_take, mask_take, vcells_append, vcells_append, HB.out, hV6]
              exact hs6.to (by with_reducible repeat (first | exact Ext.refl _ | exact ext_d _ _ _ _ | exact ext_app _ _ _ _ _ | exact ext_app2 _ _ _ _ _ _ | exact ext_app3 _ _ _ _ _ _ _ | apply Ext.drew | apply Ext.alloc | apply Ext.more_))
            clear hV6 hs6 hs4 ho4 hg4 hat4 p0 p1 p2 pf pl z0 z1 z2 zf zl HV5 hsz HB
            go_wp2_with fail
            exact ⟨⟨k + 1, v5, .slice G4 (k + 1) g4, by omega, by go_num, HV6.out.to (by with_reducible repeat (first | exact Ext.refl _ | apply Ext.drew | apply Ext.alloc | apply Ext.more_))⟩, by simp [intOf]; omega⟩
          · obtain rfl : k = R := by omega
            have hlt' : ¬ (k : Int) < (k : Int) := Int.lt_irrefl _
            clear d0 ld y0 y1 y2 yf yl z0 z1 z2 zf zl
            have f1ok : ∀ f : Nat → Bool, ∀ x ∈ ((List.range k).map fun i => truV (f i)), x.ok := fun f x hx => by
              obtain ⟨i, _, rfl⟩ := List.mem_map.1 hx
              exact (truV_right _).ok
            obtain ⟨E1, g1, rfl, hE1⟩ := own_arrN (w := U) HV2.out.oy (Nat.le_refl _) (by omega) (f1ok _)
            obtain ⟨E2, g2, rfl, hE2⟩ := own_arrN (w := U) HV2.out.on (Nat.le_refl _) (by omega) (f1ok _)
            have BY : Hid (BoxN wr py (maskN k (bitB bits)) E1 k g1) := ⟨HV2.out.hy, hE1.arr⟩
            have BN : Hid (BoxN wr pn (maskN k fun i => !bitB bits i) E2 k g2) := ⟨HV2.out.hn, hE2.arr⟩
            have hyr := mask_right r1 (show k ≤ 4096 by omega) (bitB bits)
            have hnr := mask_right r1 (show k ≤ 4096 by omega) (fun i => !bitB bits i)
            have hy := HV2.out.ext
            have HC := Lib.hid (HA.out.ext (hx.trans hy))
            have HTC := Lib.hid (HT.out.ext (hx.trans hy))
            replace c0 := hy.cell_some c0
            replace c1 := hy.cell_some c1
            replace c2 := hy.cell_some c2
            have la' := lt_of_cell c0
            have hxw := hx.trans hy
            obtain ⟨y0, y1, y2, yl⟩ := BY.out.cells
            obtain ⟨n0, n1', n2', nl⟩ := BN.out.cells
            obtain ⟨X1, hX1⟩ : ∃ Z, maskX ⟨k, C, l⟩ (bitB bits) = Z := ⟨_, rfl⟩
            obtain ⟨X2, hX2⟩ : ∃ Z, maskX ⟨k, C, l⟩ (fun i => !bitB bits i) = Z := ⟨_, rfl⟩
            have h01 : ∀ W P, Tab W → ArgsIn W P 2 2 [arAt ⟨k, C, l⟩ (some ⟨b, off, none⟩) n cap, arAt (maskN k (bitB bits)) E1 k g1] → Calls Tryz.prog 20 #[.string ⟨#[70, 73, 76, 84, 69, 82]⟩, .slice P 2 2] W fun e w' => ResA W X1 e w' := fun W P hT hh => by have h9 := one_filter (a := ⟨k, C, l⟩) (f := bitB bits) hT har hh; rw [hX1] at h9; exact h9
            have h02 : ∀ W P, Tab W → ArgsIn W P 2 2 [arAt ⟨k, C, l⟩ (some ⟨b, off, none⟩) n cap, arAt (maskN k fun i => !bitB bits i) E2 k g2] → Calls Tryz.prog 20 #[.string ⟨#[70, 73, 76, 84, 69, 82]⟩, .slice P 2 2] W fun e w' => ResA W X2 e w' := fun W P hT hh => by have h9 := one_filter (a := ⟨k, C, l⟩) (f := fun i => !bitB bits i) hT har hh; rw [hX2] at h9; exact h9
            have HX1 := Lib.hid hX1
            have HX2 := Lib.hid hX2
            have HL := Lib.hid r4
            clear la hcap hsm hln r4 hE1 hE2 HV2 f1ok hX1 hX2 hx hy
            go_upto_region 13 with fail
            go_cut [9, 10] (fun s9 s10 wx => ∃ (px pz : Nat) (Dx Dz : Option Addr) (mx cx mz cz : Nat), s9 = .pointer (some ⟨px, 0, none⟩) ∧ s10 = .pointer (some ⟨pz, 0, none⟩) ∧ Ext wr wx ∧ Hid (BoxN wx px X1 Dx mx cx) ∧ Hid (BoxN wx pz X2 Dz mz cz))
            case first =>
              refine wp_floatG [(0, 0), (1, 0), (4, 0), (5, 0), (8, 4), (9, 4), (6, 4), (2, 4), (2, 3), (3, 1), (6, 3), (7, 1), (9, 3), (8, 3), (10, 5)] [11] [11] [] (by kernel_rfl) (by kernel_rfl) (by kernel_rfl) (fun _ _ d _ _ h => by cases d <;> exact h) (fun _ _ d _ _ h => by cases d <;> exact h) ?_
              iterate 4 ((refine wpFg_read (v := ?_) rfl ?_ (fun w1 h1 => ?_) ?_; rotate_left 1; rfl; (obtain ⟨os1, d1, rfl⟩ := h1.more; go_simp; first | done | rfl)); try simp only [Act.put, zqA, zqB, zqC])
              (refine wpFg_launch (t := 9) (.cells #[.int .i64 0, .int .i64 0, .slice none 0 0] 31) ptrB rfl rfl rfl (fun w1 => ?_) ?_; (first | rfl | (simp [go_sem, ptrB]; done) | (go_simp; rfl)))
              (refine wpFg_launch (t := 10) (.cells #[.int .i64 0, .int .i64 0, .slice none 0 0] 31) ptrB rfl rfl rfl (fun w1 => ?_) ?_; (first | rfl | (simp [go_sem, ptrB]; done) | (go_simp; rfl)))
              (refine wpFg_launch (t := 70) ?_ (fun b => .slice (some ⟨b, 0, none⟩) 2 2) rfl rfl rfl (fun w1 => ?_) ?_; rotate_left 1; (go_simp; first | done | rfl))
              (refine wpFg_launch (t := 66) ?_ (fun b => .slice (some ⟨b, 0, none⟩) 2 2) rfl rfl rfl (fun w1 => ?_) ?_; rotate_left 1; (go_simp; first | done | rfl))
              refine wpFg_wait fun q1 g1' n1 _ => ?_; refine ⟨fun W => ArgsIn W (some ⟨q1, 0, none⟩) 2 2 [arAt ⟨k, C, l⟩ (some ⟨b, off, none⟩) n cap, arAt (maskN k (bitB bits)) E1 k g1], fun _ _ hx h => h.ext hx, fun W hXW _ h1 => argsG_at _ h1 (by first | rfl | (simp; done)) rfl (by decide) (by intro a ha; simp only [List.mem_cons, List.not_mem_nil, or_false] at ha; rcases ha with rfl | rfl; exact ⟨HC.out.ext (((Ext.refl wr).drew).trans hXW), har⟩; exact ⟨BY.out.2.ext (((Ext.refl wr).drew).trans hXW), hyr⟩), ?_⟩
              try simp only [Act.put, zqA, zqB, zqC]
              (refine wpFg_eff rfl ?_ (fun wf hXf hE K hK => ?_); rfl; obtain ⟨osf, df, rfl⟩ := hXf.more; go_simp; refine (h01 _ _ (HTC.out.ext (by with_reducible repeat (first | exact Ext.refl _ | apply Ext.drew | apply Ext.alloc | apply Ext.more_))) hE).mono ?_; rintro e w' ⟨D1, m1, c1', rfl, hN, hb⟩; refine hK _ _ (fun W => ArrIn W D1 m1 c1' X1.l) (by (try simp only [more_drew, more_more, Array.append_assoc]); exact hb) (fun _ _ hx h => h.ext hx) hN.arr ?_)
              try simp only [Act.put, zqA, zqB, zqC]
              refine wpFg_wait fun q2 g2' n2 _ => ?_; refine ⟨fun W => ArrIn W D1 m1 c1' X1.l ∧ ArgsIn W (some ⟨q2, 0, none⟩) 2 2 [arAt ⟨k, C, l⟩ (some ⟨b, off, none⟩) n cap, arAt (maskN k fun i => !bitB bits i) E2 k g2], fun _ _ hx h => ⟨h.1.ext hx, h.2.ext hx⟩, fun W hXW hE h1 => ⟨hE, argsG_at _ h1 (by first | rfl | (simp; done)) rfl (by decide) (by intro a ha; simp only [List.mem_cons, List.not_mem_nil, or_false] at ha; rcases ha with rfl | rfl; exact ⟨HC.out.ext (((Ext.refl wr).drew).trans hXW), har⟩; exact ⟨BN.out.2.ext (((Ext.refl wr).drew).trans hXW), hnr⟩)⟩, ?_⟩
              try simp only [Act.put, zqA, zqB, zqC]
              (refine wpFg_eff rfl ?_ (fun wf hXf hE K hK => ?_); rfl; obtain ⟨osf, df, rfl⟩ := hXf.more; go_simp; refine (h02 _ _ (HTC.out.ext (by with_reducible repeat (first | exact Ext.refl _ | apply Ext.drew | apply Ext.alloc | apply Ext.more_))) hE.2).mono ?_; rintro e w' ⟨D2, m2, c2', rfl, hN, hb⟩; refine hK _ _ (fun W => ArrIn W D1 m1 c1' X1.l ∧ ArrIn W D2 m2 c2' X2.l) (by (try simp only [more_drew, more_more, Array.append_assoc]); exact hb) (fun _ _ hx h => ⟨h.1.ext hx, h.2.ext hx⟩) ⟨hE.1.ext hb, hN.arr⟩ ?_)
              try simp only [Act.put, zqA, zqB, zqC]
              refine wpFg_wait fun q3 g3 n3 _ => ?_; refine ⟨fun W => ArrIn W D1 m1 c1' X1.l ∧ ArrIn W D2 m2 c2' X2.l ∧ W.heap[q3]? = some (.cells #[.int .i64 0, .int .i64 0, .slice none 0 0] 31), fun _ _ hx h => ⟨h.1.ext hx, h.2.1.ext hx, (hx.block (lt_of_block h.2.2)).trans h.2.2⟩, fun W _ hE h1 => ⟨hE.1, hE.2, h1⟩, ?_⟩
              try simp only [Act.put, zqA, zqB, zqC]
              refine wpFg_wait fun q4 g4 n4 _ => ?_; refine ⟨fun W => ArrIn W D1 m1 c1' X1.l ∧ ArrIn W D2 m2 c2' X2.l ∧ W.heap[q3]? = some (.cells #[.int .i64 0, .int .i64 0, .slice none 0 0] 31) ∧ W.heap[q4]? = some (.cells #[.int .i64 0, .int .i64 0, .slice none 0 0] 31), fun _ _ hx h => ⟨h.1.ext hx, h.2.1.ext hx, (hx.block (lt_of_block h.2.2.1)).trans h.2.2.1, (hx.block (lt_of_block h.2.2.2)).trans h.2.2.2⟩, fun W _ hE h1 => ⟨hE.1, hE.2.1, hE.2.2, h1⟩, ?_⟩
              try simp only [Act.put, zqA, zqB, zqC]
              (refine wpFg_store rfl ?_ (fun wf hXf hE K hK => ?_); rfl; obtain ⟨e1, e2, e3, e4⟩ := hE; (have u0 := cell_of_row _ _ 0 _ _ _ e4); (have u1 := cell_of_row _ _ 1 _ _ _ e4); (have u2 := cell_of_row _ _ 2 _ _ _ e4); (have uf0 := frozen_of_row _ _ 0 _ _ e4); (have uf1 := frozen_of_row _ _ 1 _ _ e4); (have uf2 := frozen_of_row _ _ 2 _ _ e4); (simp only [ptrB]); go_simp; refine hK _ _ (fun W => ArrIn W D1 m1 c1' X1.l ∧ ArrIn W D2 m2 c2' X2.l ∧ W.heap[q3]? = some (.cells #[.int .i64 0, .int .i64 0, .slice none 0 0] 31) ∧ W.heap[q4]? = some (.cells #[.int .i64 (X1.R : Int), .int .i64 (X1.C : Int), .slice D1 m1 c1'] 31)) (set3_ext hXf g4) (by simp) (fun _ _ hx h => ⟨h.1.ext hx, h.2.1.ext hx, (hx.block (lt_of_block h.2.2.1)).trans h.2.2.1, (hx.block (lt_of_block h.2.2.2)).trans h.2.2.2⟩) ⟨arr_set3 e1 e4, arr_set3 e2 e4, (set3_other (fun e => n4 (by simp [e]))).trans e3, set3_heap e4⟩ ?_)
              try simp only [Act.put, zqA, zqB, zqC]
              refine wpFg_done fun wz hXz hE => ?_
              obtain ⟨e1, e2, e3, e4⟩ := hE; (have u0 := cell_of_row _ _ 0 _ _ _ e3); (have u1 := cell_of_row _ _ 1 _ _ _ e3); (have u2 := cell_of_row _ _ 2 _ _ _ e3); (have uf0 := frozen_of_row _ _ 0 _ _ e3); (have uf1 := frozen_of_row _ _ 1 _ _ e3); (have uf2 := frozen_of_row _ _ 2 _ _ e3); (have f1 := arr_set3 (r := (X2.R : Int)) (c := (X2.C : Int)) (v := .slice D2 m2 c2') e1 e3); (have f2 := arr_set3 (r := (X2.R : Int)) (c := (X2.C : Int)) (v := .slice D2 m2 c2') e2 e3); (have f3 := set3_heap (r := (X2.R : Int)) (c := (X2.C : Int)) (v := .slice D2 m2 c2') e3); (have f4 := (set3_other (r := (X2.R : Int)) (c := (X2.C : Int)) (v := .slice D2 m2 c2') (fun e => n4 (by simp [e]) : q4 ≠ q3)).trans e4); (have f5 : Ext wr _ := Ext.trans (by with_reducible repeat (first | exact Ext.refl _ | apply Ext.drew | apply Ext.alloc | apply Ext.more_) : Ext wr wr.drew) (set3_ext (r := (X2.R : Int)) (c := (X2.C : Int)) (v := .slice D2 m2 c2') hXz g3)); (try simp only [ptrB])
              (refine wpTl_op rfl ?_ (fun K hK => ?_); rfl; go_simp; refine hK _ _ ?_)
              try simp only [Act.put, zqA, zqB, zqC]
              refine wpTl_nil ?_
              clear u0 u1 u2 uf0 uf1 uf2 e1 e2 e3 e4
              go_wp2_with fail
              go_meet
              exact ⟨q4, q3, D1, D2, m1, c1', m2, c2', rfl, rfl, f5, ⟨f4, f1⟩, ⟨f3, f2⟩⟩
            case rest =>
            obtain ⟨px, pz, Dx, Dz, mx, cx, mz, cz, rfl, rfl, hy, BX, BZ⟩ := hcut
            have HC2 := Lib.hid (HC.out.ext hy)
            have HY2 := Lib.hid (BY.out.2.ext hy)
            replace c0 := hy.cell_some c0
            replace c1 := hy.cell_some c1
            replace c2 := hy.cell_some c2
            replace y0 := hy.cell_some y0
            replace y1 := hy.cell_some y1
            replace y2 := hy.cell_some y2
            have lc := lt_of_cell c0
            have ly := lt_of_cell y0
            obtain ⟨x0', x1', x2', xl⟩ := BX.out.cells
            obtain ⟨w0', w1', w2', wl⟩ := BZ.out.cells
            have hk4 : k ≤ 60 := hR
            clear n0 n1' n2' nl h01 h02 yl la'
            go_upto_region 16 with fail
            go_loopw [11, 12, 74] (fun s1 s2 x w2 => ∃ j : Nat, j ≤ k ∧ x = .int .i64 (j : Int) ∧ s1 = .int .i64 (cntF (bitB bits) j : Int) ∧ s2 = .int .i64 (cntF (fun i => !bitB bits i) j : Int) ∧ Ext wc w2) (fun _ _ x _ => k - (intOf x).toNat)
            case atStart => exact ⟨0, Nat.zero_le _, rfl, rfl, rfl, by with_reducible repeat (first | exact Ext.refl _ | apply Ext.drew | apply Ext.alloc | apply Ext.more_)⟩
            case round =>
              obtain ⟨j, hj, rfl, rfl, rfl, hxj⟩ := hrel
              obtain ⟨os, d, rfl⟩ := hxj.more
              clear hxj
              by_cases hlt : j < k
              · have hlj : (j : Int) < (k : Int) := by omega
                obtain ⟨xv, by_, oy, hxv, _, hE1, hyat⟩ := HY2.out.at (k := j) hlt
                rw [mask_get _ hlt] at hxv
                obtain rfl : truV (bitB bits j) = xv := by simpa using hxv
                obtain ⟨_, _, _, _, t4, _⟩ := hyat
                simp only [truV] at t4
                subst hE1
                have lt4 := lt_of_cell t4
                have hjk : j < k := hlt
                clear hxv
                cases hfj : bitB bits j with
                | true =>
                rw [hfj] at t4
                have hft : bitB bits j = true := hfj
                obtain ⟨m1, m2, m3, m4, m5⟩ := maskX_at (f := bitB bits) har hlt hft
                rw [HX1.out] at m1 m2 m3 m4 m5
                have hrs := fun W (hW : Ext wc W) => rowsSame_any X1 ⟨k, C, l⟩ Dx (some ⟨b, off, none⟩) mx cx n cap (cntF (bitB bits) j) j W (BX.out.2.ext hW) (HC2.out.ext hW) m4 har m3 m2 hlt
                rw [m5] at hrs
                have hs1 := cntF_yes (f := bitB bits) hft
                have hs2 := cntF_no (f := (fun i => !bitB bits i)) (j := j) (by rw [hfj]; rfl)
                have HS := Lib.hid (And.intro hs1 hs2)
                obtain ⟨XR, XC, Xl⟩ := X1
                simp only at m2 m3
                obtain rfl : XC = C := m3
                have hc4 := cntF_le (bitB bits) j
                have hci : ¬ (XR : Int) ≤ (cntF (bitB bits) j : Int) := by omega
                have hci2 : ¬ XR ≤ cntF (bitB bits) j := by omega
                have ew : IntKind.i64.wrap ((cntF (bitB bits) j : Int) + 1) = ((cntF (bitB bits) (j + 1) : Nat) : Int) := by rw [HS.out.1, IntKind.wrap_i64]; omega
                have HQ := HS.out.2
                generalize cntF (bitB bits) j = ci at *
                generalize cntF (fun i => !bitB bits i) j = ck at *
                clear hs1 hs2 hft hfj m1 m4 m5 HQ
                go_wp2_with (go_at_call 18; refine (hrs _ (by with_reducible repeat (first | exact Ext.refl _ | apply Ext.drew | apply Ext.alloc | apply Ext.more_))).mono ?_; rintro e w' ⟨rfl, hb⟩; obtain ⟨oss, dss, rfl⟩ := hb.more; clear hb)
                exact ⟨⟨j + 1, by omega, by go_num, rfl, by rw [HS.out.2], by with_reducible repeat (first | exact Ext.refl _ | exact ext_d _ _ _ _ | exact ext_app _ _ _ _ _ | exact ext_app2 _ _ _ _ _ _ | exact ext_app3 _ _ _ _ _ _ _ | apply Ext.drew | apply Ext.alloc | apply Ext.more_)⟩, by simp [intOf]; omega⟩
                | false =>
                rw [hfj] at t4
                have hft : (fun i => !bitB bits i) j = true := by show (!bitB bits j) = true; rw [hfj]; rfl
                obtain ⟨m1, m2, m3, m4, m5⟩ := maskX_at (f := fun i => !bitB bits i) har hlt hft
                rw [HX2.out] at m1 m2 m3 m4 m5
                have hrs := fun W (hW : Ext wc W) => rowsSame_any X2 ⟨k, C, l⟩ Dz (some ⟨b, off, none⟩) mz cz n cap (cntF (fun i => !bitB bits i) j) j W (BZ.out.2.ext hW) (HC2.out.ext hW) m4 har m3 m2 hlt
                rw [m5] at hrs
                have hs1 := cntF_yes (f := fun i => !bitB bits i) hft
                have hs2 := cntF_no (f := bitB bits) (j := j) hfj
                have HS := Lib.hid (And.intro hs1 hs2)
                obtain ⟨XR, XC, Xl⟩ := X2
                simp only at m2 m3
                obtain rfl : XC = C := m3
                have hc4 := cntF_le (fun i => !bitB bits i) j
                have hci : ¬ (XR : Int) ≤ (cntF (fun i => !bitB bits i) j : Int) := by omega
                have hci2 : ¬ XR ≤ cntF (fun i => !bitB bits i) j := by omega
                have ew : IntKind.i64.wrap ((cntF (fun i => !bitB bits i) j : Int) + 1) = ((cntF (fun i => !bitB bits i) (j + 1) : Nat) : Int) := by rw [HS.out.1, IntKind.wrap_i64]; omega
                have HQ := HS.out.2
                generalize cntF (bitB bits) j = ci at *
                generalize cntF (fun i => !bitB bits i) j = ck at *
                clear hs1 hs2 hft hfj m1 m4 m5 HQ
                go_wp2_with (go_at_call 18; refine (hrs _ (by with_reducible repeat (first | exact Ext.refl _ | apply Ext.drew | apply Ext.alloc | apply Ext.more_))).mono ?_; rintro e w' ⟨rfl, hb⟩; obtain ⟨oss, dss, rfl⟩ := hb.more; clear hb)
                exact ⟨⟨j + 1, by omega, by go_num, by rw [HS.out.2], rfl, by with_reducible repeat (first | exact Ext.refl _ | exact ext_d _ _ _ _ | exact ext_app _ _ _ _ _ | exact ext_app2 _ _ _ _ _ _ | exact ext_app3 _ _ _ _ _ _ _ | apply Ext.drew | apply Ext.alloc | apply Ext.more_)⟩, by simp [intOf]; omega⟩
              · obtain rfl : j = k := by omega
                have hlj : ¬ (j : Int) < (j : Int) := Int.lt_irrefl _
                have z1 := maskX_end ⟨j, C, l⟩ (bitB bits)
                have z2 := maskX_end ⟨j, C, l⟩ (fun i => !bitB bits i)
                rw [HX1.out] at z1
                rw [HX2.out] at z2
                simp only at z1 z2
                have hbd : ∀ W, Calls Tryz.prog 21 #[.int .i64 9] W fun e w' => ∃ (D : Option Addr) (m c : Nat), e = .returned (AV 1 1 (.slice D m c)) ∧ ArrN W.heap.size w' D m c (aloneO 9).l ∧ Ext W w' := fun W => by have h9 := rbad_res 9 (by omega) W; exact h9
                have hsa : ∀ (D : Option Addr) (m c : Nat) (D' : Option Addr) (m' c' : Nat) W, ArrIn W D m c (aloneO 9).l → ArrIn W D' m' c' (aloneO 9).l → Calls Tryz.prog 17 #[AV 1 1 (.slice D m c), AV 1 1 (.slice D' m' c')] W fun e w' => e = .returned (.bool true) ∧ Ext W w' := fun D m c D' m' c' W h h' => by have h9 := same_any (aloneO 9) D m c D' m' c' W h h'; exact h9
                clear HX1 HX2 HY2 BY BN HC HTC
                obtain ⟨X1R, X1C, X1l⟩ := X1
                obtain ⟨X2R, X2C, X2l⟩ := X2
                generalize cntF (bitB bits) j = ci at *
                generalize cntF (fun i => !bitB bits i) j = ck at *
                simp only at x0' x1' w0' w1'
                have hxx := hxw.trans hy
                rcases z1 with z1 | ⟨z1, z1', z1''⟩
                · rcases z2 with z2 | ⟨z2, z2', z2''⟩
                  · (obtain rfl : ci = X1R := z1; obtain rfl : ck = X2R := z2)
                    go_wp2_with (first | (go_at_call 21; refine (hbd _).mono ?_; rintro e w' ⟨D, m, cc, rfl, hD, hb⟩; obtain ⟨os5, d5, rfl⟩ := hb.more; clear hb; (try simp only [more_more, Array.append_assoc] at hD)) | (go_at_call 17; refine (hsa _ _ _ _ _ _ _ (by first | exact BX.out.2.ext (by with_reducible repeat (first | exact Ext.refl _ | apply Ext.drew | apply Ext.alloc | apply Ext.more_)) | exact BZ.out.2.ext (by with_reducible repeat (first | exact Ext.refl _ | apply Ext.drew | apply Ext.alloc | apply Ext.more_))) (by exact hD.arr.ext (by with_reducible repeat (first | exact Ext.refl _ | exact ext_d _ _ _ _ | exact ext_app _ _ _ _ _ | exact ext_app2 _ _ _ _ _ _ | exact ext_app3 _ _ _ _ _ _ _ | apply Ext.drew | apply Ext.alloc | apply Ext.more_)))).mono ?_; rintro e w' ⟨rfl, hb⟩; obtain ⟨oss, dss, rfl⟩ := hb.more; clear hb))
                    go_ret
                    exact ⟨rfl, hxx.trans (by with_reducible repeat (first | exact Ext.refl _ | exact ext_d _ _ _ _ | exact ext_app _ _ _ _ _ | exact ext_app2 _ _ _ _ _ _ | exact ext_app3 _ _ _ _ _ _ _ | apply Ext.drew | apply Ext.alloc | apply Ext.more_))⟩
                  · (obtain rfl : ci = X1R := z1; obtain rfl : ck = 0 := z2'; obtain rfl : X2R = 1 := congrArg NA.R z2''; obtain rfl : X2C = 1 := congrArg NA.C z2''; obtain rfl : X2l = (aloneO 9).l := congrArg NA.l z2''; clear z2 z2'')
                    go_wp2_with (first | (go_at_call 21; refine (hbd _).mono ?_; rintro e w' ⟨D, m, cc, rfl, hD, hb⟩; obtain ⟨os5, d5, rfl⟩ := hb.more; clear hb; (try simp only [more_more, Array.append_assoc] at hD)) | (go_at_call 17; refine (hsa _ _ _ _ _ _ _ (by first | exact BX.out.2.ext (by with_reducible repeat (first | exact Ext.refl _ | apply Ext.drew | apply Ext.alloc | apply Ext.more_)) | exact BZ.out.2.ext (by with_reducible repeat (first | exact Ext.refl _ | apply Ext.drew | apply Ext.alloc | apply Ext.more_))) (by exact hD.arr.ext (by with_reducible repeat (first | exact Ext.refl _ | exact ext_d _ _ _ _ | exact ext_app _ _ _ _ _ | exact ext_app2 _ _ _ _ _ _ | exact ext_app3 _ _ _ _ _ _ _ | apply Ext.drew | apply Ext.alloc | apply Ext.more_)))).mono ?_; rintro e w' ⟨rfl, hb⟩; obtain ⟨oss, dss, rfl⟩ := hb.more; clear hb))
                    go_ret
                    exact ⟨rfl, hxx.trans (by with_reducible repeat (first | exact Ext.refl _ | exact ext_d _ _ _ _ | exact ext_app _ _ _ _ _ | exact ext_app2 _ _ _ _ _ _ | exact ext_app3 _ _ _ _ _ _ _ | apply Ext.drew | apply Ext.alloc | apply Ext.more_))⟩
                · rcases z2 with z2 | ⟨z2, z2', z2''⟩
                  · (obtain rfl : ci = 0 := z1'; obtain rfl : X1R = 1 := congrArg NA.R z1''; obtain rfl : X1C = 1 := congrArg NA.C z1''; obtain rfl : X1l = (aloneO 9).l := congrArg NA.l z1''; clear z1 z1''; obtain rfl : ck = X2R := z2)
                    go_wp2_with (first | (go_at_call 21; refine (hbd _).mono ?_; rintro e w' ⟨D, m, cc, rfl, hD, hb⟩; obtain ⟨os5, d5, rfl⟩ := hb.more; clear hb; (try simp only [more_more, Array.append_assoc] at hD)) | (go_at_call 17; refine (hsa _ _ _ _ _ _ _ (by first | exact BX.out.2.ext (by with_reducible repeat (first | exact Ext.refl _ | apply Ext.drew | apply Ext.alloc | apply Ext.more_)) | exact BZ.out.2.ext (by with_reducible repeat (first | exact Ext.refl _ | apply Ext.drew | apply Ext.alloc | apply Ext.more_))) (by exact hD.arr.ext (by with_reducible repeat (first | exact Ext.refl _ | exact ext_d _ _ _ _ | exact ext_app _ _ _ _ _ | exact ext_app2 _ _ _ _ _ _ | exact ext_app3 _ _ _ _ _ _ _ | apply Ext.drew | apply Ext.alloc | apply Ext.more_)))).mono ?_; rintro e w' ⟨rfl, hb⟩; obtain ⟨oss, dss, rfl⟩ := hb.more; clear hb))
                    go_ret
                    exact ⟨rfl, hxx.trans (by with_reducible repeat (first | exact Ext.refl _ | exact ext_d _ _ _ _ | exact ext_app _ _ _ _ _ | exact ext_app2 _ _ _ _ _ _ | exact ext_app3 _ _ _ _ _ _ _ | apply Ext.drew | apply Ext.alloc | apply Ext.more_))⟩
                  · (obtain rfl : ci = 0 := z1'; obtain rfl : X1R = 1 := congrArg NA.R z1''; obtain rfl : X1C = 1 := congrArg NA.C z1''; obtain rfl : X1l = (aloneO 9).l := congrArg NA.l z1''; clear z1 z1''; obtain rfl : ck = 0 := z2'; obtain rfl : X2R = 1 := congrArg NA.R z2''; obtain rfl : X2C = 1 := congrArg NA.C z2''; obtain rfl : X2l = (aloneO 9).l := congrArg NA.l z2''; clear z2 z2'')
                    go_wp2_with (first | (go_at_call 21; refine (hbd _).mono ?_; rintro e w' ⟨D, m, cc, rfl, hD, hb⟩; obtain ⟨os5, d5, rfl⟩ := hb.more; clear hb; (try simp only [more_more, Array.append_assoc] at hD)) | (go_at_call 17; refine (hsa _ _ _ _ _ _ _ (by first | exact BX.out.2.ext (by with_reducible repeat (first | exact Ext.refl _ | apply Ext.drew | apply Ext.alloc | apply Ext.more_)) | exact BZ.out.2.ext (by with_reducible repeat (first | exact Ext.refl _ | apply Ext.drew | apply Ext.alloc | apply Ext.more_))) (by exact hD.arr.ext (by with_reducible repeat (first | exact Ext.refl _ | exact ext_d _ _ _ _ | exact ext_app _ _ _ _ _ | exact ext_app2 _ _ _ _ _ _ | exact ext_app3 _ _ _ _ _ _ _ | apply Ext.drew | apply Ext.alloc | apply Ext.more_)))).mono ?_; rintro e w' ⟨rfl, hb⟩; obtain ⟨oss, dss, rfl⟩ := hb.more; clear hb))
                    go_ret
                    exact ⟨rfl, hxx.trans (by with_reducible repeat (first | exact Ext.refl _ | exact ext_d _ _ _ _ | exact ext_app _ _ _ _ _ | exact ext_app2 _ _ _ _ _ _ | exact ext_app3 _ _ _ _ _ _ _ | apply Ext.drew | apply Ext.alloc | apply Ext.more_))⟩
    · have hR' : (60 : Int) < (R : Int) := by omega
      go_enter Tryz.func7, Tryz.ntmps7
      go_wp2_with (first | (go_at_call 9; (with_reducible refine (awake15_any _ (HT.out.ext (by with_reducible repeat (first | exact Ext.refl _ | apply Ext.drew | apply Ext.alloc | apply Ext.more_)))).mono ?_); rintro e w' ⟨rfl, hb⟩; obtain ⟨osw, dw, rfl⟩ := hb.more; clear hb) | (go_at_call 12; (refine (small15_any _ 1 1 _ _ (gargs_one (by simp) rfl (HA.out.ext (by with_reducible repeat (first | exact Ext.refl _ | apply Ext.drew | apply Ext.alloc | apply Ext.more_))))).mono ?_); rintro e w' ⟨s, rfl, hs, hb⟩; obtain ⟨oss, ds, rfl⟩ := hb.more; clear hb; rcases hs with rfl | rfl) | (go_at_call 14; refine (hra _ (HA.out.ext (by with_reducible repeat (first | exact Ext.refl _ | apply Ext.drew | apply Ext.alloc | apply Ext.more_)))).mono ?_; rintro e w' ⟨rfl, hb⟩; obtain ⟨osr, dr, rfl⟩ := hb.more; clear hb))
      all_goals
        go_ret
        exact ⟨rfl, by with_reducible repeat (first | exact Ext.refl _ | apply Ext.drew | apply Ext.alloc | apply Ext.more_)⟩
end Go.Proofs.YtmjmijjbijlhfaaGreatDoor
namespace Go.Proofs.YtmjmijjbijlhfaaGreatDoor
open Go.ChangeShapes Go.WideShapes Go.ChangeAt Go.RowKit Go.Deep
set_option maxRecDepth 100000
section
variable {H : Type} {enc : TypeId × Value → H} {w : World} {base : Nat} {spare : Nat → Bool} {held : Bool}
theorem open_u64 {r : Reach} {b0 : Nat} {v : Value} {d : DataW H} {p : List MemPlace} (hv : Value.okWide Tryz.prog w r b0 47 v) (_h : DataW.Trod enc Tryz.prog w base spare held 47 v d p) : ∃ b : Int, v = .int .u64 b := by
  obtain ⟨b, rfl⟩ := okWide_int Tryz.underlying47 hv
  exact ⟨b, rfl⟩
end
end Go.Proofs.YtmjmijjbijlhfaaGreatDoor
