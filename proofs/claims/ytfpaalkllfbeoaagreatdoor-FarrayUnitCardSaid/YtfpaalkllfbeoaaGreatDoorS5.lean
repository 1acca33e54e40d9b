/- What the rows' proofs lean on: the contracts of the functions that they reach, and plain facts (part S5). -/
import Derived.WalkKit
import Derived.WalkLawsBesides
import Derived.WalkSpells
import Derived.Outline
import Derived.Below
import Derived.Deep.RegionHeld3
import Derived.Deep.DeepCutAuto
import Derived.Deep.AppendLies
import Derived.Maps.AppendAt
import Derived.Lib.Hide
import Derived.OrdersHeld
import Derived.Test.YtfpaalkllfbeoaaGreatDoorProg
import Derived.Shelf.Small.Bits
import Derived.Shelf.Small.Strs
import Derived.Shelf.Strconv.Itoa0
import Derived.Shelf.Strconv.Itoa1
import Derived.Shelf.LaysM
import Derived.Shelf.Strconv.Itoa2
import Derived.Shelf.Bits.Mul64
import Derived.Lib.ItoaMem
import Derived.Lib.OthersKept
import Derived.Deep.CutBlock
import Derived.Laws.Bits64b
import Derived.Lib.AppendZeros
import Derived.Lib.Bytealg
import Derived.Laws.RangeAny
import Derived.Maps.OwnSet
import Derived.Maps.Own
import Derived.Laws.EntriesVeiled
import Derived.Lib.ConvBytes
import Derived.Lib.SlBytesRow
import Derived.Lib.SmallJoins
import Derived.RegionTactic
import Derived.Shelf.SlIter.Nil
import Derived.Shelf.SortM.Plain
import Derived.Shelf.SortM.SortNone
import Derived.Ground.GgzProg
import Derived.Ground.SlgmProg
import Derived.Test.YtfpaalkllfbeoaaGreatDoorRows
import Derived.Test.YtfpaalkllfbeoaaGreatDoorCards
import Derived.Test.YtfpaalkllfbeoaaGreatDoorTie
import Derived.ProofKit
import Derived.LaidMore
import Derived.OpenShut
import Derived.ShutString
import Derived.ChangeOld
import Derived.Stop.Joined
import Derived.Deep.Slices
import Derived.SevenTiedAt
import Derived.Test.YtfpaalkllfbeoaaGreatDoorS4
set_option linter.unusedSimpArgs false
set_option linter.unusedVariables false
set_option maxRecDepth 100000
namespace Go.Proofs.YtfpaalkllfbeoaaGreatDoor
open Go.RowKit NM
theorem xor_unit : ∀ p : Fin 20, ∀ q : Fin 20, (1 : Int) - min (bits .xor .i64 (p.val : Int) (q.val : Int)) 1 = if p.val = q.val then 1 else 0 := by decide
theorem cnt_one : cntV 1 = oneN := by
  have h : wholeN 1 = (1, 0) := by unfold wholeN; rw [show rndI 1 0 = some (1, 0) from rnd_of_right false rt_one]; rfl
  unfold cntV; rw [h]; rfl
theorem cnt_nil : cntV 0 = nilN := by
  have h : wholeN 0 = (0, 0) := by unfold wholeN; rw [show rndI 0 0 = some (0, 0) from rnd_nought _ _ _]; rfl
  unfold cntV; rw [h]; rfl
def unitG (i j : Nat) : Val := if i = j then oneN else nilN
set_option maxHeartbeats 4000000 in
theorem unit15_any (n : Nat) (w : World) (h1 : 1 ≤ n) (h2 : n ≤ 20) :
    Calls Tryz.prog 24 #[.int .i64 (n : Int)] w fun e w' => ResA w (unitN n) e w' := by
  have hn2 : n * n ≤ 400 := Nat.mul_le_mul h2 h2
  have hw0 : IntKind.i64.wrap ((n : Int) * (n : Int)) = ((n * n : Nat) : Int) := by rw [IntKind.wrap_i64, ← Int.natCast_mul]; omega
  obtain ⟨T, hT⟩ : ∃ T, n * n = T := ⟨_, rfl⟩
  have hun : unitN n = ⟨n, n, vals unitG n T⟩ := by rw [← hT]; rfl
  rw [hun]
  rw [hT] at hw0 hn2
  have HT2 := Lib.hid hT
  clear hT hun
  obtain ⟨i0, hi0, hz0, hz1, hz2⟩ := info_parts info_val
  go_enter Tryz.func24, Tryz.ntmps24
  go_wp2_with fail
  go_loopw [11] (fun i wr => ∃ (k : Nat) (A : Option Addr) (c : Nat) (os : Array Obj) (d : Nat), k ≤ T ∧ i = .int .i64 (k : Int) ∧ wr = more ((w.alloc (Obj.cells #[.int .i64 0, .int .i64 0, .slice none 0 0] 31)).alloc (Obj.cells #[.int .i64 (n : Int), .int .i64 (n : Int), .slice A k c] 31)) os d ∧ Hid (wr.ownsRow (w.heap.size + 2) 43 6 (.slice A k c) k (vcells (vals unitG n k)))) (fun i _ => T - (intOf i).toNat)
  case atStart => exact ⟨0, none, 0, #[], _, Nat.zero_le _, rfl, (more_none _).symm, World.ownsRow_nil _ _ _ _⟩
  case round =>
    obtain ⟨k, A, c, os, d, hk, rfl, rfl, HO⟩ := hrel
    by_cases hlt : k < T
    · have hlt' : (k : Int) < (T : Int) := by omega
      have hn0 : (n : Int) ≠ 0 := by omega
      have hq : k / n < 20 := by have := HT2.out; have : k / n < n := Nat.div_lt_of_lt_mul (by omega); omega
      have hr : k % n < 20 := by have := Nat.mod_lt k (show 0 < n by omega); omega
      have hx := xor_unit ⟨k / n, hq⟩ ⟨k % n, hr⟩
      simp only at hx
      have hn1 : n ≠ 0 := by omega
      have hwq : IntKind.i64.wrap ((k : Int) / (n : Int)) = (k : Int) / (n : Int) := by
        have e : (k : Int) / (n : Int) = ((k / n : Nat) : Int) := (Int.natCast_ediv _ _).symm
        rw [IntKind.wrap_i64, e]
        generalize k / n = q at hq ⊢
        omega
      have harg : IntKind.i64.wrap (1 - min (bits .xor .i64 ((k : Int) / (n : Int)) ((k : Int).tmod (n : Int))) 1) = (if k / n = k % n then 1 else 0 : Int) := by
        rw [Int.tmod_eq_emod_of_nonneg (by omega), ← Int.natCast_ediv, ← Int.natCast_emod, hx]
        split <;> rfl
      have hcv : cntV (if k / n = k % n then 1 else 0) = unitG (k / n) (k % n) := by
        unfold unitG
        split
        · exact cnt_one
        · exact cnt_nil
      have hnum := fun W => num15_any (if k / n = k % n then 1 else 0) W (by split <;> decide)
      rw [hcv] at hnum
      have hvs : vals unitG n (k + 1) = vals unitG n k ++ [unitG (k / n) (k % n)] := by unfold vals; rw [List.range_succ, List.map_append]; rfl
      go_upto_region 5 with fail
      refine wp_plan (S := Ext ((w.alloc (Obj.cells #[.int .i64 0, .int .i64 0, .slice none 0 0] 31)).alloc (Obj.cells #[.int .i64 (n : Int), .int .i64 (n : Int), .slice A k c] 31))) [(0, 0), (1, 0), (2, 0), (3, 0), (4, 0), (5, 0), (6, 0), (7, 0), (8, 0), (9, 0), (10, 0), (11, 1), (12, 0), (13, 0), (14, 1), (15, 1), (16, 1), (17, 0), (18, 2)] [18] (by kernel_rfl) (by kernel_rfl) (by kernel_rfl) (fun _ _ d _ _ h => by cases d <;> exact h) (Ext.drew (ext_more _ _ _)) ?_
      iterate 11 ((refine wpPl_read (v := ?_) rfl ?_ (fun _ h => ?_) ?_; rotate_left 1; rfl; (obtain ⟨_, _, rfl⟩ := h.more; go_simp; try rfl)); try simp only [Act.put, zqA, zqB, zqC])
      (refine wpPl_eff rfl ?_ (fun K hK => ?_); rfl; go_simp; refine (hnum _).mono ?_; rintro e w' ⟨D, m, cc, rfl, hD, hb⟩; obtain ⟨osf, df, rfl⟩ := hb.more; clear hb; refine hK _ _ ?_ ?_; (with_reducible repeat (first | exact Ext.refl _ | exact ext_more _ _ _ | apply Ext.drew | apply Ext.alloc | apply Ext.more_)))
      try simp only [Act.put, zqA, zqB, zqC]
      obtain ⟨x, b, off, hx0, _, rfl, hat⟩ := hD.arr.at (k := 0) (by have := hD.len; simp [oneA] at this; omega)
      obtain rfl : unitG (k / n) (k % n) = x := by simpa [oneA] using hx0
      have hm1 : m = 1 := by have := hD.len; simp [oneA] at this; omega
      subst hm1
      have hcc := hD.cap
      generalize unitG (k / n) (k % n) = x at *
      obtain ⟨y0, y1, y2, y3, y4, y5⟩ := hat
      simp only [Nat.zero_mul, Nat.add_zero, more_more] at y0 y1 y2 y3 y4 y5
      have lx := lt_of_cell y0
      clear hx0 hD hnum hcv harg hx
      iterate 2 ((refine wpPl_read (v := ?_) rfl ?_ (fun _ h => ?_) ?_; rotate_left 1; rfl; (obtain ⟨_, _, rfl⟩ := h.more; go_simp; try rfl)); try simp only [Act.put, zqA, zqB, zqC])
      iterate 2 ((refine wpPl_eff rfl ?_ (fun K hK => ?_); rfl; go_simp; refine hK _ _ ?_ ?_; (with_reducible repeat (first | exact Ext.refl _ | exact ext_more _ _ _ | apply Ext.drew | apply Ext.alloc | apply Ext.more_))); try simp only [Act.put, zqA, zqB, zqC])
      (refine wpPl_eff rfl ?_ (fun K hK => ?_); rfl)
      refine wp_append_own _ _ _ _ rfl (w.heap.size + 2) 43 i0 (VV 0 0 0 ⟨#[]⟩ false 0) 6 56 Tryz.underlying29 hi0 hz0 hz1 hz2 rfl (by decide) (.slice A k c) k (vcells (vals unitG n k)) rfl (own_ext HO.out (by with_reducible repeat (first | exact Ext.refl _ | exact ext_d _ _ _ _ | exact ext_app _ _ _ _ _ | exact ext_app2 _ _ _ _ _ _ | exact ext_app3 _ _ _ _ _ _ _ | exact ext_app4 _ _ _ _ _ _ _ _ | apply Ext.drew | apply Ext.alloc | apply Ext.more_))) _ 1 1 (Val.cells x) rfl rfl (new_cells_at _ _ _ (by simp) rfl _) (cells_one _) (by simp only [maxLen]; omega) (by omega) (by simp; omega) ?_
      intro v4 w4 ho4 hg4
      have hx4 : Ext ((w.alloc (Obj.cells #[.int .i64 0, .int .i64 0, .slice none 0 0] 31)).alloc (Obj.cells #[.int .i64 (n : Int), .int .i64 (n : Int), .slice A k c] 31)) w4 := ext_grownN (n := k) (ty := 43) (size := 6) (xs := vcells (vals unitG n k)) (v := .slice A k c) (by with_reducible repeat (first | exact Ext.refl _ | exact ext_d _ _ _ _ | exact ext_app _ _ _ _ _ | exact ext_app2 _ _ _ _ _ _ | exact ext_app3 _ _ _ _ _ _ _ | exact ext_app4 _ _ _ _ _ _ _ _ | apply Ext.drew | apply Ext.alloc | apply Ext.more_)) (by simpa [Nat.add_assoc] using own_ext HO.out (by with_reducible repeat (first | exact Ext.refl _ | exact ext_d _ _ _ _ | exact ext_app _ _ _ _ _ | exact ext_app2 _ _ _ _ _ _ | exact ext_app3 _ _ _ _ _ _ _ | exact ext_app4 _ _ _ _ _ _ _ _ | apply Ext.drew | apply Ext.alloc | apply Ext.more_))) hg4
      obtain ⟨os9, d9, rfl⟩ := hx4.more
      obtain ⟨G4, c4, rfl⟩ := own_slice ho4
      have HO4 := Lib.hid ho4
      clear ho4 hg4 hx4
      refine hK _ _ (ext_more _ _ _) ?_
      try simp only [Act.put, zqA, zqB, zqC]
      (refine wpPl_read (v := ?_) rfl ?_ (fun _ h => ?_) ?_; rotate_left 1; rfl; (obtain ⟨_, _, rfl⟩ := h.more; go_simp; try rfl))
      try simp only [Act.put, zqA, zqB, zqC]
      (refine wpPl_tail rfl ?_ (fun K hK => ?_); rfl; go_simp; refine hK _ _ ?_)
      try simp only [Act.put, zqA, zqB, zqC]
      refine wpPl_nil ?_
      go_wp2_with fail
      refine ⟨⟨k + 1, G4, c4, os9, _, by omega, by go_num, rfl, ?_⟩, by simp [intOf]; omega⟩
      show World.ownsRow _ _ _ _ _ _ _
      rw [hvs, vcells_append]
      refine own_one (Z := w.alloc (Obj.cells #[.int .i64 0, .int .i64 0, .slice none 0 0] 31)) (o := .cells #[.int .i64 (n : Int), .int .i64 (n : Int), .slice A k c] 31) (.cells #[.int .i64 (n : Int), .int .i64 (n : Int), .slice G4 (k + 1) c4] 31) ?_ (by simp)
      simpa [vcells, Nat.add_assoc] using HO4.out
    · obtain rfl : k = T := by omega
      obtain ⟨D, cc, hv, hD⟩ := own_arrN (n := k) (l := vals unitG n k) (v := .slice A k c) (w := ((w.alloc (Obj.cells #[.int .i64 0, .int .i64 0, .slice none 0 0] 31)).alloc (Obj.cells #[.int .i64 (n : Int), .int .i64 (n : Int), .slice A k c] 31))) (X := ((w.alloc (Obj.cells #[.int .i64 0, .int .i64 0, .slice none 0 0] 31)).alloc (Obj.cells #[.int .i64 (n : Int), .int .i64 (n : Int), .slice A k c] 31))) (by simpa [Nat.add_assoc] using HO.out) (by simp only [World.size_alloc, more_size]; omega) (by omega) (fun x hx => by obtain ⟨t, _, rfl⟩ := List.mem_map.1 hx; unfold unitG; split; exact (right_num rt_one).ok; exact (right_num rt_zero).ok)
      simp only [Value.slice.injEq, true_and] at hv
      obtain ⟨rfl, rfl⟩ := hv
      have hDr := hD.rd
      go_wp2_with fail
      refine bodyPost_ret (v := AV n n (.slice A k c)) (by simp [results, Tryz.results24, go_sem]) rfl ⟨A, k, c, rfl, ⟨(by (try simp only [more_alloc, more_more] at hDr); (try simp only [more_alloc, more_more]); (try simp only [drew_more] at hDr); (try simp only [more_drew] at hDr); (try simp only [Array.append_assoc] at hDr); (try simp only [Array.append_assoc]); exact Rd.swap hDr (by first | (simp; done) | (simp; omega) | omega) (by first | (simp; done) | (simp; omega) | omega) (by first | (simp; done) | (simp; omega) | omega)), hD.len, hD.cap, hD.small, hD.ok⟩, by with_reducible repeat (first | exact Ext.refl _ | apply Ext.drew | apply Ext.alloc | apply Ext.more_)⟩
end Go.Proofs.YtfpaalkllfbeoaaGreatDoor
namespace Go.Proofs.YtfpaalkllfbeoaaGreatDoor
open Go.RowKit NM
set_option maxHeartbeats 2000000 in
theorem one15_any (s : ByteArray) (A : Option Addr) (n cap : Nat) (w : World) (X : NA) (hp : ∀ W, Ext w W → Calls Tryz.prog 18 #[.string s, .slice A n cap] W (CallG W X)) :
    Calls Tryz.prog 22 #[.string s, .slice A n cap] w fun e w' => ResA w X e w' := by
  go_enter Tryz.func22, Tryz.ntmps22
  go_wp2_with (go_at_call 18; (with_reducible refine (hp _ (by with_reducible repeat (first | exact Ext.refl _ | apply Ext.drew | apply Ext.alloc | apply Ext.more_))).mono ?_); rintro e w' ⟨D, m, cc, rfl, hD, hb⟩; obtain ⟨os1, d1, rfl⟩ := hb.more; clear hb; have hDr := hD.rd)
  exact bodyPost_ret (v := AV X.R X.C (.slice D m cc)) (by simp [results, Tryz.results22, go_sem]) rfl ⟨D, m, cc, rfl, ⟨(by have h9 := Rd.alloc hDr (.cells #[.int .i64 X.R, .int .i64 X.C, .slice D m cc] 31); simp only [more_alloc] at h9; (try simp only [more_alloc]); exact Rd.swap h9 (by first | (simp; done) | (simp; omega) | omega) (by first | (simp; done) | (simp; omega) | omega) (by first | (simp; done) | (simp; omega) | omega)), hD.len, hD.cap, hD.small, hD.ok⟩, by with_reducible repeat (first | exact Ext.refl _ | apply Ext.drew | apply Ext.alloc | apply Ext.more_)⟩
end Go.Proofs.YtfpaalkllfbeoaaGreatDoor
namespace Go.Proofs.YtfpaalkllfbeoaaGreatDoor
open Go.RowKit NM
theorem one_mmult (a b : NA) (A B P : Option Addr) (n cap n' cap' : Nat) (w : World) (htab : Tab w) (h : ArgsIn w P 2 2 [arAt a A n cap, arAt b B n' cap']) : Calls Tryz.prog 22 #[.string ⟨#[77, 77, 85, 76, 84]⟩, .slice P 2 2] w fun e w' => ResA w (multT a b) e w' :=
  one15_any _ P 2 2 w _ (fun W hW => by
    have hc := pcall_mmult P 2 2 _ W (htab.ext hW) (h.ext hW).toG
    rw [arsOf_toG, callX_in _ (Nat.le_refl 2) (Nat.le_refl 2) (fun a ha => (h.all a ha).right)] at hc
    exact hc)
set_option maxHeartbeats 8000000 in
theorem farrayUnit_any (r c : Int) (A : Option Addr) (n cap : Nat) (l : List Val) (w : World) (htab : Tab w) (h : ArrIn w A n cap l) :
    Calls Tryz.prog 9 #[AV r c (.slice A n cap)] w fun e w' => e = .returned (.bool true) ∧ Ext w w' := by
  have HT := Lib.hid htab
  have HA := Lib.hid h
  have hok := h.ok
  have hra := fun W (hW : ArrIn W A n cap l) => refRightA_any r c A n cap l W hW
  rw [← rightA_eq _ _ _ hok] at hra
  cases hr : rightA r c l with
  | false =>
    rw [hr] at hra
    clear htab h hok hr
    go_enter Tryz.func9, Tryz.ntmps9
    go_wp2_with (first | (go_at_call 11; (with_reducible refine (awake15_any _ (HT.out.ext (by with_reducible repeat (first | exact Ext.refl _ | apply Ext.drew | apply Ext.alloc | apply Ext.more_)))).mono ?_); rintro e w' ⟨rfl, hb⟩; obtain ⟨osw, dw, rfl⟩ := hb.more; clear hb) | (go_at_call 14; (refine (small15_any _ 1 1 _ _ (gargs_one (by simp) rfl (HA.out.ext (by with_reducible repeat (first | exact Ext.refl _ | apply Ext.drew | apply Ext.alloc | apply Ext.more_))))).mono ?_); rintro e w' ⟨s, rfl, hs, hb⟩; obtain ⟨oss, ds, rfl⟩ := hb.more; clear hb; rcases hs with rfl | rfl) | (go_at_call 16; refine (hra _ (HA.out.ext (by with_reducible repeat (first | exact Ext.refl _ | apply Ext.drew | apply Ext.alloc | apply Ext.more_)))).mono ?_; rintro e w' ⟨rfl, hb⟩; obtain ⟨osr, dr, rfl⟩ := hb.more; clear hb))
    all_goals
      go_ret
      exact ⟨rfl, by with_reducible repeat (first | exact Ext.refl _ | apply Ext.drew | apply Ext.alloc | apply Ext.more_)⟩
  | true =>
    obtain ⟨R, C, rfl, rfl⟩ := rightA_shape hr
    rw [hr] at hra
    have har : NA.right ⟨R, C, l⟩ := hr
    obtain ⟨r1, r2, r3, r4, r5⟩ := rightA_nat.1 har
    simp only at r1 r2 r3 r4
    have hln := h.len
    have hcap := h.cap
    have hsm := h.small
    obtain ⟨x0, b, off, _, _, hA0, _⟩ := h.at (k := 0) (by have := Nat.mul_pos r1 r2; omega)
    subst hA0
    clear htab h hok hr r5
    by_cases hR : R ≤ 20
    · by_cases hC : C ≤ 20
      · have hR' : ¬ (20 : Int) < (R : Int) := by omega
        have hC' : ¬ (20 : Int) < (C : Int) := by omega
        go_enter Tryz.func9, Tryz.ntmps9
        go_upto_region 5 with (first | (go_at_call 11; (with_reducible refine (awake15_any _ (HT.out.ext (by with_reducible repeat (first | exact Ext.refl _ | apply Ext.drew | apply Ext.alloc | apply Ext.more_)))).mono ?_); rintro e w' ⟨rfl, hb⟩; obtain ⟨osw, dw, rfl⟩ := hb.more; clear hb) | (go_at_call 14; (refine (small15_any _ 1 1 _ _ (gargs_one (by simp) rfl (HA.out.ext (by with_reducible repeat (first | exact Ext.refl _ | apply Ext.drew | apply Ext.alloc | apply Ext.more_))))).mono ?_); rintro e w' ⟨s, rfl, hs, hb⟩; obtain ⟨oss, ds, rfl⟩ := hb.more; clear hb; rcases hs with rfl | rfl) | (go_at_call 16; refine (hra _ (HA.out.ext (by with_reducible repeat (first | exact Ext.refl _ | apply Ext.drew | apply Ext.alloc | apply Ext.more_)))).mono ?_; rintro e w' ⟨rfl, hb⟩; obtain ⟨osr, dr, rfl⟩ := hb.more; clear hb))
        · go_ret
          exact ⟨rfl, by with_reducible repeat (first | exact Ext.refl _ | apply Ext.drew | apply Ext.alloc | apply Ext.more_)⟩
        · refine wp_world fun U hU => ?_
          have hx : Ext w U := by rw [hU]; exact (by with_reducible repeat (first | exact Ext.refl _ | apply Ext.drew | apply Ext.alloc | apply Ext.more_))
          have c0 : U.cell? ⟨w.heap.size, 0, none⟩ = some (.int .i64 (R : Int)) := by rw [hU]; go_simp
          have c1 : U.cell? ⟨w.heap.size, 1, none⟩ = some (.int .i64 (C : Int)) := by rw [hU]; go_simp
          have c2 : U.cell? ⟨w.heap.size, 2, none⟩ = some (.slice (some ⟨b, off, none⟩) n cap) := by rw [hU]; go_simp
          have la := lt_of_cell c0
          clear hU
          go_wp2_with fail
          go_loopw [30] (fun i wr => ∃ k : Nat, k ≤ n ∧ i = .int .i64 (k : Int) ∧ Ext U wr ∧ Hid (∀ j y, j < k → l[j]? = some y → y.kind = 1)) (fun i _ => n - (intOf i).toNat)
          case atStart => exact ⟨0, Nat.zero_le _, rfl, Ext.refl _, fun j y hj => absurd hj (Nat.not_lt_zero _)⟩
          case round =>
            obtain ⟨k, hk, rfl, hX, HK⟩ := hrel
            have hX0 := hX
            obtain ⟨os, d, rfl⟩ := hX.more
            clear hX
            by_cases hlt : k < n
            · have hlt' : (k : Int) < (n : Int) := by omega
              obtain ⟨x, bq, oq, hxk, hxo, hq, hat⟩ := HA.out.at hlt
              simp only [Option.some.injEq, Addr.mk.injEq, and_true] at hq
              obtain ⟨rfl, rfl⟩ := hq
              obtain ⟨y0, y1, y2, y3, y4, y5⟩ := hat.ext hx
              clear hat
              have lx := lt_of_cell y0
              by_cases hkk : x.kind = 1
              · have hkk' : (x.kind != 1) = false := by simpa using hkk
                have HK2 : Hid (∀ j y, j < k + 1 → l[j]? = some y → y.kind = 1) := fun j y hj hy => by
                  by_cases e : j = k
                  · subst e; rw [hxk] at hy; obtain rfl : x = y := by simpa using hy
                    exact hkk
                  · exact HK.out j y (by omega) hy
                clear hkk hxk hxo
                have hn4 : n ≤ 4096 := by omega
                go_wp2_with fail
                exact ⟨⟨k + 1, by omega, by go_num, by with_reducible repeat (first | exact Ext.refl _ | apply Ext.drew | apply Ext.alloc | apply Ext.more_), HK2⟩, by simp [intOf]; omega⟩
              · have hkk' : (x.kind != 1) = true := by simpa using hkk
                clear hkk hxk hxo
                go_wp2_with fail
                go_ret
                exact ⟨rfl, by first | exact hx.trans (by with_reducible repeat (first | exact Ext.refl _ | apply Ext.drew | apply Ext.alloc | apply Ext.more_)) | exact (by with_reducible repeat (first | exact Ext.refl _ | apply Ext.drew | apply Ext.alloc | apply Ext.more_))⟩
            · have hkinds : ∀ x ∈ l, x.kind = 1 := fun y hy => by
                obtain ⟨j, hj, rfl⟩ := List.mem_iff_getElem.1 hy
                exact HK.out j _ (by omega) (List.getElem?_eq_getElem hj)
              have m1 := mult_unit (a := ⟨R, C, l⟩) har hkinds
              have m2 := unit_mult (a := ⟨R, C, l⟩) har hkinds
              have hu1 := fun W => unit15_any C W r2 hC
              have hu2 := fun W => unit15_any R W r1 hR
              have ur1 : (unitN C).right := unit_right r2 (by omega)
              have ur2 : (unitN R).right := unit_right r1 (by omega)
              have hsa : sameA R C l R C l = true := by simp [sameA]
              clear hkinds HK
              go_upto_region 12 with fail
              refine wp_plan (S := Ext _) [(0, 0), (1, 0), (2, 0), (3, 0), (7, 0), (4, 1), (5, 1), (6, 1), (8, 1), (9, 0), (10, 0), (11, 0), (12, 0), (14, 0), (17, 0), (13, 1), (15, 1), (16, 1), (18, 1), (19, 0), (20, 0)] [] (by kernel_rfl) (by kernel_rfl) (by kernel_rfl) (fun _ _ d _ _ h => by cases d <;> exact h) (Ext.drew (Ext.refl _)) ?_
              iterate 5 ((refine wpPl_read (v := ?_) rfl ?_ (fun _ h => ?_) ?_; rotate_left 1; rfl; (obtain ⟨_, _, rfl⟩ := h.more; go_simp; try rfl)); try simp only [Act.put, zqA, zqB, zqC])
              (refine wpPl_eff rfl ?_ (fun K hK => ?_); rfl; go_simp; (refine (hu1 _).mono ?_; rintro e w' ⟨D1, q1, c1, rfl, hD1, hb⟩; obtain ⟨osa, da, rfl⟩ := hb.more; clear hb; (try simp only [more_more, Array.append_assoc] at hD1)); refine hK _ _ ?_ ?_; (repeat (first | (with_reducible (first | exact Ext.refl _ | exact ext_d _ _ _ _ | exact ext_app _ _ _ _ _ | exact ext_app2 _ _ _ _ _ _ | exact ext_app3 _ _ _ _ _ _ _ | exact ext_app4 _ _ _ _ _ _ _ _ | exact ext_app5 _ _ _ _ _ _ _ _ _)) | ((with_reducible refine ext_suffix ⟨_, ?_⟩); (try simp only [Array.append_assoc]); rfl) | (with_reducible (first | apply Ext.drew | apply Ext.alloc | apply Ext.more_)) | apply Ext.drew | apply Ext.alloc | apply Ext.more_)))
              try simp only [Act.put, zqA, zqB, zqC]
              (refine wpPl_eff rfl ?_ (fun K hK => ?_); rfl; go_simp; refine hK _ _ ?_ ?_; (repeat (first | (with_reducible (first | exact Ext.refl _ | exact ext_d _ _ _ _ | exact ext_app _ _ _ _ _ | exact ext_app2 _ _ _ _ _ _ | exact ext_app3 _ _ _ _ _ _ _ | exact ext_app4 _ _ _ _ _ _ _ _ | exact ext_app5 _ _ _ _ _ _ _ _ _)) | ((with_reducible refine ext_suffix ⟨_, ?_⟩); (try simp only [Array.append_assoc]); rfl) | (with_reducible (first | apply Ext.drew | apply Ext.alloc | apply Ext.more_)) | apply Ext.drew | apply Ext.alloc | apply Ext.more_)))
              try simp only [Act.put, zqA, zqB, zqC]
              (refine wpPl_eff rfl ?_ (fun K hK => ?_); rfl; go_simp; (refine (one_mmult ⟨R, C, l⟩ (unitN C) (some ⟨b, off, none⟩) D1 _ n cap q1 c1 _ (HT.out.ext (hx.trans (by with_reducible repeat (first | exact Ext.refl _ | exact ext_d _ _ _ _ | exact ext_app _ _ _ _ _ | exact ext_app2 _ _ _ _ _ _ | exact ext_app3 _ _ _ _ _ _ _ | apply Ext.drew | apply Ext.alloc | apply Ext.more_)))) (argsG_new [arAt ⟨R, C, l⟩ (some ⟨b, off, none⟩) n cap, arAt (unitN C) D1 q1 c1] (by simp) rfl rfl (by decide) (by intro a ha; simp only [List.mem_cons, List.not_mem_nil, or_false] at ha; rcases ha with rfl | rfl; exact ⟨HA.out.ext (hx.trans (by with_reducible repeat (first | exact Ext.refl _ | exact ext_d _ _ _ _ | exact ext_app _ _ _ _ _ | exact ext_app2 _ _ _ _ _ _ | exact ext_app3 _ _ _ _ _ _ _ | apply Ext.drew | apply Ext.alloc | apply Ext.more_))), har⟩; exact ⟨hD1.arr.ext (by with_reducible repeat (first | exact Ext.refl _ | exact ext_d _ _ _ _ | exact ext_app _ _ _ _ _ | exact ext_app2 _ _ _ _ _ _ | exact ext_app3 _ _ _ _ _ _ _ | apply Ext.drew | apply Ext.alloc | apply Ext.more_)), ur1⟩))).mono ?_; rw [m1]; rintro e w' ⟨D2, q2, c2, rfl, hD2, hb⟩; obtain ⟨osb, db, rfl⟩ := hb.more; clear hb; (try simp only [more_more, Array.append_assoc] at hD2)); refine hK _ _ ?_ ?_; (repeat (first | (with_reducible (first | exact Ext.refl _ | exact ext_d _ _ _ _ | exact ext_app _ _ _ _ _ | exact ext_app2 _ _ _ _ _ _ | exact ext_app3 _ _ _ _ _ _ _ | exact ext_app4 _ _ _ _ _ _ _ _ | exact ext_app5 _ _ _ _ _ _ _ _ _)) | ((with_reducible refine ext_suffix ⟨_, ?_⟩); (try simp only [Array.append_assoc]); rfl) | (with_reducible (first | apply Ext.drew | apply Ext.alloc | apply Ext.more_)) | apply Ext.drew | apply Ext.alloc | apply Ext.more_)))
              try simp only [Act.put, zqA, zqB, zqC]
              (refine wpPl_eff rfl ?_ (fun K hK => ?_); rfl; go_simp; (refine (refSame_any R C R C D2 _ q2 c2 n cap l l _ (hD2.arr.ext (by with_reducible repeat (first | exact Ext.refl _ | exact ext_d _ _ _ _ | exact ext_app _ _ _ _ _ | exact ext_app2 _ _ _ _ _ _ | exact ext_app3 _ _ _ _ _ _ _ | apply Ext.drew | apply Ext.alloc | apply Ext.more_))) (HA.out.ext (hx.trans (by with_reducible repeat (first | exact Ext.refl _ | exact ext_d _ _ _ _ | exact ext_app _ _ _ _ _ | exact ext_app2 _ _ _ _ _ _ | exact ext_app3 _ _ _ _ _ _ _ | apply Ext.drew | apply Ext.alloc | apply Ext.more_))))).mono ?_; rw [hsa]; rintro e w' ⟨rfl, hb⟩; obtain ⟨osc, dc, rfl⟩ := hb.more; clear hb); refine hK _ _ ?_ ?_; (repeat (first | (with_reducible (first | exact Ext.refl _ | exact ext_d _ _ _ _ | exact ext_app _ _ _ _ _ | exact ext_app2 _ _ _ _ _ _ | exact ext_app3 _ _ _ _ _ _ _ | exact ext_app4 _ _ _ _ _ _ _ _ | exact ext_app5 _ _ _ _ _ _ _ _ _)) | ((with_reducible refine ext_suffix ⟨_, ?_⟩); (try simp only [Array.append_assoc]); rfl) | (with_reducible (first | apply Ext.drew | apply Ext.alloc | apply Ext.more_)) | apply Ext.drew | apply Ext.alloc | apply Ext.more_)))
              try simp only [Act.put, zqA, zqB, zqC]
              (refine wpPl_read (v := ?_) rfl ?_ (fun _ h => ?_) ?_; rotate_left 1; rfl; (obtain ⟨_, _, rfl⟩ := h.more; go_simp; try rfl))
              try simp only [Act.put, zqA, zqB, zqC]
              iterate 5 ((first | (refine wpPl_skip rfl rfl ?_) | (refine wpPl_read (v := ?_) rfl ?_ (fun w1 h1 => ?_) ?_; rotate_left 1; rfl; (obtain ⟨os1, d1, rfl⟩ := h1.more; go_simp; first | done | rfl)) | (refine wpPl_gread (v := ?_) (c := ?_) rfl rfl rfl rfl ?_ (fun hc w1 h1 => ?_) ?_; rotate_left 2; (first | exact gc_t _ | exact gc_f _ | exact gc_gt _ _ | exact gc_gf _ _); (obtain ⟨os1, d1, rfl⟩ := h1.more; (try simp only [gv_of hc]); (try (have hc1 := and_l hc; (try simp only [gv_of hc1]); (try (have hc2 := and_l hc1; (try simp only [gv_of hc2]))))); go_simp; first | done | rfl))); try simp only [Act.put, zqA, zqB, zqC])
              (refine wpPl_eff rfl ?_ (fun K hK => ?_); (first | with_reducible rfl | rfl | (go_simp; done)); go_simp; (refine (hu2 _).mono ?_; rintro e w' ⟨D3, q3, c3, rfl, hD3, hb⟩; obtain ⟨osd, dd, rfl⟩ := hb.more; clear hb; (try simp only [more_more, Array.append_assoc] at hD3)); refine hK _ _ ?_ ?_; (repeat (first | (with_reducible (first | exact Ext.refl _ | exact ext_d _ _ _ _ | exact ext_app _ _ _ _ _ | exact ext_app2 _ _ _ _ _ _ | exact ext_app3 _ _ _ _ _ _ _ | exact ext_app4 _ _ _ _ _ _ _ _ | exact ext_app5 _ _ _ _ _ _ _ _ _)) | ((with_reducible refine ext_suffix ⟨_, ?_⟩); (try simp only [Array.append_assoc]); rfl) | (with_reducible (first | apply Ext.drew | apply Ext.alloc | apply Ext.more_)) | apply Ext.drew | apply Ext.alloc | apply Ext.more_)))
              try simp only [Act.put, zqA, zqB, zqC]
              first | (refine wpPl_effskip rfl ?_ ?_ ?_; (first | with_reducible rfl | rfl | (go_simp; done)); (repeat (first | (with_reducible (first | exact Ext.refl _ | exact ext_d _ _ _ _ | exact ext_app _ _ _ _ _ | exact ext_app2 _ _ _ _ _ _ | exact ext_app3 _ _ _ _ _ _ _ | exact ext_app4 _ _ _ _ _ _ _ _ | exact ext_app5 _ _ _ _ _ _ _ _ _)) | ((with_reducible refine ext_suffix ⟨_, ?_⟩); (try simp only [Array.append_assoc]); rfl) | (with_reducible (first | apply Ext.drew | apply Ext.alloc | apply Ext.more_)) | apply Ext.drew | apply Ext.alloc | apply Ext.more_))) | (refine wpPl_eff rfl ?_ (fun K hK => ?_); (first | with_reducible rfl | rfl | (go_simp; done)); go_simp; refine hK _ _ ?_ ?_; (repeat (first | (with_reducible (first | exact Ext.refl _ | exact ext_d _ _ _ _ | exact ext_app _ _ _ _ _ | exact ext_app2 _ _ _ _ _ _ | exact ext_app3 _ _ _ _ _ _ _ | exact ext_app4 _ _ _ _ _ _ _ _ | exact ext_app5 _ _ _ _ _ _ _ _ _)) | ((with_reducible refine ext_suffix ⟨_, ?_⟩); (try simp only [Array.append_assoc]); rfl) | (with_reducible (first | apply Ext.drew | apply Ext.alloc | apply Ext.more_)) | apply Ext.drew | apply Ext.alloc | apply Ext.more_)))
              try simp only [Act.put, zqA, zqB, zqC]
              (refine wpPl_eff rfl ?_ (fun K hK => ?_); (first | with_reducible rfl | rfl | (go_simp; done)); go_simp; (refine (one_mmult (unitN R) ⟨R, C, l⟩ D3 (some ⟨b, off, none⟩) _ q3 c3 n cap _ (HT.out.ext (hx.trans (by with_reducible repeat (first | exact Ext.refl _ | exact ext_d _ _ _ _ | exact ext_app _ _ _ _ _ | exact ext_app2 _ _ _ _ _ _ | exact ext_app3 _ _ _ _ _ _ _ | apply Ext.drew | apply Ext.alloc | apply Ext.more_)))) (argsG_new [arAt (unitN R) D3 q3 c3, arAt ⟨R, C, l⟩ (some ⟨b, off, none⟩) n cap] (by simp) rfl rfl (by decide) (by intro a ha; simp only [List.mem_cons, List.not_mem_nil, or_false] at ha; rcases ha with rfl | rfl; exact ⟨hD3.arr.ext (by with_reducible repeat (first | exact Ext.refl _ | exact ext_d _ _ _ _ | exact ext_app _ _ _ _ _ | exact ext_app2 _ _ _ _ _ _ | exact ext_app3 _ _ _ _ _ _ _ | apply Ext.drew | apply Ext.alloc | apply Ext.more_)), ur2⟩; exact ⟨HA.out.ext (hx.trans (by with_reducible repeat (first | exact Ext.refl _ | exact ext_d _ _ _ _ | exact ext_app _ _ _ _ _ | exact ext_app2 _ _ _ _ _ _ | exact ext_app3 _ _ _ _ _ _ _ | apply Ext.drew | apply Ext.alloc | apply Ext.more_))), har⟩))).mono ?_; rw [m2]; rintro e w' ⟨D4, q4, c4, rfl, hD4, hb⟩; obtain ⟨ose, de, rfl⟩ := hb.more; clear hb; (try simp only [more_more, Array.append_assoc] at hD4)); refine hK _ _ ?_ ?_; (repeat (first | (with_reducible (first | exact Ext.refl _ | exact ext_d _ _ _ _ | exact ext_app _ _ _ _ _ | exact ext_app2 _ _ _ _ _ _ | exact ext_app3 _ _ _ _ _ _ _ | exact ext_app4 _ _ _ _ _ _ _ _ | exact ext_app5 _ _ _ _ _ _ _ _ _)) | ((with_reducible refine ext_suffix ⟨_, ?_⟩); (try simp only [Array.append_assoc]); rfl) | (with_reducible (first | apply Ext.drew | apply Ext.alloc | apply Ext.more_)) | apply Ext.drew | apply Ext.alloc | apply Ext.more_)))
              try simp only [Act.put, zqA, zqB, zqC]
              (refine wpPl_eff rfl ?_ (fun K hK => ?_); (first | with_reducible rfl | rfl | (go_simp; done)); go_simp; (refine (refSame_any R C R C D4 _ q4 c4 n cap l l _ (hD4.arr.ext (by with_reducible repeat (first | exact Ext.refl _ | exact ext_d _ _ _ _ | exact ext_app _ _ _ _ _ | exact ext_app2 _ _ _ _ _ _ | exact ext_app3 _ _ _ _ _ _ _ | apply Ext.drew | apply Ext.alloc | apply Ext.more_))) (HA.out.ext (hx.trans (by with_reducible repeat (first | exact Ext.refl _ | exact ext_d _ _ _ _ | exact ext_app _ _ _ _ _ | exact ext_app2 _ _ _ _ _ _ | exact ext_app3 _ _ _ _ _ _ _ | apply Ext.drew | apply Ext.alloc | apply Ext.more_))))).mono ?_; rw [hsa]; rintro e w' ⟨rfl, hb⟩; obtain ⟨osf, df, rfl⟩ := hb.more; clear hb); refine hK _ _ ?_ ?_; (repeat (first | (with_reducible (first | exact Ext.refl _ | exact ext_d _ _ _ _ | exact ext_app _ _ _ _ _ | exact ext_app2 _ _ _ _ _ _ | exact ext_app3 _ _ _ _ _ _ _ | exact ext_app4 _ _ _ _ _ _ _ _ | exact ext_app5 _ _ _ _ _ _ _ _ _)) | ((with_reducible refine ext_suffix ⟨_, ?_⟩); (try simp only [Array.append_assoc]); rfl) | (with_reducible (first | apply Ext.drew | apply Ext.alloc | apply Ext.more_)) | apply Ext.drew | apply Ext.alloc | apply Ext.more_)))
              try simp only [Act.put, zqA, zqB, zqC]
              first | (refine wpPl_pick_and rfl rfl rfl rfl rfl rfl ?_) | (refine wpPl_pick_or rfl rfl rfl rfl rfl rfl ?_) | (refine wpPl_read (v := ?_) rfl ?_ (fun w1 h1 => ?_) ?_; rotate_left 1; rfl; (obtain ⟨os1, d1, rfl⟩ := h1.more; go_simp; first | done | rfl))
              try simp only [Act.put, zqA, zqB, zqC]
              (refine wpPl_read (v := ?_) rfl ?_ (fun _ h => ?_) ?_; rotate_left 1; rfl; (obtain ⟨_, _, rfl⟩ := h.more; go_simp; try rfl))
              try simp only [Act.put, zqA, zqB, zqC]
              refine wpPl_nil ?_
              go_wp2_with fail
              go_ret
              exact ⟨rfl, hx.trans (by with_reducible repeat (first | exact Ext.refl _ | exact ext_d _ _ _ _ | exact ext_app _ _ _ _ _ | exact ext_app2 _ _ _ _ _ _ | exact ext_app3 _ _ _ _ _ _ _ | apply Ext.drew | apply Ext.alloc | apply Ext.more_))⟩
      · have hR' : ¬ (20 : Int) < (R : Int) := by omega
        have hC' : (20 : Int) < (C : Int) := by omega
        go_enter Tryz.func9, Tryz.ntmps9
        go_wp2_with (first | (go_at_call 11; (with_reducible refine (awake15_any _ (HT.out.ext (by with_reducible repeat (first | exact Ext.refl _ | apply Ext.drew | apply Ext.alloc | apply Ext.more_)))).mono ?_); rintro e w' ⟨rfl, hb⟩; obtain ⟨osw, dw, rfl⟩ := hb.more; clear hb) | (go_at_call 14; (refine (small15_any _ 1 1 _ _ (gargs_one (by simp) rfl (HA.out.ext (by with_reducible repeat (first | exact Ext.refl _ | apply Ext.drew | apply Ext.alloc | apply Ext.more_))))).mono ?_); rintro e w' ⟨s, rfl, hs, hb⟩; obtain ⟨oss, ds, rfl⟩ := hb.more; clear hb; rcases hs with rfl | rfl) | (go_at_call 16; refine (hra _ (HA.out.ext (by with_reducible repeat (first | exact Ext.refl _ | apply Ext.drew | apply Ext.alloc | apply Ext.more_)))).mono ?_; rintro e w' ⟨rfl, hb⟩; obtain ⟨osr, dr, rfl⟩ := hb.more; clear hb))
        all_goals
          go_ret
          exact ⟨rfl, by with_reducible repeat (first | exact Ext.refl _ | apply Ext.drew | apply Ext.alloc | apply Ext.more_)⟩
    · have hR' : (20 : Int) < (R : Int) := by omega
      go_enter Tryz.func9, Tryz.ntmps9
      go_wp2_with (first | (go_at_call 11; (with_reducible refine (awake15_any _ (HT.out.ext (by with_reducible repeat (first | exact Ext.refl _ | apply Ext.drew | apply Ext.alloc | apply Ext.more_)))).mono ?_); rintro e w' ⟨rfl, hb⟩; obtain ⟨osw, dw, rfl⟩ := hb.more; clear hb) | (go_at_call 14; (refine (small15_any _ 1 1 _ _ (gargs_one (by simp) rfl (HA.out.ext (by with_reducible repeat (first | exact Ext.refl _ | apply Ext.drew | apply Ext.alloc | apply Ext.more_))))).mono ?_); rintro e w' ⟨s, rfl, hs, hb⟩; obtain ⟨oss, ds, rfl⟩ := hb.more; clear hb; rcases hs with rfl | rfl) | (go_at_call 16; refine (hra _ (HA.out.ext (by with_reducible repeat (first | exact Ext.refl _ | apply Ext.drew | apply Ext.alloc | apply Ext.more_)))).mono ?_; rintro e w' ⟨rfl, hb⟩; obtain ⟨osr, dr, rfl⟩ := hb.more; clear hb))
      all_goals
        go_ret
        exact ⟨rfl, by with_reducible repeat (first | exact Ext.refl _ | apply Ext.drew | apply Ext.alloc | apply Ext.more_)⟩
end Go.Proofs.YtfpaalkllfbeoaaGreatDoor
