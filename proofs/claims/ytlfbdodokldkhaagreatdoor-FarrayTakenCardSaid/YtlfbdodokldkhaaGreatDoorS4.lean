/- What the rows' proofs lean on: the contracts of the functions that they reach, and plain facts (part S4). -/
import Derived.WalkKit
import Derived.WalkLawsBesides
import Derived.WalkSpells
import Derived.Outline
import Derived.Below
import Derived.Deep.RegionHeld3
import Derived.Deep.DeepCutAuto
import Derived.Deep.AppendLies
import Derived.Maps.AppendAt
import Derived.Lib.Hide
import Derived.OrdersHeld
import Derived.Test.YtlfbdodokldkhaaGreatDoorProg
import Derived.Shelf.Small.Bits
import Derived.Shelf.Small.Strs
import Derived.Shelf.Strconv.Itoa0
import Derived.Shelf.Strconv.Itoa1
import Derived.Shelf.LaysM
import Derived.Shelf.Strconv.Itoa2
import Derived.Shelf.Bits.Mul64
import Derived.Lib.ItoaMem
import Derived.Lib.OthersKept
import Derived.Deep.CutBlock
import Derived.Laws.Bits64b
import Derived.Lib.AppendZeros
import Derived.Lib.Bytealg
import Derived.Laws.RangeAny
import Derived.Maps.OwnSet
import Derived.Maps.Own
import Derived.Laws.EntriesVeiled
import Derived.Lib.ConvBytes
import Derived.Lib.SlBytesRow
import Derived.Lib.SmallJoins
import Derived.RegionTactic
import Derived.Shelf.SlIter.Nil
import Derived.Shelf.SortM.Plain
import Derived.Shelf.SortM.SortNone
import Derived.Ground.GgzProg
import Derived.Ground.SlgmProg
import Derived.Test.YtlfbdodokldkhaaGreatDoorRows
import Derived.Test.YtlfbdodokldkhaaGreatDoorCards
import Derived.Test.YtlfbdodokldkhaaGreatDoorTie
import Derived.ProofKit
import Derived.LaidMore
import Derived.OpenShut
import Derived.ShutString
import Derived.ChangeOld
import Derived.Stop.Joined
import Derived.Deep.Slices
import Derived.SevenTiedAt
import Derived.Test.YtlfbdodokldkhaaGreatDoorS3
set_option linter.unusedSimpArgs false
set_option linter.unusedVariables false
set_option maxRecDepth 100000
namespace Go.Proofs.YtlfbdodokldkhaaGreatDoor
open Go.RowKit
set_option maxHeartbeats 2000000 in
theorem refBeside_ge (R C R' C' : Nat) (A B : Option Addr) (n cap n' cap' : Nat) (l l' : List Val) (w : World) (h : ArrIn w A n cap l) (h' : ArrIn w B n' cap' l') (hr : rightA R C l = true) (hr' : rightA R' C' l' = true) (hM : ¬ R < R') (hf : R * (C + C') ≤ 4096) :
    Calls Tryz.prog 74 #[AV R C (.slice A n cap), AV R' C' (.slice B n' cap')] w fun e w' => ∃ D c, e = .returned (.tuple #[AV R (C + C' : Nat) (.slice D (R * (C + C')) c), .bool true]) ∧ SlV w.heap.size w' D (vals (fun i j => if j < C then orNoneV R C l i j else orNoneV R' C' l' i ((j : Int) - (C : Int))) (C + C') (R * (C + C'))) ∧ R * (C + C') ≤ c ∧ Ext w w' := by
  obtain ⟨i0, hi0, hz0, hz1, hz2⟩ := info_parts info_val
  obtain ⟨r1, r2, r3, r4, r5, r6⟩ := right_bd hr
  obtain ⟨s1, s2, s3, s4, s5, s6⟩ := right_bd hr'
  have HN := Lib.hid (show n = R * C by have := h.len; omega)
  have HN' := Lib.hid (show n' = R' * C' by have := h'.len; omega)
  have hN : n ≤ 4096 := by have := HN.out; omega
  have hN' : n' ≤ 4096 := by have := HN'.out; omega
  clear r4 s4
  have hcc : (C : Int) + (C' : Int) = ((C + C' : Nat) : Int) := by omega
  have hw : IntKind.i64.wrap ((R : Int) * ((C + C' : Nat) : Int)) = ((R * (C + C') : Nat) : Int) := by rw [IntKind.wrap_i64, Int.natCast_mul]; rw [← Int.natCast_mul]; omega
  generalize hT : C + C' = T at *
  have HT := Lib.hid hT
  have hC1 : C ≤ T := by omega
  clear hT
  have hf' : ¬ 4096 < R * T := by omega
  have hg : ∃ G : Nat → Nat → Val, Hid ((fun (i j : Nat) => if j < C then orNoneV R C l i j else orNoneV R' C' l' i ((j : Int) - (C : Int))) = G) := ⟨_, rfl⟩
  obtain ⟨G, HG⟩ := hg
  rw [HG.out]
  go_enter Tryz.func74, Tryz.ntmps74
  go_wp2
  have hacc0 := Acc.start (((w.alloc (Obj.cells #[.int .i64 R, .int .i64 C, .slice A n cap] 30)).alloc (Obj.cells #[.int .i64 R', .int .i64 C', .slice B n' cap'] 30)).alloc (Obj.cells #[.int .i64 0, .int .i64 0, .slice none 0 0] 30)) R T
  go_loopw [8] (fun i wr => ∃ (r cp : Nat) (D : Option Addr), r ≤ R ∧ i = .int .i64 r ∧ Acc (((w.alloc (Obj.cells #[.int .i64 R, .int .i64 C, .slice A n cap] 30)).alloc (Obj.cells #[.int .i64 R', .int .i64 C', .slice B n' cap'] 30)).alloc (Obj.cells #[.int .i64 0, .int .i64 0, .slice none 0 0] 30)) (w.heap.size + 1 + 1 + 1) R T D cp (r * T) (vals G T (r * T)) wr) (fun i _ => R - (intOf i).toNat)
  case atStart => exact ⟨0, 0, none, Nat.zero_le _, rfl, by simpa [vals] using hacc0⟩
  case round =>
    clear hacc0
    obtain ⟨r, cp, D, hrr, rfl, hacc⟩ := hrel
    have hlt0 := hacc.lt
    by_cases hlt : r < R
    · go_wp2
      clear hlt0
      obtain ⟨wo, rfl⟩ : ∃ wo : World, wo = wr := ⟨_, rfl⟩
      go_loopw [9] (fun i wr => ∃ (j cp : Nat) (D : Option Addr), j ≤ T ∧ i = .int .i64 j ∧ Acc (((w.alloc (Obj.cells #[.int .i64 R, .int .i64 C, .slice A n cap] 30)).alloc (Obj.cells #[.int .i64 R', .int .i64 C', .slice B n' cap'] 30)).alloc (Obj.cells #[.int .i64 0, .int .i64 0, .slice none 0 0] 30)) (w.heap.size + 1 + 1 + 1) R T D cp (r * T + j) (vals G T (r * T + j)) wr) (fun i _ => T - (intOf i).toNat)
      case atStart => exact ⟨0, cp, D, Nat.zero_le _, rfl, by simpa using hacc⟩
      case round =>
        clear hacc
        obtain ⟨j, cp, D, hj, rfl, hacc⟩ := hrel
        have hlt0 := hacc.lt
        have p0 : wr.cell? ⟨w.heap.size, 0, none⟩ = some (.int .i64 R) := hacc.ext.cell_some (by simp [go_sem])
        have p1 : wr.cell? ⟨w.heap.size, 1, none⟩ = some (.int .i64 C) := hacc.ext.cell_some (by simp [go_sem])
        have p2 : wr.cell? ⟨w.heap.size, 2, none⟩ = some (.slice A n cap) := hacc.ext.cell_some (by simp [go_sem])
        have u0 : wr.cell? ⟨w.heap.size + 1, 0, none⟩ = some (.int .i64 R') := hacc.ext.cell_some (by simp [go_sem])
        have u1 : wr.cell? ⟨w.heap.size + 1, 1, none⟩ = some (.int .i64 C') := hacc.ext.cell_some (by simp [go_sem])
        have u2 : wr.cell? ⟨w.heap.size + 1, 2, none⟩ = some (.slice B n' cap') := hacc.ext.cell_some (by simp [go_sem])
        have z0 : w.heap.size < wr.heap.size := by omega
        have z1 : w.heap.size + 1 < wr.heap.size := by omega
        have z2 : w.heap.size + 1 + 1 < wr.heap.size := by omega
        have c1 := cell_of_row _ _ 1 _ _ _ hacc.row
        have c2' := cell_of_row _ _ 2 _ _ _ hacc.row
        by_cases hjt : j < T
        · have hk : r * T + j < 4096 := by have := cell_prod R hlt hjt hf; omega
          have hx : (if j < C then orNoneV R C l r j else orNoneV R' C' l' r ((j : Int) - (C : Int))) = G r j := by rw [← HG.out]
          generalize hxx : G r j = x at hx
          have HX := Lib.hid hxx
          clear hxx
          by_cases hjc : j < C
          · rw [if_pos hjc] at hx
            by_cases hri : r < R
            · have hh : hasB R C r j = true := hasB_iff.2 (by omega)
              rw [orNone_in hri hjc] at hx
              have HXX := Lib.hid hx
              clear hx
              go_wp2_with fail
              refine (refHas_any _ _ _ _ _ _ rfl).mono ?_; rintro e w' ⟨rfl, hb⟩; obtain ⟨os1, d1, rfl⟩ := hb.more; clear hb
              go_wp2_with fail
              refine (refGet_any R C r j A n cap l _ (h.ext (Ext.trans (by repeat (first | (with_reducible (first | exact Ext.refl _ | exact hX | exact ext_d _ _ _ _ | exact ext_app _ _ _ _ _)) | ((with_reducible refine ext_suffix ⟨_, ?_⟩); (try simp only [Array.append_assoc]); rfl) | (with_reducible (first | apply Ext.drew | apply Ext.alloc | apply Ext.more_)))) (hacc.ext.trans (by repeat (first | (with_reducible (first | exact Ext.refl _ | exact hX | exact ext_d _ _ _ _ | exact ext_app _ _ _ _ _)) | ((with_reducible refine ext_suffix ⟨_, ?_⟩); (try simp only [Array.append_assoc]); rfl) | (with_reducible (first | apply Ext.drew | apply Ext.alloc | apply Ext.more_))))))) HN.out hN hri hjc x HXX.out).mono ?_; rintro e w' ⟨rfl, hb⟩; obtain ⟨os2, d2, rfl⟩ := hb.more; clear hb
              go_wp2_with (at_builtin; refine wpList_append_own _ rfl _ _ _ rfl _ 39 i0 (VV 0 0 0 ⟨#[]⟩ false 0) 6 56 Tryz.underlying28 hi0 hz0 hz1 hz2 rfl (by decide) _ _ _ rfl (own_ext hacc.own (by repeat (first | (with_reducible (first | exact Ext.refl _ | exact hX | exact ext_d _ _ _ _ | exact ext_app _ _ _ _ _)) | ((with_reducible refine ext_suffix ⟨_, ?_⟩); (try simp only [Array.append_assoc]); rfl) | (with_reducible (first | apply Ext.drew | apply Ext.alloc | apply Ext.more_))))) _ 1 1 (Val.cells x) rfl rfl (new_cells_at _ _ _ (by simp) rfl _) (cells_one _) (by simp only [maxLen]; omega) (by omega) (by have := hacc.lt; simp; omega) ?_; intro v3 w3 ho3 hg3 _; obtain ⟨A2, cap2, rfl, hrow3, hex3, hacc2⟩ := hacc.step (by repeat (first | (with_reducible (first | exact Ext.refl _ | exact hX | exact ext_d _ _ _ _ | exact ext_app _ _ _ _ _)) | ((with_reducible refine ext_suffix ⟨_, ?_⟩); (try simp only [Array.append_assoc]); rfl) | (with_reducible (first | apply Ext.drew | apply Ext.alloc | apply Ext.more_)))) hg3 ho3; have c2 := cell_of_row _ _ 2 _ _ _ hrow3; have f2 := frozen_of_row _ _ 2 _ _ hrow3; clear hrow3 hex3 hg3 ho3)
              refine ⟨⟨j + 1, cap2, A2, by omega, by go_num, ?_⟩, by simp [intOf]; omega⟩; rw [show r * T + (j + 1) = r * T + j + 1 by omega, vals_succ _ T r j hjt, HX.out]; exact hacc2
            · first
              | exact absurd hlt hri
              | (have hh : hasB R C r j = false := hasB_no (by omega)
                 rw [orNone_out hh] at hx
                 obtain rfl : x = badV 6 := hx.symm
                 clear hx
                 go_wp2_with fail
                 refine (refHas_any _ _ _ _ _ _ rfl).mono ?_; rintro e w' ⟨rfl, hb⟩; obtain ⟨os1, d1, rfl⟩ := hb.more; clear hb
                 go_wp2_with (at_builtin; refine wpList_append_own _ rfl _ _ _ rfl _ 39 i0 (VV 0 0 0 ⟨#[]⟩ false 0) 6 56 Tryz.underlying28 hi0 hz0 hz1 hz2 rfl (by decide) _ _ _ rfl (own_ext hacc.own (by repeat (first | (with_reducible (first | exact Ext.refl _ | exact hX | exact ext_d _ _ _ _ | exact ext_app _ _ _ _ _)) | ((with_reducible refine ext_suffix ⟨_, ?_⟩); (try simp only [Array.append_assoc]); rfl) | (with_reducible (first | apply Ext.drew | apply Ext.alloc | apply Ext.more_))))) _ 1 1 (Val.cells (badV 6)) rfl rfl (new_cells_at _ _ _ (by simp) rfl _) (cells_one _) (by simp only [maxLen]; omega) (by omega) (by have := hacc.lt; simp; omega) ?_; intro v3 w3 ho3 hg3 _; obtain ⟨A2, cap2, rfl, hrow3, hex3, hacc2⟩ := hacc.step (by repeat (first | (with_reducible (first | exact Ext.refl _ | exact hX | exact ext_d _ _ _ _ | exact ext_app _ _ _ _ _)) | ((with_reducible refine ext_suffix ⟨_, ?_⟩); (try simp only [Array.append_assoc]); rfl) | (with_reducible (first | apply Ext.drew | apply Ext.alloc | apply Ext.more_)))) hg3 ho3; have c2 := cell_of_row _ _ 2 _ _ _ hrow3; have f2 := frozen_of_row _ _ 2 _ _ hrow3; clear hrow3 hex3 hg3 ho3)
                 refine ⟨⟨j + 1, cap2, A2, by omega, by go_num, ?_⟩, by simp [intOf]; omega⟩; rw [show r * T + (j + 1) = r * T + j + 1 by omega, vals_succ _ T r j hjt, HX.out]; exact hacc2)
          · rw [if_neg hjc] at hx
            obtain ⟨q, rfl⟩ : ∃ q, j = C + q := ⟨j - C, by omega⟩
            have hq : (((C + q : Nat) : Int) - (C : Int)) = (q : Int) := by omega
            rw [hq] at hx
            clear hq
            by_cases hri : r < R'
            · have hqc : q < C' := by have := HT.out; omega
              have hh : hasB R' C' r q = true := hasB_iff.2 (by omega)
              rw [orNone_in hri hqc] at hx
              have HXX := Lib.hid hx
              clear hx
              have hq2 : ¬ ((C : Int) + (q : Int) < (C : Int)) := by omega
              have hq1 : (C : Int) ≤ (C : Int) + (q : Int) := by omega
              have hq4 : C ≤ C + q := by omega
              have hq3 : ((C : Int) + (q : Int) - (C : Int)) = (q : Int) := by omega
              go_wp2_with fail
              refine (refHas_any _ _ _ _ _ _ rfl).mono ?_; rintro e w' ⟨rfl, hb⟩; obtain ⟨os1, d1, rfl⟩ := hb.more; clear hb
              go_wp2_with fail
              refine (refGet_any R' C' r q B n' cap' l' _ (h'.ext (Ext.trans (by repeat (first | (with_reducible (first | exact Ext.refl _ | exact hX | exact ext_d _ _ _ _ | exact ext_app _ _ _ _ _)) | ((with_reducible refine ext_suffix ⟨_, ?_⟩); (try simp only [Array.append_assoc]); rfl) | (with_reducible (first | apply Ext.drew | apply Ext.alloc | apply Ext.more_)))) (hacc.ext.trans (by repeat (first | (with_reducible (first | exact Ext.refl _ | exact hX | exact ext_d _ _ _ _ | exact ext_app _ _ _ _ _)) | ((with_reducible refine ext_suffix ⟨_, ?_⟩); (try simp only [Array.append_assoc]); rfl) | (with_reducible (first | apply Ext.drew | apply Ext.alloc | apply Ext.more_))))))) HN'.out hN' hri hqc x HXX.out).mono ?_; rintro e w' ⟨rfl, hb⟩; obtain ⟨os2, d2, rfl⟩ := hb.more; clear hb
              go_wp2_with (at_builtin; refine wpList_append_own _ rfl _ _ _ rfl _ 39 i0 (VV 0 0 0 ⟨#[]⟩ false 0) 6 56 Tryz.underlying28 hi0 hz0 hz1 hz2 rfl (by decide) _ _ _ rfl (own_ext hacc.own (by repeat (first | (with_reducible (first | exact Ext.refl _ | exact hX | exact ext_d _ _ _ _ | exact ext_app _ _ _ _ _)) | ((with_reducible refine ext_suffix ⟨_, ?_⟩); (try simp only [Array.append_assoc]); rfl) | (with_reducible (first | apply Ext.drew | apply Ext.alloc | apply Ext.more_))))) _ 1 1 (Val.cells x) rfl rfl (new_cells_at _ _ _ (by simp) rfl _) (cells_one _) (by simp only [maxLen]; omega) (by omega) (by have := hacc.lt; simp; omega) ?_; intro v3 w3 ho3 hg3 _; obtain ⟨A2, cap2, rfl, hrow3, hex3, hacc2⟩ := hacc.step (by repeat (first | (with_reducible (first | exact Ext.refl _ | exact hX | exact ext_d _ _ _ _ | exact ext_app _ _ _ _ _)) | ((with_reducible refine ext_suffix ⟨_, ?_⟩); (try simp only [Array.append_assoc]); rfl) | (with_reducible (first | apply Ext.drew | apply Ext.alloc | apply Ext.more_)))) hg3 ho3; have c2 := cell_of_row _ _ 2 _ _ _ hrow3; have f2 := frozen_of_row _ _ 2 _ _ hrow3; clear hrow3 hex3 hg3 ho3)
              refine ⟨⟨C + q + 1, cap2, A2, by omega, by go_num, ?_⟩, by simp [intOf]; omega⟩; rw [show r * T + (C + q + 1) = r * T + (C + q) + 1 by omega, vals_succ _ T r (C + q) hjt, HX.out]; exact hacc2
            · have hh : hasB R' C' r q = false := hasB_no (by omega)
              rw [orNone_out hh] at hx
              obtain rfl : x = badV 6 := hx.symm
              clear hx
              have hq2 : ¬ ((C : Int) + (q : Int) < (C : Int)) := by omega
              have hq1 : (C : Int) ≤ (C : Int) + (q : Int) := by omega
              have hq4 : C ≤ C + q := by omega
              have hq3 : ((C : Int) + (q : Int) - (C : Int)) = (q : Int) := by omega
              go_wp2_with fail
              refine (refHas_any _ _ _ _ _ _ rfl).mono ?_; rintro e w' ⟨rfl, hb⟩; obtain ⟨os1, d1, rfl⟩ := hb.more; clear hb
              go_wp2_with (at_builtin; refine wpList_append_own _ rfl _ _ _ rfl _ 39 i0 (VV 0 0 0 ⟨#[]⟩ false 0) 6 56 Tryz.underlying28 hi0 hz0 hz1 hz2 rfl (by decide) _ _ _ rfl (own_ext hacc.own (by repeat (first | (with_reducible (first | exact Ext.refl _ | exact hX | exact ext_d _ _ _ _ | exact ext_app _ _ _ _ _)) | ((with_reducible refine ext_suffix ⟨_, ?_⟩); (try simp only [Array.append_assoc]); rfl) | (with_reducible (first | apply Ext.drew | apply Ext.alloc | apply Ext.more_))))) _ 1 1 (Val.cells (badV 6)) rfl rfl (new_cells_at _ _ _ (by simp) rfl _) (cells_one _) (by simp only [maxLen]; omega) (by omega) (by have := hacc.lt; simp; omega) ?_; intro v3 w3 ho3 hg3 _; obtain ⟨A2, cap2, rfl, hrow3, hex3, hacc2⟩ := hacc.step (by repeat (first | (with_reducible (first | exact Ext.refl _ | exact hX | exact ext_d _ _ _ _ | exact ext_app _ _ _ _ _)) | ((with_reducible refine ext_suffix ⟨_, ?_⟩); (try simp only [Array.append_assoc]); rfl) | (with_reducible (first | apply Ext.drew | apply Ext.alloc | apply Ext.more_)))) hg3 ho3; have c2 := cell_of_row _ _ 2 _ _ _ hrow3; have f2 := frozen_of_row _ _ 2 _ _ hrow3; clear hrow3 hex3 hg3 ho3)
              refine ⟨⟨C + q + 1, cap2, A2, by omega, by go_num, ?_⟩, by simp [intOf]; omega⟩; rw [show r * T + (C + q + 1) = r * T + (C + q) + 1 by omega, vals_succ _ T r (C + q) hjt, HX.out]; exact hacc2
        · obtain rfl : j = T := by omega
          go_wp2
          refine ⟨⟨r + 1, cp, D, by omega, by go_num, by rw [Nat.succ_mul]; exact hacc⟩, by simp [intOf]; omega⟩
    · obtain rfl : r = R := by omega
      have q0 : wr.cell? ⟨w.heap.size + 1 + 1, 0, none⟩ = some (.int .i64 0) := hacc.ext.cell_some (by simp [go_sem]); have q1 : wr.cell? ⟨w.heap.size + 1 + 1, 1, none⟩ = some (.int .i64 0) := hacc.ext.cell_some (by simp [go_sem]); have q2 : wr.cell? ⟨w.heap.size + 1 + 1, 2, none⟩ = some (.slice none 0 0) := hacc.ext.cell_some (by simp [go_sem]); have q3 : wr.frozen? ⟨w.heap.size + 1 + 1, 0, none⟩ = false := (hacc.ext.frozen (p := ⟨w.heap.size + 1 + 1, 0, none⟩) (by simp)).trans (by simp [go_sem]); have q4 : wr.frozen? ⟨w.heap.size + 1 + 1, 1, none⟩ = false := (hacc.ext.frozen (p := ⟨w.heap.size + 1 + 1, 1, none⟩) (by simp)).trans (by simp [go_sem]); have q5 : wr.frozen? ⟨w.heap.size + 1 + 1, 2, none⟩ = false := (hacc.ext.frozen (p := ⟨w.heap.size + 1 + 1, 2, none⟩) (by simp)).trans (by simp [go_sem]); have c0 := cell_of_row _ _ 0 _ _ _ hacc.row; have c1 := cell_of_row _ _ 1 _ _ _ hacc.row; have c2 := cell_of_row _ _ 2 _ _ _ hacc.row
      go_wp2
      obtain ⟨hrd, hcp⟩ := hacc.rd
      refine bodyPost_ret (v := .tuple #[AV r T (.slice D (r * T) cp), .bool true]) (by simp [results, Tryz.results74, go_sem, q0, q1, q2]) rfl ⟨D, cp, rfl, ?_, hcp, ?_⟩
      · exact Rd.mono (((hrd.set_far _ (by simp)).set_far _ (by simp)).set_far _ (by simp)) (by omega)
      · exact Ext.set (Ext.set (Ext.set (Ext.trans (by repeat (first | (with_reducible (first | exact Ext.refl _ | exact hX | exact ext_d _ _ _ _ | exact ext_app _ _ _ _ _)) | ((with_reducible refine ext_suffix ⟨_, ?_⟩); (try simp only [Array.append_assoc]); rfl) | (with_reducible (first | apply Ext.drew | apply Ext.alloc | apply Ext.more_)))) hacc.ext) _ (by first | (simp; done) | (simp; omega) | omega)) _ (by first | (simp; done) | (simp; omega) | omega)) _ (by first | (simp; done) | (simp; omega) | omega)
set_option maxHeartbeats 2000000 in
theorem refBeside_lt (R C R' C' : Nat) (A B : Option Addr) (n cap n' cap' : Nat) (l l' : List Val) (w : World) (h : ArrIn w A n cap l) (h' : ArrIn w B n' cap' l') (hr : rightA R C l = true) (hr' : rightA R' C' l' = true) (hM : R < R') (hf : R' * (C + C') ≤ 4096) :
    Calls Tryz.prog 74 #[AV R C (.slice A n cap), AV R' C' (.slice B n' cap')] w fun e w' => ∃ D c, e = .returned (.tuple #[AV R' (C + C' : Nat) (.slice D (R' * (C + C')) c), .bool true]) ∧ SlV w.heap.size w' D (vals (fun i j => if j < C then orNoneV R C l i j else orNoneV R' C' l' i ((j : Int) - (C : Int))) (C + C') (R' * (C + C'))) ∧ R' * (C + C') ≤ c ∧ Ext w w' := by
  obtain ⟨i0, hi0, hz0, hz1, hz2⟩ := info_parts info_val
  obtain ⟨r1, r2, r3, r4, r5, r6⟩ := right_bd hr
  obtain ⟨s1, s2, s3, s4, s5, s6⟩ := right_bd hr'
  have HN := Lib.hid (show n = R * C by have := h.len; omega)
  have HN' := Lib.hid (show n' = R' * C' by have := h'.len; omega)
  have hN : n ≤ 4096 := by have := HN.out; omega
  have hN' : n' ≤ 4096 := by have := HN'.out; omega
  clear r4 s4
  have hcc : (C : Int) + (C' : Int) = ((C + C' : Nat) : Int) := by omega
  have hw : IntKind.i64.wrap ((R' : Int) * ((C + C' : Nat) : Int)) = ((R' * (C + C') : Nat) : Int) := by rw [IntKind.wrap_i64, Int.natCast_mul]; rw [← Int.natCast_mul]; omega
  generalize hT : C + C' = T at *
  have HT := Lib.hid hT
  have hC1 : C ≤ T := by omega
  clear hT
  have hf' : ¬ 4096 < R' * T := by omega
  have hg : ∃ G : Nat → Nat → Val, Hid ((fun (i j : Nat) => if j < C then orNoneV R C l i j else orNoneV R' C' l' i ((j : Int) - (C : Int))) = G) := ⟨_, rfl⟩
  obtain ⟨G, HG⟩ := hg
  rw [HG.out]
  go_enter Tryz.func74, Tryz.ntmps74
  go_wp2
  have hacc0 := Acc.start (((w.alloc (Obj.cells #[.int .i64 R, .int .i64 C, .slice A n cap] 30)).alloc (Obj.cells #[.int .i64 R', .int .i64 C', .slice B n' cap'] 30)).alloc (Obj.cells #[.int .i64 0, .int .i64 0, .slice none 0 0] 30)) R' T
  go_loopw [8] (fun i wr => ∃ (r cp : Nat) (D : Option Addr), r ≤ R' ∧ i = .int .i64 r ∧ Acc (((w.alloc (Obj.cells #[.int .i64 R, .int .i64 C, .slice A n cap] 30)).alloc (Obj.cells #[.int .i64 R', .int .i64 C', .slice B n' cap'] 30)).alloc (Obj.cells #[.int .i64 0, .int .i64 0, .slice none 0 0] 30)) (w.heap.size + 1 + 1 + 1) R' T D cp (r * T) (vals G T (r * T)) wr) (fun i _ => R' - (intOf i).toNat)
  case atStart => exact ⟨0, 0, none, Nat.zero_le _, rfl, by simpa [vals] using hacc0⟩
  case round =>
    clear hacc0
    obtain ⟨r, cp, D, hrr, rfl, hacc⟩ := hrel
    have hlt0 := hacc.lt
    by_cases hlt : r < R'
    · go_wp2
      clear hlt0
      obtain ⟨wo, rfl⟩ : ∃ wo : World, wo = wr := ⟨_, rfl⟩
      go_loopw [9] (fun i wr => ∃ (j cp : Nat) (D : Option Addr), j ≤ T ∧ i = .int .i64 j ∧ Acc (((w.alloc (Obj.cells #[.int .i64 R, .int .i64 C, .slice A n cap] 30)).alloc (Obj.cells #[.int .i64 R', .int .i64 C', .slice B n' cap'] 30)).alloc (Obj.cells #[.int .i64 0, .int .i64 0, .slice none 0 0] 30)) (w.heap.size + 1 + 1 + 1) R' T D cp (r * T + j) (vals G T (r * T + j)) wr) (fun i _ => T - (intOf i).toNat)
      case atStart => exact ⟨0, cp, D, Nat.zero_le _, rfl, by simpa using hacc⟩
      case round =>
        clear hacc
        obtain ⟨j, cp, D, hj, rfl, hacc⟩ := hrel
        have hlt0 := hacc.lt
        have p0 : wr.cell? ⟨w.heap.size, 0, none⟩ = some (.int .i64 R) := hacc.ext.cell_some (by simp [go_sem])
        have p1 : wr.cell? ⟨w.heap.size, 1, none⟩ = some (.int .i64 C) := hacc.ext.cell_some (by simp [go_sem])
        have p2 : wr.cell? ⟨w.heap.size, 2, none⟩ = some (.slice A n cap) := hacc.ext.cell_some (by simp [go_sem])
        have u0 : wr.cell? ⟨w.heap.size + 1, 0, none⟩ = some (.int .i64 R') := hacc.ext.cell_some (by simp [go_sem])
        have u1 : wr.cell? ⟨w.heap.size + 1, 1, none⟩ = some (.int .i64 C') := hacc.ext.cell_some (by simp [go_sem])
        have u2 : wr.cell? ⟨w.heap.size + 1, 2, none⟩ = some (.slice B n' cap') := hacc.ext.cell_some (by simp [go_sem])
        have z0 : w.heap.size < wr.heap.size := by omega
        have z1 : w.heap.size + 1 < wr.heap.size := by omega
        have z2 : w.heap.size + 1 + 1 < wr.heap.size := by omega
        have c1 := cell_of_row _ _ 1 _ _ _ hacc.row
        have c2' := cell_of_row _ _ 2 _ _ _ hacc.row
        by_cases hjt : j < T
        · have hk : r * T + j < 4096 := by have := cell_prod R' hlt hjt hf; omega
          have hx : (if j < C then orNoneV R C l r j else orNoneV R' C' l' r ((j : Int) - (C : Int))) = G r j := by rw [← HG.out]
          generalize hxx : G r j = x at hx
          have HX := Lib.hid hxx
          clear hxx
          by_cases hjc : j < C
          · rw [if_pos hjc] at hx
            by_cases hri : r < R
            · have hh : hasB R C r j = true := hasB_iff.2 (by omega)
              rw [orNone_in hri hjc] at hx
              have HXX := Lib.hid hx
              clear hx
              go_wp2_with fail
              refine (refHas_any _ _ _ _ _ _ rfl).mono ?_; rintro e w' ⟨rfl, hb⟩; obtain ⟨os1, d1, rfl⟩ := hb.more; clear hb
              go_wp2_with fail
              refine (refGet_any R C r j A n cap l _ (h.ext (Ext.trans (by repeat (first | (with_reducible (first | exact Ext.refl _ | exact hX | exact ext_d _ _ _ _ | exact ext_app _ _ _ _ _)) | ((with_reducible refine ext_suffix ⟨_, ?_⟩); (try simp only [Array.append_assoc]); rfl) | (with_reducible (first | apply Ext.drew | apply Ext.alloc | apply Ext.more_)))) (hacc.ext.trans (by repeat (first | (with_reducible (first | exact Ext.refl _ | exact hX | exact ext_d _ _ _ _ | exact ext_app _ _ _ _ _)) | ((with_reducible refine ext_suffix ⟨_, ?_⟩); (try simp only [Array.append_assoc]); rfl) | (with_reducible (first | apply Ext.drew | apply Ext.alloc | apply Ext.more_))))))) HN.out hN hri hjc x HXX.out).mono ?_; rintro e w' ⟨rfl, hb⟩; obtain ⟨os2, d2, rfl⟩ := hb.more; clear hb
              go_wp2_with (at_builtin; refine wpList_append_own _ rfl _ _ _ rfl _ 39 i0 (VV 0 0 0 ⟨#[]⟩ false 0) 6 56 Tryz.underlying28 hi0 hz0 hz1 hz2 rfl (by decide) _ _ _ rfl (own_ext hacc.own (by repeat (first | (with_reducible (first | exact Ext.refl _ | exact hX | exact ext_d _ _ _ _ | exact ext_app _ _ _ _ _)) | ((with_reducible refine ext_suffix ⟨_, ?_⟩); (try simp only [Array.append_assoc]); rfl) | (with_reducible (first | apply Ext.drew | apply Ext.alloc | apply Ext.more_))))) _ 1 1 (Val.cells x) rfl rfl (new_cells_at _ _ _ (by simp) rfl _) (cells_one _) (by simp only [maxLen]; omega) (by omega) (by have := hacc.lt; simp; omega) ?_; intro v3 w3 ho3 hg3 _; obtain ⟨A2, cap2, rfl, hrow3, hex3, hacc2⟩ := hacc.step (by repeat (first | (with_reducible (first | exact Ext.refl _ | exact hX | exact ext_d _ _ _ _ | exact ext_app _ _ _ _ _)) | ((with_reducible refine ext_suffix ⟨_, ?_⟩); (try simp only [Array.append_assoc]); rfl) | (with_reducible (first | apply Ext.drew | apply Ext.alloc | apply Ext.more_)))) hg3 ho3; have c2 := cell_of_row _ _ 2 _ _ _ hrow3; have f2 := frozen_of_row _ _ 2 _ _ hrow3; clear hrow3 hex3 hg3 ho3)
              refine ⟨⟨j + 1, cap2, A2, by omega, by go_num, ?_⟩, by simp [intOf]; omega⟩; rw [show r * T + (j + 1) = r * T + j + 1 by omega, vals_succ _ T r j hjt, HX.out]; exact hacc2
            · first
              | exact absurd hlt hri
              | (have hh : hasB R C r j = false := hasB_no (by omega)
                 rw [orNone_out hh] at hx
                 obtain rfl : x = badV 6 := hx.symm
                 clear hx
                 go_wp2_with fail
                 refine (refHas_any _ _ _ _ _ _ rfl).mono ?_; rintro e w' ⟨rfl, hb⟩; obtain ⟨os1, d1, rfl⟩ := hb.more; clear hb
                 go_wp2_with (at_builtin; refine wpList_append_own _ rfl _ _ _ rfl _ 39 i0 (VV 0 0 0 ⟨#[]⟩ false 0) 6 56 Tryz.underlying28 hi0 hz0 hz1 hz2 rfl (by decide) _ _ _ rfl (own_ext hacc.own (by repeat (first | (with_reducible (first | exact Ext.refl _ | exact hX | exact ext_d _ _ _ _ | exact ext_app _ _ _ _ _)) | ((with_reducible refine ext_suffix ⟨_, ?_⟩); (try simp only [Array.append_assoc]); rfl) | (with_reducible (first | apply Ext.drew | apply Ext.alloc | apply Ext.more_))))) _ 1 1 (Val.cells (badV 6)) rfl rfl (new_cells_at _ _ _ (by simp) rfl _) (cells_one _) (by simp only [maxLen]; omega) (by omega) (by have := hacc.lt; simp; omega) ?_; intro v3 w3 ho3 hg3 _; obtain ⟨A2, cap2, rfl, hrow3, hex3, hacc2⟩ := hacc.step (by repeat (first | (with_reducible (first | exact Ext.refl _ | exact hX | exact ext_d _ _ _ _ | exact ext_app _ _ _ _ _)) | ((with_reducible refine ext_suffix ⟨_, ?_⟩); (try simp only [Array.append_assoc]); rfl) | (with_reducible (first | apply Ext.drew | apply Ext.alloc | apply Ext.more_)))) hg3 ho3; have c2 := cell_of_row _ _ 2 _ _ _ hrow3; have f2 := frozen_of_row _ _ 2 _ _ hrow3; clear hrow3 hex3 hg3 ho3)
                 refine ⟨⟨j + 1, cap2, A2, by omega, by go_num, ?_⟩, by simp [intOf]; omega⟩; rw [show r * T + (j + 1) = r * T + j + 1 by omega, vals_succ _ T r j hjt, HX.out]; exact hacc2)
          · rw [if_neg hjc] at hx
            obtain ⟨q, rfl⟩ : ∃ q, j = C + q := ⟨j - C, by omega⟩
            have hq : (((C + q : Nat) : Int) - (C : Int)) = (q : Int) := by omega
            rw [hq] at hx
            clear hq
            by_cases hri : r < R'
            · have hqc : q < C' := by have := HT.out; omega
              have hh : hasB R' C' r q = true := hasB_iff.2 (by omega)
              rw [orNone_in hri hqc] at hx
              have HXX := Lib.hid hx
              clear hx
              have hq2 : ¬ ((C : Int) + (q : Int) < (C : Int)) := by omega
              have hq1 : (C : Int) ≤ (C : Int) + (q : Int) := by omega
              have hq4 : C ≤ C + q := by omega
              have hq3 : ((C : Int) + (q : Int) - (C : Int)) = (q : Int) := by omega
              go_wp2_with fail
              refine (refHas_any _ _ _ _ _ _ rfl).mono ?_; rintro e w' ⟨rfl, hb⟩; obtain ⟨os1, d1, rfl⟩ := hb.more; clear hb
              go_wp2_with fail
              refine (refGet_any R' C' r q B n' cap' l' _ (h'.ext (Ext.trans (by repeat (first | (with_reducible (first | exact Ext.refl _ | exact hX | exact ext_d _ _ _ _ | exact ext_app _ _ _ _ _)) | ((with_reducible refine ext_suffix ⟨_, ?_⟩); (try simp only [Array.append_assoc]); rfl) | (with_reducible (first | apply Ext.drew | apply Ext.alloc | apply Ext.more_)))) (hacc.ext.trans (by repeat (first | (with_reducible (first | exact Ext.refl _ | exact hX | exact ext_d _ _ _ _ | exact ext_app _ _ _ _ _)) | ((with_reducible refine ext_suffix ⟨_, ?_⟩); (try simp only [Array.append_assoc]); rfl) | (with_reducible (first | apply Ext.drew | apply Ext.alloc | apply Ext.more_))))))) HN'.out hN' hri hqc x HXX.out).mono ?_; rintro e w' ⟨rfl, hb⟩; obtain ⟨os2, d2, rfl⟩ := hb.more; clear hb
              go_wp2_with (at_builtin; refine wpList_append_own _ rfl _ _ _ rfl _ 39 i0 (VV 0 0 0 ⟨#[]⟩ false 0) 6 56 Tryz.underlying28 hi0 hz0 hz1 hz2 rfl (by decide) _ _ _ rfl (own_ext hacc.own (by repeat (first | (with_reducible (first | exact Ext.refl _ | exact hX | exact ext_d _ _ _ _ | exact ext_app _ _ _ _ _)) | ((with_reducible refine ext_suffix ⟨_, ?_⟩); (try simp only [Array.append_assoc]); rfl) | (with_reducible (first | apply Ext.drew | apply Ext.alloc | apply Ext.more_))))) _ 1 1 (Val.cells x) rfl rfl (new_cells_at _ _ _ (by simp) rfl _) (cells_one _) (by simp only [maxLen]; omega) (by omega) (by have := hacc.lt; simp; omega) ?_; intro v3 w3 ho3 hg3 _; obtain ⟨A2, cap2, rfl, hrow3, hex3, hacc2⟩ := hacc.step (by repeat (first | (with_reducible (first | exact Ext.refl _ | exact hX | exact ext_d _ _ _ _ | exact ext_app _ _ _ _ _)) | ((with_reducible refine ext_suffix ⟨_, ?_⟩); (try simp only [Array.append_assoc]); rfl) | (with_reducible (first | apply Ext.drew | apply Ext.alloc | apply Ext.more_)))) hg3 ho3; have c2 := cell_of_row _ _ 2 _ _ _ hrow3; have f2 := frozen_of_row _ _ 2 _ _ hrow3; clear hrow3 hex3 hg3 ho3)
              refine ⟨⟨C + q + 1, cap2, A2, by omega, by go_num, ?_⟩, by simp [intOf]; omega⟩; rw [show r * T + (C + q + 1) = r * T + (C + q) + 1 by omega, vals_succ _ T r (C + q) hjt, HX.out]; exact hacc2
            · exact absurd hlt hri
        · obtain rfl : j = T := by omega
          go_wp2
          refine ⟨⟨r + 1, cp, D, by omega, by go_num, by rw [Nat.succ_mul]; exact hacc⟩, by simp [intOf]; omega⟩
    · obtain rfl : r = R' := by omega
      have q0 : wr.cell? ⟨w.heap.size + 1 + 1, 0, none⟩ = some (.int .i64 0) := hacc.ext.cell_some (by simp [go_sem]); have q1 : wr.cell? ⟨w.heap.size + 1 + 1, 1, none⟩ = some (.int .i64 0) := hacc.ext.cell_some (by simp [go_sem]); have q2 : wr.cell? ⟨w.heap.size + 1 + 1, 2, none⟩ = some (.slice none 0 0) := hacc.ext.cell_some (by simp [go_sem]); have q3 : wr.frozen? ⟨w.heap.size + 1 + 1, 0, none⟩ = false := (hacc.ext.frozen (p := ⟨w.heap.size + 1 + 1, 0, none⟩) (by simp)).trans (by simp [go_sem]); have q4 : wr.frozen? ⟨w.heap.size + 1 + 1, 1, none⟩ = false := (hacc.ext.frozen (p := ⟨w.heap.size + 1 + 1, 1, none⟩) (by simp)).trans (by simp [go_sem]); have q5 : wr.frozen? ⟨w.heap.size + 1 + 1, 2, none⟩ = false := (hacc.ext.frozen (p := ⟨w.heap.size + 1 + 1, 2, none⟩) (by simp)).trans (by simp [go_sem]); have c0 := cell_of_row _ _ 0 _ _ _ hacc.row; have c1 := cell_of_row _ _ 1 _ _ _ hacc.row; have c2 := cell_of_row _ _ 2 _ _ _ hacc.row
      go_wp2
      obtain ⟨hrd, hcp⟩ := hacc.rd
      refine bodyPost_ret (v := .tuple #[AV r T (.slice D (r * T) cp), .bool true]) (by simp [results, Tryz.results74, go_sem, q0, q1, q2]) rfl ⟨D, cp, rfl, ?_, hcp, ?_⟩
      · exact Rd.mono (((hrd.set_far _ (by simp)).set_far _ (by simp)).set_far _ (by simp)) (by omega)
      · exact Ext.set (Ext.set (Ext.set (Ext.trans (by repeat (first | (with_reducible (first | exact Ext.refl _ | exact hX | exact ext_d _ _ _ _ | exact ext_app _ _ _ _ _)) | ((with_reducible refine ext_suffix ⟨_, ?_⟩); (try simp only [Array.append_assoc]); rfl) | (with_reducible (first | apply Ext.drew | apply Ext.alloc | apply Ext.more_)))) hacc.ext) _ (by first | (simp; done) | (simp; omega) | omega)) _ (by first | (simp; done) | (simp; omega) | omega)) _ (by first | (simp; done) | (simp; omega) | omega)
set_option maxHeartbeats 800000 in
theorem refBeside_wide (R C R' C' : Nat) (A B : Option Addr) (n cap n' cap' : Nat) (l l' : List Val) (w : World) (hr : rightA R C l = true) (hr' : rightA R' C' l' = true) (hf : ¬ max R R' * (C + C') ≤ 4096) :
    Calls Tryz.prog 74 #[AV R C (.slice A n cap), AV R' C' (.slice B n' cap')] w fun e w' => e = .returned (.tuple #[AV 0 0 (.slice none 0 0), .bool false]) ∧ Ext w w' := by
  obtain ⟨r1, r2, r3, r4, r5, r6⟩ := right_bd hr
  obtain ⟨s1, s2, s3, s4, s5, s6⟩ := right_bd hr'
  clear r4 s4
  have hcc : (C : Int) + (C' : Int) = ((C + C' : Nat) : Int) := by omega
  have hb : C + C' ≤ 8192 := by omega
  generalize C + C' = T at *
  have hw : ∀ M : Nat, M ≤ 4096 → IntKind.i64.wrap ((M : Int) * (T : Int)) = ((M * T : Nat) : Int) := fun M hM => by
    have : M * T ≤ 4096 * 8192 := Nat.mul_le_mul hM hb
    rw [← Int.natCast_mul, IntKind.wrap_i64]; omega
  by_cases hM : R < R'
  · rw [Nat.max_eq_right (Nat.le_of_lt hM)] at hf
    have hw' := hw R' s5
    have hf' : 4096 < R' * T := by omega
    have hf2 : (4096 : Int) < (R' : Int) * (T : Int) := by rw [← Int.natCast_mul]; omega
    clear hw hf
    go_enter Tryz.func74, Tryz.ntmps74
    go_wp2
    exact bodyPost_ret (v := .tuple #[AV 0 0 (.slice none 0 0), .bool false]) (by simp [results, Tryz.results74, go_sem]) rfl ⟨rfl, by repeat (first | (with_reducible (first | exact Ext.refl _ | exact hX | exact ext_d _ _ _ _ | exact ext_app _ _ _ _ _)) | ((with_reducible refine ext_suffix ⟨_, ?_⟩); (try simp only [Array.append_assoc]); rfl) | (with_reducible (first | apply Ext.drew | apply Ext.alloc | apply Ext.more_)))⟩
  · rw [Nat.max_eq_left (by omega)] at hf
    have hw' := hw R r5
    have hf' : 4096 < R * T := by omega
    have hf2 : (4096 : Int) < (R : Int) * (T : Int) := by rw [← Int.natCast_mul]; omega
    clear hw hf
    go_enter Tryz.func74, Tryz.ntmps74
    go_wp2
    exact bodyPost_ret (v := .tuple #[AV 0 0 (.slice none 0 0), .bool false]) (by simp [results, Tryz.results74, go_sem]) rfl ⟨rfl, by repeat (first | (with_reducible (first | exact Ext.refl _ | exact hX | exact ext_d _ _ _ _ | exact ext_app _ _ _ _ _)) | ((with_reducible refine ext_suffix ⟨_, ?_⟩); (try simp only [Array.append_assoc]); rfl) | (with_reducible (first | apply Ext.drew | apply Ext.alloc | apply Ext.more_)))⟩
theorem refBeside_c : JoinC 74 besideO := by
  intro a b A B n cap n' cap' w h h' ha hb x k hx hk
  obtain ⟨a1, a2, a3, a4, a5⟩ := rightA_nat.1 ha
  obtain ⟨b1, b2, b3, b4, b5⟩ := rightA_nat.1 hb
  by_cases hf : max a.R b.R * (a.C + b.C) ≤ 4096
  · simp only [besideO, if_pos hf, orZ, Option.getD_some, Option.isSome_some] at hx hk
    subst hx hk
    have key : Calls Tryz.prog 74 #[AV a.R a.C (.slice A n cap), AV b.R b.C (.slice B n' cap')] w fun e w' => ∃ D c, e = .returned (.tuple #[AV (max a.R b.R : Nat) (a.C + b.C : Nat) (.slice D (max a.R b.R * (a.C + b.C)) c), .bool true]) ∧ SlV w.heap.size w' D (besideL a.R a.C a.l b.R b.C b.l) ∧ max a.R b.R * (a.C + b.C) ≤ c ∧ Ext w w' := by
      unfold besideL
      by_cases hM : a.R < b.R
      · rw [Nat.max_eq_right (Nat.le_of_lt hM)] at hf ⊢
        exact refBeside_lt a.R a.C b.R b.C A B n cap n' cap' a.l b.l w h h' ha hb hM hf
      · rw [Nat.max_eq_left (by omega)] at hf ⊢
        exact refBeside_ge a.R a.C b.R b.C A B n cap n' cap' a.l b.l w h h' ha hb hM hf
    refine key.mono ?_
    rintro e w' ⟨D, c, rfl, hs, hc, hX⟩
    exact ⟨D, _, c, rfl, ⟨Rd.mono hs (Nat.zero_le _), besideL_length _ _ _ _ _ _, hc, by omega, beside_all a4 b4 h.ok h'.ok (badV_ok 6 I64_6)⟩, hs, hX⟩
  · simp only [besideO, if_neg hf, orZ, Option.getD_none, Option.isSome_none] at hx hk
    subst hx hk
    refine (refBeside_wide a.R a.C b.R b.C A B n cap n' cap' a.l b.l w ha hb hf).mono ?_
    rintro e w' ⟨rfl, hX⟩
    exact ⟨none, 0, 0, rfl, ArrIn.none_ _, SlV.nil _ _ _, hX⟩
end Go.Proofs.YtlfbdodokldkhaaGreatDoor
namespace Go.Proofs.YtlfbdodokldkhaaGreatDoor
open Go.RowKit
/-- An array's values stand in no array's variable: that one may turn. -/
theorem ArrIn.box {X : World} {os : Array Obj} {d : Nat} {i0 i1 : Int} {p : Option Addr} {q r : Nat} {ty : TypeId} {A : Option Addr} {n cap : Nat} {l : List Val} (h : ArrIn (more (X.alloc (.cells #[.int .i64 i0, .int .i64 i1, .slice p q r] ty)) os d) A n cap l) (C' : Array Value) (ty' : TypeId) (d' : Nat) :
    ArrIn (more (X.alloc (.cells C' ty')) os d') A n cap l := by
  refine ⟨fun j u hu => ?_, h.len, h.cap, h.small, h.ok⟩
  obtain ⟨b, off, hA, hb, hc⟩ := h.rd j u hu
  refine ⟨b, off, hA, hb, ?_⟩
  have hne : b ≠ X.heap.size := by
    intro e
    cases l with
    | nil => simp [vcells] at hu
    | cons x l =>
      obtain ⟨b', off', hA', _, hc3⟩ := h.rd 3 (.string x.text) (by simp [vcells, Val.cells])
      rw [hA] at hA'
      simp only [Option.some.injEq, Addr.mk.injEq, and_true] at hA'
      obtain ⟨rfl, rfl⟩ := hA'
      subst e
      rw [more_cell _ _ _ _ _ (by simp), World.cell?_alloc_at _ _ _ _ rfl] at hc3
      simp at hc3
  rw [← hc]
  refine World.cell?_of_block ?_
  show (more (X.alloc (.cells C' ty')) os d').heap[b]? = (more (X.alloc _) os d).heap[b]?
  simp only [more, World.alloc, Array.getElem?_append, Array.size_push, Array.getElem?_push]
  by_cases hlt : b < X.heap.size + 1
  · rw [if_pos hlt, if_pos hlt, if_neg hne, if_neg hne]
  · rw [if_neg hlt, if_neg hlt]
theorem refTurn_s (R C : Nat) (A : Option Addr) (n cap : Nat) (l : List Val) (w : World) (h : ArrIn w A n cap l) (hr : rightA R C l = true) :
    Calls Tryz.prog 36 #[AV R C (.slice A n cap)] w fun e w' => ∃ D c, e = .returned (AV C R (.slice D n c)) ∧ ArrIn w' D n c (turnL R C l) ∧ SlV w.heap.size w' D (turnL R C l) ∧ Ext w w' := by
  obtain ⟨a1, a2, a3, a4, a5⟩ := rightA_nat.1 hr
  have hln := h.len
  refine (refTurn_any R C A n cap l w h a1 a2 (by omega) (by omega)).mono ?_
  rintro e w' ⟨⟨D, c, rfl, hs, hc⟩, hX⟩
  have e : (turnL R C l).length = n := by rw [turnL_length, ← h.len, a4, Nat.mul_comm]
  rw [e] at hc ⊢
  exact ⟨D, c, rfl, ⟨Rd.mono hs (Nat.zero_le _), e, hc, h.small, turn_all a4 h.ok⟩, hs, hX⟩
theorem turn_beside (R C : Nat) (l : List Val) (R' C' : Nat) (l' : List Val) : turnL (max C C') (R + R') (besideL C R (turnL R C l) C' R' (turnL R' C' l')) = belowL R C l R' C' l' := by
  rw [turnL, belowL]
  refine vals_congr fun i j hi hj => ?_
  rw [beside_get C R _ C' R' _ hj hi]
  by_cases q : i < R
  · rw [if_pos q, if_pos q, orNone_turn]
  · rw [if_neg q, if_neg q]
    obtain ⟨k, rfl⟩ : ∃ k, i = R + k := ⟨i - R, by omega⟩
    rw [show (((R + k : Nat) : Int) - (R : Int)) = (k : Int) by omega, orNone_turn]
/-- Below is Beside, turned. -/
theorem below_turned {a b : NA} : belowO a b = (besideO ⟨a.C, a.R, turnL a.R a.C a.l⟩ ⟨b.C, b.R, turnL b.R b.C b.l⟩).map fun z => ⟨z.C, z.R, turnL z.R z.C z.l⟩ := by
  unfold belowO besideO
  by_cases h : (a.R + b.R) * max a.C b.C ≤ 4096
  · have h' : max a.C b.C * (a.R + b.R) ≤ 4096 := by rw [Nat.mul_comm]; exact h
    rw [if_pos h, if_pos h', Option.map_some, turn_beside]
  · have h' : ¬ max a.C b.C * (a.R + b.R) ≤ 4096 := by rw [Nat.mul_comm]; exact h
    rw [if_neg h, if_neg h', Option.map_none]
set_option maxHeartbeats 2000000 in
theorem refBelow_c : JoinC 75 belowO := by
  intro a b A B n cap n' cap' w h h' ha hb x k hx hk
  rw [below_turned] at hx hk
  have hra := turn_right ha
  have hrb := turn_right hb
  cases hz : besideO ⟨a.C, a.R, turnL a.R a.C a.l⟩ ⟨b.C, b.R, turnL b.R b.C b.l⟩ with
  | none =>
    rw [hz] at hx hk
    simp only [Option.map_none, orZ, Option.getD_none, Option.isSome_none] at hx hk
    subst hx hk
    have HZ := Lib.hid hz
    clear hz
    go_enter Tryz.func75, Tryz.ntmps75
    go_wp2_with fail
    refine wp_float [(8, 6, (.cells #[.int .i64 0, .int .i64 0, .slice none 0 0] 30))] [(0, 0), (2, 0), (1, 1), (3, 1), (4, 1), (5, 0), (6, 0), (7, 2)] [9, 10] [9, 10] [7] (by kernel_rfl) (by kernel_rfl) (by kernel_rfl) (fun _ _ d _ _ h => by cases d <;> exact h) (fun _ _ d _ _ h => by cases d <;> exact h) (fun x hx o ho a w => by (obtain rfl := List.mem_singleton.1 hx); (obtain rfl := Option.some.inj ho); (first | rfl | (simp [go_sem, ptrB]; done) | (go_simp; rfl))) ?_
    iterate 2 ((refine wpFp_read (v := ?_) rfl ?_ (fun w1 h1 => ?_) ?_; rotate_left 1; rfl; (obtain ⟨os1, d1, rfl⟩ := h1.more; go_simp; first | done | rfl)); try simp only [Act.put, zqA, zqB, zqC])
    (refine wpFp_eff rfl ?_ (fun wf hXf hE K hK => ?_); rfl; obtain ⟨osf, df, rfl⟩ := hXf.more; go_simp; refine (refTurn_s a.R a.C A n cap a.l _ (h.ext (by repeat (first | (with_reducible (first | exact Ext.refl _ | exact hX | exact ext_d _ _ _ _ | exact ext_app _ _ _ _ _)) | ((with_reducible refine ext_suffix ⟨_, ?_⟩); (try simp only [Array.append_assoc]); rfl) | (with_reducible (first | apply Ext.drew | apply Ext.alloc | apply Ext.more_))))) ha).mono ?_; rintro e w' ⟨E1, ce1, rfl, hE1, hs1, hb1⟩; refine hK _ _ (fun W => ArrIn W E1 n ce1 (turnL a.R a.C a.l)) hb1 (fun _ _ hx h => h.ext hx) hE1 ?_)
    try simp only [Act.put, zqA, zqB, zqC]
    (refine wpFp_eff rfl ?_ (fun wf hXf hE K hK => ?_); rfl; obtain ⟨osf, df, rfl⟩ := hXf.more; go_simp; refine (refTurn_s b.R b.C B n' cap' b.l _ (h'.ext (by repeat (first | (with_reducible (first | exact Ext.refl _ | exact hX | exact ext_d _ _ _ _ | exact ext_app _ _ _ _ _)) | ((with_reducible refine ext_suffix ⟨_, ?_⟩); (try simp only [Array.append_assoc]); rfl) | (with_reducible (first | apply Ext.drew | apply Ext.alloc | apply Ext.more_))))) hb).mono ?_; rintro e w' ⟨E2, ce2, rfl, hE2, hs2, hb2⟩; refine hK _ _ (fun W => ArrIn W E1 n ce1 (turnL a.R a.C a.l) ∧ ArrIn W E2 n' ce2 (turnL b.R b.C b.l)) hb2 (fun _ _ hx h => ⟨h.1.ext hx, h.2.ext hx⟩) ⟨hE.ext hb2, hE2⟩ ?_)
    try simp only [Act.put, zqA, zqB, zqC]
    (refine wpFp_eff rfl ?_ (fun wf hXf hE K hK => ?_); rfl; obtain ⟨osf, df, rfl⟩ := hXf.more; go_simp; refine (refBeside_c ⟨a.C, a.R, turnL a.R a.C a.l⟩ ⟨b.C, b.R, turnL b.R b.C b.l⟩ _ _ _ _ _ _ _ hE.1 hE.2 hra hrb ⟨0, 0, []⟩ false (by rw [HZ.out]; rfl) (by rw [HZ.out]; rfl)).mono ?_; rintro e w' ⟨E3, m4, ce3, rfl, hE3, hs3, hb3⟩; refine hK _ _ (fun _ => True) hb3 (fun _ _ _ _ => trivial) trivial ?_)
    try simp only [Act.put, zqA, zqB, zqC]
    iterate 2 ((refine wpFp_read (v := ?_) rfl ?_ (fun w1 h1 => ?_) ?_; rotate_left 1; rfl; (obtain ⟨os1, d1, rfl⟩ := h1.more; go_simp; first | done | rfl)); try simp only [Act.put, zqA, zqB, zqC])
    (refine wpFp_pure (v := ?_) rfl ?_ (fun w1 => ?_) ?_; rotate_left 1; rfl; (go_simp; first | done | rfl))
    try simp only [Act.put, zqA, zqB, zqC]
    refine wpFp_one fun osa da osb db hE => ?_
    try simp only [Act.put, zqA, zqB, zqC]
    iterate 2 ((refine wpTl_op rfl ?_ (fun K hK => ?_); rfl; go_simp; refine hK _ _ ?_); try simp only [Act.put, zqA, zqB, zqC])
    refine wpTl_nil ?_
    go_wp2
    exact bodyPost_ret (v := .tuple #[AV 0 0 (.slice none 0 0), .bool false]) (by simp [results, Tryz.results75, go_sem]) rfl ⟨none, 0, 0, rfl, ArrIn.none_ _, SlV.nil _ _ _, by repeat (first | (with_reducible (first | exact Ext.refl _ | exact hX | exact ext_d _ _ _ _ | exact ext_app _ _ _ _ _)) | ((with_reducible refine ext_suffix ⟨_, ?_⟩); (try simp only [Array.append_assoc]); rfl) | (with_reducible (first | apply Ext.drew | apply Ext.alloc | apply Ext.more_)))⟩
  | some z =>
    rw [hz] at hx hk
    simp only [Option.map_some, orZ, Option.getD_some, Option.isSome_some] at hx hk
    subst hx hk
    have hrz := beside_right (a := ⟨a.C, a.R, turnL a.R a.C a.l⟩) (b := ⟨b.C, b.R, turnL b.R b.C b.l⟩) hra hrb hz
    have HZ := Lib.hid hz
    clear hz
    go_enter Tryz.func75, Tryz.ntmps75
    go_wp2_with fail
    refine wp_float [(8, 6, (.cells #[.int .i64 0, .int .i64 0, .slice none 0 0] 30))] [(0, 0), (2, 0), (1, 1), (3, 1), (4, 1), (5, 0), (6, 0), (7, 2)] [9, 10] [9, 10] [7] (by kernel_rfl) (by kernel_rfl) (by kernel_rfl) (fun _ _ d _ _ h => by cases d <;> exact h) (fun _ _ d _ _ h => by cases d <;> exact h) (fun x hx o ho a w => by (obtain rfl := List.mem_singleton.1 hx); (obtain rfl := Option.some.inj ho); (first | rfl | (simp [go_sem, ptrB]; done) | (go_simp; rfl))) ?_
    iterate 2 ((refine wpFp_read (v := ?_) rfl ?_ (fun w1 h1 => ?_) ?_; rotate_left 1; rfl; (obtain ⟨os1, d1, rfl⟩ := h1.more; go_simp; first | done | rfl)); try simp only [Act.put, zqA, zqB, zqC])
    (refine wpFp_eff rfl ?_ (fun wf hXf hE K hK => ?_); rfl; obtain ⟨osf, df, rfl⟩ := hXf.more; go_simp; refine (refTurn_s a.R a.C A n cap a.l _ (h.ext (by repeat (first | (with_reducible (first | exact Ext.refl _ | exact hX | exact ext_d _ _ _ _ | exact ext_app _ _ _ _ _)) | ((with_reducible refine ext_suffix ⟨_, ?_⟩); (try simp only [Array.append_assoc]); rfl) | (with_reducible (first | apply Ext.drew | apply Ext.alloc | apply Ext.more_))))) ha).mono ?_; rintro e w' ⟨E1, ce1, rfl, hE1, hs1, hb1⟩; refine hK _ _ (fun W => ArrIn W E1 n ce1 (turnL a.R a.C a.l)) hb1 (fun _ _ hx h => h.ext hx) hE1 ?_)
    try simp only [Act.put, zqA, zqB, zqC]
    (refine wpFp_eff rfl ?_ (fun wf hXf hE K hK => ?_); rfl; obtain ⟨osf, df, rfl⟩ := hXf.more; go_simp; refine (refTurn_s b.R b.C B n' cap' b.l _ (h'.ext (by repeat (first | (with_reducible (first | exact Ext.refl _ | exact hX | exact ext_d _ _ _ _ | exact ext_app _ _ _ _ _)) | ((with_reducible refine ext_suffix ⟨_, ?_⟩); (try simp only [Array.append_assoc]); rfl) | (with_reducible (first | apply Ext.drew | apply Ext.alloc | apply Ext.more_))))) hb).mono ?_; rintro e w' ⟨E2, ce2, rfl, hE2, hs2, hb2⟩; refine hK _ _ (fun W => ArrIn W E1 n ce1 (turnL a.R a.C a.l) ∧ ArrIn W E2 n' ce2 (turnL b.R b.C b.l)) hb2 (fun _ _ hx h => ⟨h.1.ext hx, h.2.ext hx⟩) ⟨hE.ext hb2, hE2⟩ ?_)
    try simp only [Act.put, zqA, zqB, zqC]
    (refine wpFp_eff rfl ?_ (fun wf hXf hE K hK => ?_); rfl; obtain ⟨osf, df, rfl⟩ := hXf.more; go_simp; refine (refBeside_c ⟨a.C, a.R, turnL a.R a.C a.l⟩ ⟨b.C, b.R, turnL b.R b.C b.l⟩ _ _ _ _ _ _ _ hE.1 hE.2 hra hrb z true (by rw [HZ.out]; rfl) (by rw [HZ.out]; rfl)).mono ?_; rintro e w' ⟨E3, m4, ce3, rfl, hE3, hs3, hb3⟩; refine hK _ _ (fun W => ArrIn W E3 m4 ce3 z.l) hb3 (fun _ _ hx h => h.ext hx) hE3 ?_)
    try simp only [Act.put, zqA, zqB, zqC]
    iterate 2 ((refine wpFp_read (v := ?_) rfl ?_ (fun w1 h1 => ?_) ?_; rotate_left 1; rfl; (obtain ⟨os1, d1, rfl⟩ := h1.more; go_simp; first | done | rfl)); try simp only [Act.put, zqA, zqB, zqC])
    (refine wpFp_pure (v := ?_) rfl ?_ (fun w1 => ?_) ?_; rotate_left 1; rfl; (go_simp; first | done | rfl))
    try simp only [Act.put, zqA, zqB, zqC]
    refine wpFp_one fun osa da osb db hE => ?_
    try simp only [Act.put, zqA, zqB, zqC]
    iterate 2 ((refine wpTl_op rfl ?_ (fun K hK => ?_); rfl; go_simp; refine hK _ _ ?_); try simp only [Act.put, zqA, zqB, zqC])
    refine wpTl_nil ?_
    have hY := hE.box #[.int .i64 z.R, .int .i64 z.C, .slice E3 m4 ce3] 30 db
    clear hE
    (try simp only [drew_more] at hY)
    go_wp2_with fail
    refine (refTurn_s z.R z.C E3 m4 ce3 z.l _ (hY.ext (by repeat (first | (with_reducible (first | exact Ext.refl _ | exact hX | exact ext_d _ _ _ _ | exact ext_app _ _ _ _ _)) | ((with_reducible refine ext_suffix ⟨_, ?_⟩); (try simp only [Array.append_assoc]); rfl) | (with_reducible (first | apply Ext.drew | apply Ext.alloc | apply Ext.more_))))) hrz).mono ?_
    rintro e w' ⟨F, cf, rfl, hF, hs, hb⟩
    obtain ⟨os5, d5, rfl⟩ := hb.more
    clear hb
    go_wp2
    have hF' := hs
    refine bodyPost_ret (v := .tuple #[AV z.C z.R (.slice F m4 cf), .bool true]) (by simp [results, Tryz.results75, go_sem]) rfl ⟨F, m4, cf, rfl, ⟨?_, hF.len, hF.cap, hF.small, hF.ok⟩, ?_, by repeat (first | (with_reducible (first | exact Ext.refl _ | exact hX | exact ext_d _ _ _ _ | exact ext_app _ _ _ _ _)) | ((with_reducible refine ext_suffix ⟨_, ?_⟩); (try simp only [Array.append_assoc]); rfl) | (with_reducible (first | apply Ext.drew | apply Ext.alloc | apply Ext.more_)))⟩
    · exact (by (try simp only [more_more] at hs); (try simp only [drew_more] at hs); (try simp only [more_drew] at hs); (try simp only [Array.append_assoc] at hs); exact Rd.swap hs (by first | (simp; done) | (simp; omega) | omega) (by first | (simp; done) | (simp; omega) | omega) (by first | (simp; done) | (simp; omega) | omega))
    · exact (by (try simp only [more_more] at hF'); (try simp only [drew_more] at hF'); (try simp only [more_drew] at hF'); (try simp only [Array.append_assoc] at hF'); exact Rd.swap hF' (by first | (simp; done) | (simp; omega) | omega) (by first | (simp; done) | (simp; omega) | omega) (by first | (simp; done) | (simp; omega) | omega))
end Go.Proofs.YtlfbdodokldkhaaGreatDoor
namespace Go.Proofs.YtlfbdodokldkhaaGreatDoor
open Go.RowKit NM
/-- What hands back an array that is an argument's own, or new. -/
def ResM (w : World) (xs : List Ar) (x : NA) (e : Ending) (w' : World) : Prop :=
  ∃ D m cc, e = .returned (AV x.R x.C (.slice D m cc)) ∧ ArrIn w' D m cc x.l ∧ Ext w w' ∧ ((∃ a ∈ xs, a = ⟨x, D, m, cc⟩) ∨ SlV w.heap.size w' D x.l)
set_option maxHeartbeats 4000000 in
theorem rhstack_any (A : Option Addr) (n cap : Nat) (xs : List Ar) (w : World) (h : ArgsIn w A n cap xs) (hn : 1 ≤ n) :
    Calls Tryz.prog 37 #[.slice A n cap, .bool false] w fun e w' => ResM w xs (stackN besideO xs) e w' := by
  obtain ⟨R0, C0, l0, b1, off1, n1, cap1, b, off, x0, ha, rfl, ⟨v0, v1, v2⟩, hn1, hc1, _, _, _, hbl, _, _, _, harr, _⟩ := h.first hn
  have hcap := h.cap
  have hsm := h.small
  have h0r : NA.right ⟨R0, C0, l0⟩ := (h.all _ (List.mem_of_getElem? ha)).right
  simp only [Nat.zero_mul, Nat.add_zero] at v0 v1 v2
  obtain ⟨a0, ys, rfl⟩ : ∃ a ys, xs = a :: ys := by
    cases xs with
    | nil => simp at ha
    | cons a ys => exact ⟨a, ys, rfl⟩
  obtain rfl : a0 = ⟨⟨R0, C0, l0⟩, some ⟨b1, off1, none⟩, n1, cap1⟩ := by simpa using ha
  have hlen : ys.length + 1 = n := by have := h.len; simpa using this
  obtain ⟨X, hX⟩ : ∃ X, stackN besideO (⟨⟨R0, C0, l0⟩, some ⟨b1, off1, none⟩, n1, cap1⟩ :: ys) = X := ⟨_, rfl⟩
  rw [hX]
  have HX := Lib.hid hX
  have H := Lib.hid h
  have HA := Lib.hid harr
  clear hX h ha harr
  go_enter Tryz.func37, Tryz.ntmps37
  go_wp2_with fail
  go_loopw [6] (fun i wr => ∃ (k : Nat) (Y : NA) (E : Option Addr) (me ce : Nat) (os : Array Obj) (d : Nat), k + 1 ≤ n ∧ i = .int .i64 ((k : Int) + 1) ∧ wr = more ((w.alloc (Obj.cells #[.int .i64 0, .int .i64 0, .slice none 0 0] 30)).alloc (Obj.cells #[.int .i64 (Y.R : Int), .int .i64 (Y.C : Int), .slice E me ce] 30)) os d ∧ Hid (ArrIn wr E me ce Y.l) ∧ Hid ((⟨Y, E, me, ce⟩ : Ar) = ⟨⟨R0, C0, l0⟩, some ⟨b1, off1, none⟩, n1, cap1⟩ ∨ SlV (w.heap.size + 2) wr E Y.l) ∧ Y.right ∧ Hid (stackO besideO Y ((ys.drop k).map Ar.x) = stackO besideO ⟨R0, C0, l0⟩ (ys.map Ar.x))) (fun i _ => n - (intOf i).toNat)
  case atStart =>
    exact ⟨0, ⟨R0, C0, l0⟩, some ⟨b1, off1, none⟩, n1, cap1, #[], _, by omega, rfl, (more_none _).symm, HA.out.ext (by with_reducible repeat (first | exact Ext.refl _ | apply Ext.drew | apply Ext.alloc | apply Ext.more_)), Or.inl rfl, h0r, (by show _ = _; rw [List.drop_zero])⟩
  case round =>
    obtain ⟨k, Y, E, me, ce, os, d, hk, rfl, rfl, HE, HB, hYr, HS⟩ := hrel
    have hEa := HE.out
    by_cases hlt : k + 1 < n
    · have hlt' : (k : Int) + 1 < (n : Int) := by omega
      obtain ⟨a, hak⟩ : ∃ a, ys[k]? = some a := ⟨_, List.getElem?_eq_getElem (by omega)⟩
      obtain ⟨b', off', hbo, ⟨u0, u1, u2⟩, hok⟩ := H.out.get (k := k + 1) (a := a) (by simpa using hak)
      simp only [Option.some.injEq, Addr.mk.injEq, and_true] at hbo
      obtain ⟨rfl, rfl⟩ := hbo
      have hdr : (ys.drop k).map Ar.x = a.x :: (ys.drop (k + 1)).map Ar.x := by rw [List.drop_eq_getElem_cons (by omega), List.map_cons]; congr 2; rw [List.getElem?_eq_getElem (by omega)] at hak; simpa using hak
      have HOK := Lib.hid hok.arr
      have hj := fun W hA' hB' x kk e1 e2 => refBeside_c Y a.x E a.A me ce a.n a.cap W hA' hB' hYr hok.right x kk e1 e2
      obtain ⟨Z, hZ⟩ : ∃ Z, orZ (besideO Y a.x) = Z := ⟨_, rfl⟩
      obtain ⟨kk, hkk⟩ : ∃ kk, (besideO Y a.x).isSome = kk := ⟨_, rfl⟩
      have hjs := fun W hA' hB' => hj W hA' hB' Z kk hZ hkk
      have HK := Lib.hid (And.intro hZ hkk)
      clear hj hZ hkk hak
      go_upto_region 5 with fail
      refine wp_world fun U hU => ?_
      have hx : Ext w U := by rw [hU]; exact (by with_reducible repeat (first | exact Ext.refl _ | apply Ext.drew | apply Ext.alloc | apply Ext.more_))
      have c0 : U.cell? ⟨w.heap.size + 1, 0, none⟩ = some (.int .i64 Y.R) := by rw [hU]; go_simp
      have c1 : U.cell? ⟨w.heap.size + 1, 1, none⟩ = some (.int .i64 Y.C) := by rw [hU]; go_simp
      have c2 : U.cell? ⟨w.heap.size + 1, 2, none⟩ = some (.slice E me ce) := by rw [hU]; go_simp
      have lc := lt_of_cell c0
      have lu : b < U.heap.size := Nat.lt_of_lt_of_le hbl hx.size
      have hU2 : w.heap.size + 2 ≤ U.heap.size := by rw [hU]; simp
      replace u0 := hx.cell_some u0
      replace u1 := hx.cell_some u1
      replace u2 := hx.cell_some u2
      have hEu : ArrIn U E me ce Y.l := by rw [hU]; exact hEa
      have HUo := Lib.hid (HOK.out.ext hx)
      have HU := Lib.hid hU
      clear hU
      refine wp_float [(9, 7, (.cells #[.int .i64 0, .int .i64 0, .slice none 0 0] 30))] [(0, 0), (1, 0), (2, 0), (3, 0), (4, 0), (5, 1), (6, 0), (7, 0), (8, 2)] [10, 11] [10, 11] [8] (by kernel_rfl) (by kernel_rfl) (by kernel_rfl) (fun _ _ d _ _ h => by cases d <;> exact h) (fun _ _ d _ _ h => by cases d <;> exact h) (fun x hx o ho a w => by (obtain rfl := List.mem_singleton.1 hx); (obtain rfl := Option.some.inj ho); (first | rfl | (simp [go_sem, ptrB]; done) | (go_simp; rfl))) ?_
      iterate 5 ((refine wpFp_read (v := ?_) rfl ?_ (fun w1 h1 => ?_) ?_; rotate_left 1; rfl; (obtain ⟨os1, d1, rfl⟩ := h1.more; go_simp; first | done | rfl)); try simp only [Act.put, zqA, zqB, zqC])
      (refine wpFp_eff rfl ?_ (fun wf hXf hE K hK => ?_); rfl; obtain ⟨osf, df, rfl⟩ := hXf.more; go_simp; refine (hjs _ (hEu.ext (by repeat (first | (with_reducible (first | exact Ext.refl _ | exact ext_app _ _ _ _ _ | exact ext_app2 _ _ _ _ _ _)) | ((with_reducible refine ext_suffix ⟨_, ?_⟩); (try simp only [Array.append_assoc]); rfl) | (with_reducible (first | apply Ext.drew | apply Ext.alloc | apply Ext.more_))))) (HUo.out.ext (by repeat (first | (with_reducible (first | exact Ext.refl _ | exact ext_app _ _ _ _ _ | exact ext_app2 _ _ _ _ _ _)) | ((with_reducible refine ext_suffix ⟨_, ?_⟩); (try simp only [Array.append_assoc]); rfl) | (with_reducible (first | apply Ext.drew | apply Ext.alloc | apply Ext.more_)))))).mono ?_; rintro e w' ⟨D6, m6, c6, rfl, hA6, hS6, hb⟩; refine hK _ _ (fun W => ArrIn W D6 m6 c6 Z.l ∧ SlV (w.heap.size + 2) W D6 Z.l) (by (try simp only [more_drew, more_more, Array.append_assoc]); exact hb) (fun _ _ hx h => ⟨h.1.ext hx, h.2.ext hx⟩) ⟨hA6, hS6.mono (by simp; omega)⟩ ?_)
      try simp only [Act.put, zqA, zqB, zqC]
      iterate 2 ((refine wpFp_read (v := ?_) rfl ?_ (fun w1 h1 => ?_) ?_; rotate_left 1; rfl; (obtain ⟨os1, d1, rfl⟩ := h1.more; go_simp; first | done | rfl)); try simp only [Act.put, zqA, zqB, zqC])
      (refine wpFp_pure (v := ?_) rfl ?_ (fun w1 => ?_) ?_; rotate_left 1; rfl; (go_simp; first | done | rfl))
      try simp only [Act.put, zqA, zqB, zqC]
      refine wpFp_one fun osa da osb db hE => ?_
      try simp only [Act.put, zqA, zqB, zqC]
      iterate 2 ((refine wpTl_op rfl ?_ (fun K hK => ?_); rfl; go_simp; refine hK _ _ ?_); try simp only [Act.put, zqA, zqB, zqC])
      refine wpTl_nil ?_
      clear c0 c1 c2 lc lu u0 u1 u2 hEu HUo
      simp only [drew_more] at hE
      have hSl := rd_var (.int .i64 Z.R) (.int .i64 Z.C) (.slice D6 m6 c6) hE.2
      have hlen6 := hE.1.len
      have hcap6 := hE.1.cap
      have hsm6 := hE.1.small
      have hok6 := hE.1.ok
      have hrow := gvar_at U (.cells #[.int .i64 (Z.R : Int), .int .i64 (Z.C : Int), .slice D6 m6 c6] 30) osa osb da db
      have hflat := flat4 ((w.alloc (Obj.cells #[.int .i64 0, .int .i64 0, .slice none 0 0] 30)).alloc (Obj.cells #[.int .i64 (Y.R : Int), .int .i64 (Y.C : Int), .slice E me ce] 30)) os osa osb d da db (.cells #[.int .i64 (Z.R : Int), .int .i64 (Z.C : Int), .slice D6 m6 c6] 30)
      rw [← HU.out] at hflat
      rw [hflat] at hSl hrow ⊢
      clear hE hflat
      generalize (os ++ osa).push (.cells #[.int .i64 (Z.R : Int), .int .i64 (Z.C : Int), .slice D6 m6 c6] 30) ++ osb = os9 at *
      generalize U.heap.size + osa.size = pz at *
      clear HU hU2 hx
      have n0 := cell_of_row _ _ 0 _ _ _ hrow
      have n1 := cell_of_row _ _ 1 _ _ _ hrow
      have n2 := cell_of_row _ _ 2 _ _ _ hrow
      have ln := lt_of_cell n0
      clear hrow
      cases kk with
      | false =>
        have hJa : besideO Y a.x = none := by have := HK.out.2; cases hb : besideO Y a.x with
          | none => rfl
          | some q => rw [hb] at this; cases this
        obtain rfl : aloneO 5 = X := by
          rw [← HX.out]
          show aloneO 5 = (stackO besideO ⟨R0, C0, l0⟩ (ys.map Ar.x)).getD (aloneO 5)
          rw [← HS.out, hdr, stackO_none hJa]
          try rfl
        clear HK hJa HS hdr HX hSl
        go_wp2_with (go_at_call 20; (with_reducible refine (rbad_res 5 (by omega) _).mono ?_); rintro e w' ⟨D, m, cc, rfl, hD, hb⟩; obtain ⟨os5, d5, rfl⟩ := hb.more; clear hb; have hDr := hD.rd)
        exact bodyPost_ret (v := AV (aloneO 5).R (aloneO 5).C (.slice D m cc)) (by simp [results, Tryz.results37, go_sem]) rfl ⟨D, m, cc, rfl, ArrN.arr (base := w.heap.size) ⟨(by (try simp only [more_alloc, more_more] at hDr); (try simp only [more_alloc, more_more]); (try simp only [drew_more] at hDr); (try simp only [more_drew] at hDr); (try simp only [Array.append_assoc] at hDr); exact Rd.swap hDr (by first | (simp; done) | (simp; omega) | omega) (by first | (simp; done) | (simp; omega) | omega) (by first | (simp; done) | (simp; omega) | omega)), hD.len, hD.cap, hD.small, hD.ok⟩, by with_reducible repeat (first | exact Ext.refl _ | apply Ext.drew | apply Ext.alloc | apply Ext.more_), Or.inr (by (try simp only [more_alloc, more_more] at hDr); (try simp only [more_alloc, more_more]); (try simp only [drew_more] at hDr); (try simp only [more_drew] at hDr); (try simp only [Array.append_assoc] at hDr); exact Rd.swap hDr (by first | (simp; done) | (simp; omega) | omega) (by first | (simp; done) | (simp; omega) | omega) (by first | (simp; done) | (simp; omega) | omega))⟩
      | true =>
        have hJa : besideO Y a.x = some Z := by
          have h1 := HK.out.1
          have h2 := HK.out.2
          cases hb : besideO Y a.x with
          | none => rw [hb] at h2; cases h2
          | some q => rw [hb] at h1; exact congrArg some h1
        have hZr := beside_right hYr hok.right hJa
        have HS2 : Hid (stackO besideO Z ((ys.drop (k + 1)).map Ar.x) = stackO besideO ⟨R0, C0, l0⟩ (ys.map Ar.x)) := by
          show _ = _
          rw [← HS.out, hdr, stackO_some hJa]
        clear HK hJa HS hdr
        go_wp2_with fail
        refine ⟨⟨k + 1, Z, D6, m6, c6, os9, _, by omega, by go_num, rfl, (show ArrIn _ _ _ _ _ from ⟨Rd.mono (Rd.swap (base' := 0) hSl (by simp) (by simp) (Nat.zero_le _)) (Nat.le_refl _), hlen6, hcap6, hsm6, hok6⟩), (show _ ∨ _ from Or.inr (Rd.swap (base' := w.heap.size + 2) hSl (by simp) (by simp) (Nat.le_refl _))), hZr, HS2⟩, by simp [intOf]; omega⟩
    · obtain rfl : k + 1 = n := by omega
      obtain rfl : Y = X := by
        rw [← HX.out]
        show Y = (stackO besideO ⟨R0, C0, l0⟩ (ys.map Ar.x)).getD (aloneO 5)
        rw [← HS.out, List.drop_of_length_le (by omega)]; rfl
      have hEl := HE.out.len
      have hEc := HE.out.cap
      have hEs := HE.out.small
      have hEo := HE.out.ok
      rcases HB.out with hB | hB
      · simp only [Ar.mk.injEq] at hB
        obtain ⟨rfl, rfl, rfl, rfl⟩ := hB
        go_wp2_with fail
        exact bodyPost_ret (v := AV R0 C0 (.slice (some ⟨b1, off1, none⟩) me ce)) (by simp [results, Tryz.results37, go_sem]) rfl ⟨_, _, _, rfl, HA.out.ext (by with_reducible repeat (first | exact Ext.refl _ | apply Ext.drew | apply Ext.alloc | apply Ext.more_)), by with_reducible repeat (first | exact Ext.refl _ | apply Ext.drew | apply Ext.alloc | apply Ext.more_), Or.inl ⟨_, List.mem_cons_self, rfl⟩⟩
      · go_wp2_with fail
        exact bodyPost_ret (v := AV Y.R Y.C (.slice E me ce)) (by simp [results, Tryz.results37, go_sem]) rfl ⟨E, me, ce, rfl, ⟨Rd.swap (base' := 0) hB (by simp) (by simp) (Nat.zero_le _), hEl, hEc, hEs, hEo⟩, by with_reducible repeat (first | exact Ext.refl _ | apply Ext.drew | apply Ext.alloc | apply Ext.more_), Or.inr (Rd.swap (base' := w.heap.size) hB (by simp) (by simp) (by omega))⟩
end Go.Proofs.YtlfbdodokldkhaaGreatDoor
namespace Go.Proofs.YtlfbdodokldkhaaGreatDoor
open Go.RowKit
/-- An operation that may come up at any time: its number, its slot, the object that it makes, what it answers. -/
structure FX where
  i : Nat
  t : Nat
  ob : Obj
  yv : Nat → Value
def putX : List FX → (Nat → Option Nat) → Act → Act
  | [], _, a => a
  | x :: fs, β, a => match β x.i with
    | none => putX fs β a
    | some b => (putX fs β a).put (some x.t) (x.yv b)
def nx (fs : List FX) (β : Nat → Option Nat) : Nat := fs.countP fun x => (β x.i).isNone
theorem putX_congr {β β' : Nat → Option Nat} {a : Act} : ∀ {fs : List FX}, (∀ x ∈ fs, β x.i = β' x.i) → putX fs β a = putX fs β' a
  | [], _ => rfl
  | x :: fs, h => by
    unfold putX
    rw [h x (by simp), putX_congr (fs := fs) fun y hy => h y (by simp [hy])]
theorem putX_put {β : Nat → Option Nat} {a : Act} {d : Option Tmp} {v : Value} : ∀ {fs : List FX}, (∀ x ∈ fs, d ≠ some x.t) → putX fs β (a.put d v) = (putX fs β a).put d v
  | [], _ => rfl
  | x :: fs, h => by
    unfold putX
    rw [putX_put (fs := fs) fun y hy => h y (by simp [hy])]
    cases β x.i with
    | none => rfl
    | some b => exact Act.put_comm _ _ _ fun e he hx => h x (by simp) (by rw [he, hx])
theorem putX_set {β : Nat → Option Nat} {a : Act} {x : FX} {b : Nat} : ∀ {fs : List FX}, x ∈ fs → (fs.map (·.i)).Nodup → (fs.map (·.t)).Nodup → β x.i = none → putX fs (setB β x.i b) a = (putX fs β a).put (some x.t) (x.yv b)
  | [], h, _, _, _ => by cases h
  | y :: fs, h, hn, hs, hb => by
    simp only [List.map_cons, List.nodup_cons, List.mem_map, not_exists, not_and] at hn hs
    unfold putX
    by_cases hxy : y.i = x.i
    · have hyx : y = x := by
        rcases List.mem_cons.1 h with rfl | h'
        · rfl
        · exact absurd hxy.symm (hn.1 x h')
      subst hyx
      have e : putX fs (setB β y.i b) a = putX fs β a := putX_congr fun z hz => by
        unfold setB; rw [if_neg (fun e => hn.1 z hz e)]
      simp only [setB, if_true, hb] at e ⊢
      rw [e]
    · have hx : x ∈ fs := by
        rcases List.mem_cons.1 h with rfl | h'
        · exact absurd rfl hxy
        · exact h'
      have e : setB β x.i b y.i = β y.i := by unfold setB; rw [if_neg hxy]
      rw [e, putX_set hx hn.2 hs.2 hb]
      cases β y.i with
      | none => rfl
      | some b' => exact Act.put_comm _ _ _ fun d hd hd' => hs.1 x hx (by simp_all)
theorem nx_set {β : Nat → Option Nat} {x : FX} {b : Nat} : ∀ {fs : List FX}, x ∈ fs → (fs.map (·.i)).Nodup → β x.i = none → nx fs (setB β x.i b) + 1 = nx fs β
  | [], h, _, _ => by cases h
  | y :: fs, h, hn, hb => by
    simp only [List.map_cons, List.nodup_cons, List.mem_map, not_exists, not_and] at hn
    unfold nx
    rw [List.countP_cons, List.countP_cons]
    by_cases hxy : y.i = x.i
    · have e : fs.countP (fun z => (setB β x.i b z.i).isNone) = fs.countP (fun z => (β z.i).isNone) := by
        refine List.countP_congr fun z hz => ?_
        rw [show setB β x.i b z.i = β z.i by unfold setB; rw [if_neg (fun e => hn.1 z hz (e.trans hxy.symm))]]
      rw [e, show setB β x.i b y.i = some b by unfold setB; rw [if_pos hxy], show β y.i = none by rw [hxy]; exact hb]
      simp
    · have hx : x ∈ fs := by
        rcases List.mem_cons.1 h with rfl | h'
        · exact absurd rfl hxy
        · exact h'
      have ih := nx_set (b := b) hx hn.2 hb
      unfold nx at ih
      rw [show setB β x.i b y.i = β y.i by unfold setB; rw [if_neg hxy]]
      omega
theorem nodup_injX {x y : FX} : ∀ {fs : List FX}, (fs.map (·.i)).Nodup → x ∈ fs → y ∈ fs → x.i = y.i → x = y
  | [], _, h, _, _ => by cases h
  | z :: fs, hn, hx, hy, e => by
    simp only [List.map_cons, List.nodup_cons, List.mem_map, not_exists, not_and] at hn
    rcases List.mem_cons.1 hx with rfl | hx'
    · rcases List.mem_cons.1 hy with rfl | hy'
      · rfl
      · exact absurd e.symm (hn.1 y hy')
    · rcases List.mem_cons.1 hy with rfl | hy'
      · exact absurd e (hn.1 x hx')
      · exact nodup_injX hn.2 hx' hy' e
section
variable {P : Program} {ops : Array Oper} {Q : Exit → Act → World → Prop} {tl : List Nat}
theorem wpOp_putX {j : Nat} {oj : Oper} {β : Nat → Option Nat} (hj : ops[j]? = some oj) (hsj : ∀ cs b, oj.op ≠ .select cs b) (hQ : ∀ c a d v w, Q (.panic c) a w → Q (.panic c) (a.put d v) w)
    {K : Act → World → Prop} {a : Act} {w : World} (h : wpOp P ops Q j K a w) : ∀ {fs : List FX}, (∀ x ∈ fs, x.t ∉ oj.looksAt ops ∧ oj.dst ≠ some x.t) →
    wpOp P ops Q j (fun a' w' => ∃ a'', a' = putX fs β a'' ∧ K a'' w') (putX fs β a) w
  | [], _ => wpOp_mono (fun a' w' h' => ⟨a', rfl, h'⟩) h
  | x :: fs, hx => by
    have ih := wpOp_putX (β := β) hj hsj hQ h (fs := fs) fun y hy => hx y (by simp [hy])
    unfold putX
    cases β x.i with
    | none => exact ih
    | some b =>
      refine wpOp_mono ?_ (wpOp_put1 (v := x.yv b) hj hsj (hx x (by simp)).1 (hx x (by simp)).2 (fun c a w => hQ c a _ _ w) ih)
      rintro a' w' ⟨a1, rfl, a2, rfl, hk⟩
      exact ⟨a2, rfl, hk⟩
theorem yields_putX {S : World → Prop} {o : Oper} {v : Value} {a : Act} {β : Nat → Option Nat} (hs : ∀ cs b, o.op ≠ .select cs b) (hy : YieldsIf P ops S o v a) : ∀ {fs : List FX}, (∀ x ∈ fs, x.t ∉ o.looksAt ops) → YieldsIf P ops S o v (putX fs β a)
  | [], _ => hy
  | x :: fs, hx => by
    have ih := yields_putX (β := β) hs hy (fs := fs) fun y hy => hx y (by simp [hy])
    unfold putX
    cases β x.i with
    | none => exact ih
    | some b =>
      have h1 : ∀ e, (some x.t : Option Tmp) = some e → e ∉ o.looksAt ops := fun e he => by obtain rfl := Option.some.inj he; exact hx x (by simp)
      exact ih.of_same (execOp_put o hs _ _ _ h1) (wanted_put o _ _ _ h1)
theorem exec_putX {o : Oper} {a : Act} {β : Nat → Option Nat} (hs : ∀ cs b, o.op ≠ .select cs b) : ∀ {fs : List FX}, (∀ x ∈ fs, x.t ∉ o.looksAt ops) → execOp (putX fs β a).eval o = execOp a.eval o
  | [], _ => rfl
  | x :: fs, hx => by
    have ih := exec_putX (a := a) (β := β) hs (fs := fs) fun y hy => hx y (by simp [hy])
    unfold putX
    cases β x.i with
    | none => exact ih
    | some b =>
      have h1 : ∀ e, (some x.t : Option Tmp) = some e → e ∉ o.looksAt ops := fun e he => by obtain rfl := Option.some.inj he; exact hx x (by simp)
      exact (execOp_put o hs _ _ _ h1).trans ih
/-- Behind an operation the others read what they read, its own slot apart. -/
def sameFor (ops : Array Oper) (d : Option Tmp) (a a' : Act) : Prop := ∀ o : Oper, (∀ cs b, o.op ≠ .select cs b) → (∀ e, d = some e → e ∉ o.looksAt ops) → execOp a'.eval o = execOp a.eval o
theorem sameFor_put {d : Option Tmp} {a : Act} {v : Value} : sameFor ops d a (a.put d v) := fun o hs h => execOp_put o hs _ _ _ h
theorem wpOp_same {j : Nat} {oj : Oper} (hj : ops[j]? = some oj) {K : Act → World → Prop} {a : Act} {w : World} (h : wpOp P ops Q j K a w) : wpOp P ops Q j (fun a' w' => sameFor ops oj.dst a a' ∧ K a' w') a w := by
  unfold wpOp at *
  simp only [hj] at *
  split
  · rename_i hw
    simp only [hw, if_true] at h
    rcases h with h | ⟨hasks, hlets⟩
    case inr => exact .inr ⟨hasks, hlets⟩
    refine .inl ?_
    unfold Oper.wp at *
    generalize (execOp a.eval oj).run P w = r at *
    cases r with
    | ok n w' =>
      cases n <;> simp only [Oper.upon] at h ⊢
      case value u => exact ⟨sameFor_put, h⟩
      case skip => exact ⟨sameFor_put, h⟩
      case defer f => exact ⟨fun o hs ho => execOp_put o hs { a with defers := f :: a.defers } _ _ ho, h⟩
      case enter f args =>
        refine Calls.mono h fun e w'' he => ?_
        cases e with
        | returned u => exact ⟨sameFor_put, he⟩
        | panicked c => exact he
        | outgrown => exact he
      case row row args => exact Rows.mono h fun u w'' he => ⟨sameFor_put, he⟩
    | halt x w' =>
      cases x <;> simp only [Oper.upon] at h ⊢
      case panic u => exact h
      all_goals exact h
  · rename_i hw
    simp only [hw] at h
    exact ⟨sameFor_put, h⟩
def wpFg (P : Program) (ops : Array Oper) (Q : Exit → Act → World → Prop) (W0 : World) (tp : List Nat) : List (Nat × Nat) → List FX → List Nat → Act → (World → Prop) → Prop
  | [], _, _, a, E => ∀ w, Ext W0 w → E w → wpTl P ops Q tp a w
  | (i, 0) :: rest, fs, bs, a, E => ∃ o v, ops[i]? = some o ∧ YieldsIf P ops (Ext W0) o v a ∧ wpFg P ops Q W0 tp rest fs bs (a.put o.dst v) E
  | (i, 2) :: rest, fs, bs, a, E => ∃ o v, ops[i]? = some o ∧ YieldsIf P ops (fun _ => True) o v a ∧ wpFg P ops Q W0 tp rest fs bs (a.put o.dst v) E
  | (_, 3) :: rest, fs, bs, a, E => ∃ x fs', fs = x :: fs' ∧ ∀ b, W0.heap.size ≤ b → b ∉ bs → (∀ w1 w2, Ext w1 w2 → E w1 → E w2) → ∃ E' : World → Prop, (∀ w1 w2, Ext w1 w2 → E' w1 → E' w2) ∧ (∀ w, Ext W0 w → E w → w.heap[b]? = some x.ob → E' w) ∧ wpFg P ops Q W0 tp rest fs' (b :: bs) (a.put (some x.t) (x.yv b)) E'
  | (i, 4) :: rest, fs, bs, a, E => ∃ x o, x.i = i ∧ ops[i]? = some o ∧ o.dst = some x.t ∧ (∀ w, (execOp a.eval o).run P w = .ok (.value (x.yv w.heap.size)) (w.alloc x.ob)) ∧ wpFg P ops Q W0 tp rest (x :: fs) bs a E
  | (i, _) :: rest, fs, bs, a, E => ∀ w, Ext W0 w → E w → wpOp P ops Q i (fun a' w' => Ext w w' ∧ ∃ E' : World → Prop, (∀ w1 w2, Ext w1 w2 → E' w1 → E' w2) ∧ E' w' ∧ wpFg P ops Q W0 tp rest fs bs a' E') a w
def awayB (ops : Array Oper) (o : Oper) (F : List Nat) : Bool :=
  o.after.all (fun e => !Region.binds .any e || !F.contains e.on) && F.all (fun k => match ops[k]? with
    | some ok => (match ok.dst with | some t => !(o.looksAt ops).contains t && o.dst != some t | none => false) && (match o.dst with | some d => !(ok.looksAt ops).contains d | none => true) && o.apart ops ok
    | none => false)
def planG (ops : Array Oper) (tl pu : List Nat) : Array Bool → List Nat → List (Nat × Nat) → Bool
  | lF, F, [] => F.isEmpty
  | lF, F, (i, 0) :: rest => Region.free .any ops lF i && (Region.ready .any ops lF).contains i && !tl.contains i && !F.contains i &&
      tl.all (fun j => lF.getD j true || match ops[j]? with | some oj => oj.after.any (fun e => Region.binds .any e && depB ops F lF i 4 e.on) | none => true) &&
      (match ops[i]? with | some o => awayB ops o F | none => false) && planG ops tl pu (lF.setIfInBounds i true) F rest
  | lF, F, (i, 2) :: rest => Region.free .any ops lF i && (Region.ready .any ops lF).contains i && !tl.contains i && !F.contains i && pu.contains i &&
      (match ops[i]? with | some o => awayB ops o F | none => false) && planG ops tl pu (lF.setIfInBounds i true) F rest
  | lF, F, (i, 3) :: rest => (F.head? == some i) && (Region.ready .any ops lF).all (fun j => match ops[j]? with | some oj => oj.after.any (fun e => Region.binds .any e && e.on == i) | none => false) && planG ops tl pu lF F.tail rest
  | lF, F, (i, 4) :: rest => (lF[i]? == some false) && !tl.contains i && !F.contains i &&
      (match ops[i]? with | some o => o.guard.isNone && o.after.all (fun e => !Region.binds .any e || lF.getD e.on false) && (match o.dst with | some t => !(o.looksAt ops).contains t | none => false) && awayB ops o F | none => false) && planG ops tl pu (lF.setIfInBounds i true) (i :: F) rest
  | lF, F, (i, _) :: rest => (Region.ready .any ops lF == [i]) && !tl.contains i && !F.contains i && !pu.contains i &&
      (match ops[i]? with | some o => awayB ops o F | none => false) && planG ops tl pu (lF.setIfInBounds i true) F rest
def listG (listed : Array Bool) (pl : List (Nat × Nat)) : Array Bool := pl.foldl (fun l x => if x.2 = 3 then l else l.setIfInBounds x.1 true) listed
def cost (pl : List (Nat × Nat)) : Nat := pl.countP fun x => x.2 != 3
theorem cost_ne {i k : Nat} {rest : List (Nat × Nat)} (h : k ≠ 3) : cost ((i, k) :: rest) = cost rest + 1 := by
  unfold cost; rw [List.countP_cons, if_pos (by simpa using h)]
theorem cost_eq {i : Nat} {rest : List (Nat × Nat)} : cost ((i, 3) :: rest) = cost rest := by
  unfold cost; rw [List.countP_cons, if_neg (by simp), Nat.add_zero]
/-- How far they have come up. -/
structure RelX (fs : List FX) (listed lF : Array Bool) (β : Nat → Option Nat) : Prop where
  size : listed.size = lF.size
  main : ∀ j, j ∉ fs.map (·.i) → listed[j]? = lF[j]?
  done : ∀ x ∈ fs, listed[x.i]? = some (β x.i).isSome ∧ lF[x.i]? = some true
theorem RelX.step {fs : List FX} {listed lF : Array Bool} {β : Nat → Option Nat} (h : RelX fs listed lF β) {i : Nat} (hi : i ∉ fs.map (·.i)) : RelX fs (listed.setIfInBounds i true) (lF.setIfInBounds i true) β := by
  refine ⟨by simp [h.size], fun j hj => ?_, fun x hx => ?_⟩
  · rw [Array.getElem?_setIfInBounds, Array.getElem?_setIfInBounds, h.size, h.main j hj]
  · have hne : i ≠ x.i := fun e => hi (by rw [e]; exact List.mem_map.2 ⟨x, hx, rfl⟩)
    rw [Array.getElem?_setIfInBounds_ne hne, Array.getElem?_setIfInBounds_ne hne]
    exact h.done x hx
theorem RelX.float {fs : List FX} {listed lF : Array Bool} {β : Nat → Option Nat} (h : RelX fs listed lF β) {x : FX} (hx : x ∈ fs) (b : Nat) : RelX fs (listed.setIfInBounds x.i true) lF (setB β x.i b) := by
  refine ⟨by simp [h.size], fun j hj => ?_, fun y hy => ?_⟩
  · rw [Array.getElem?_setIfInBounds_ne (fun e => hj (by rw [← e]; exact List.mem_map.2 ⟨x, hx, rfl⟩))]; exact h.main j hj
  · refine ⟨?_, (h.done y hy).2⟩
    have hl := (h.done y hy).1
    by_cases hxy : x.i = y.i
    · rw [← hxy, Array.getElem?_setIfInBounds_self]
      have : x.i < listed.size := by rw [hxy]; exact (Array.getElem?_eq_some_iff.1 hl).1
      simp [this, setB]
    · rw [Array.getElem?_setIfInBounds_ne hxy, hl]
      unfold setB; rw [if_neg (fun e => hxy e.symm)]
theorem RelX.wait {x : FX} {fs : List FX} {listed lF : Array Bool} {β : Nat → Option Nat} (h : RelX (x :: fs) listed lF β) (hb : (β x.i).isSome = true) : RelX fs listed lF β := by
  refine ⟨h.size, fun j hj => ?_, fun y hy => h.done y (by simp [hy])⟩
  by_cases e : j = x.i
  · subst e; rw [(h.done x (by simp)).1, (h.done x (by simp)).2, hb]
  · exact h.main j (by simp only [List.map_cons, List.mem_cons, not_or]; exact ⟨e, hj⟩)
theorem RelX.launch {x : FX} {fs : List FX} {listed lF : Array Bool} {β : Nat → Option Nat} (h : RelX fs listed lF β) (hi : x.i ∉ fs.map (·.i)) (hl : lF[x.i]? = some false) (hb : β x.i = none) : RelX (x :: fs) listed (lF.setIfInBounds x.i true) β := by
  refine ⟨by simp [h.size], fun j hj => ?_, fun y hy => ?_⟩
  · simp only [List.map_cons, List.mem_cons, not_or] at hj
    rw [Array.getElem?_setIfInBounds_ne (fun e => hj.1 e.symm)]; exact h.main j hj.2
  · rcases List.mem_cons.1 hy with rfl | hy
    · refine ⟨by rw [h.main _ hi, hl, hb]; rfl, ?_⟩
      have := (Array.getElem?_eq_some_iff.1 hl).1
      simp [this]
    · have hne : x.i ≠ y.i := fun e => hi (by rw [e]; exact List.mem_map.2 ⟨y, hy, rfl⟩)
      refine ⟨(h.done y hy).1, ?_⟩
      rw [Array.getElem?_setIfInBounds_ne hne]; exact (h.done y hy).2
theorem depX_of {fs : List FX} {listed lF : Array Bool} {β : Nat → Option Nat} (hR : RelX fs listed lF β) {i : Nat} : ∀ (n k : Nat), depB ops (fs.map (·.i)) lF i n k = true → dep ops listed i n k
  | 0, k, h => by show k = i; simpa [depB] using h
  | n + 1, k, h => by
    simp only [depB, Bool.or_eq_true, beq_iff_eq, Bool.and_eq_true, Bool.not_eq_true'] at h
    rcases h with h | ⟨⟨hF, hun⟩, h⟩
    · exact .inl h
    · right
      refine ⟨by rw [getD_same (hR.main k (by simpa using hF))]; exact hun, ?_⟩
      cases hom : ops[k]? with
      | none => rw [hom] at h; cases h
      | some om =>
        rw [hom] at h
        obtain ⟨e', he', hb'⟩ := Array.any_eq_true'.1 h
        simp only [Bool.and_eq_true] at hb'
        exact ⟨om, rfl, e', he', hb'.1, depX_of hR n _ hb'.2⟩
/-- What is known of those under way. -/
structure FgOk (P : Program) (ops : Array Oper) (tl : List Nat) (fs : List FX) (lF : Array Bool) (a : Act) : Prop where
  fl : ∀ x ∈ fs, ∃ o, ops[x.i]? = some o ∧ o.guard = none ∧ o.dst = some x.t ∧ tl.contains x.i = false ∧ (∀ e ∈ o.after, Region.binds .any e = true → lF[e.on]? = some true ∧ e.on ∉ fs.map (·.i)) ∧
    (∀ y ∈ fs, y.t ∉ o.looksAt ops) ∧ ∀ w, (execOp a.eval o).run P w = .ok (.value (x.yv w.heap.size)) (w.alloc x.ob)
  n1 : (fs.map (·.i)).Nodup
  n2 : (fs.map (·.t)).Nodup
theorem away {o : Oper} {F : List Nat} (h : awayB ops o F = true) : (∀ e ∈ o.after, Region.binds .any e = true → e.on ∉ F) ∧ ∀ k ∈ F, ∀ ok, ops[k]? = some ok → ∃ t, ok.dst = some t ∧ t ∉ o.looksAt ops ∧ o.dst ≠ some t ∧ (∀ d, o.dst = some d → d ∉ ok.looksAt ops) ∧ o.apart ops ok = true := by
  simp only [awayB, Bool.and_eq_true, List.all_eq_true, Array.all_eq_true_iff_forall_mem] at h
  refine ⟨fun e he hb hin => ?_, fun k hk ok hok => ?_⟩
  · have := h.1 e he
    rw [hb] at this
    simp only [Bool.not_true, Bool.false_or, Bool.not_eq_true'] at this
    exact absurd hin (by simpa using this)
  · have := h.2 k hk
    rw [hok] at this
    simp only [Bool.and_eq_true] at this
    obtain ⟨⟨h1, h2⟩, h3⟩ := this
    cases hd : ok.dst with
    | none => rw [hd] at h1; cases h1
    | some t =>
      rw [hd] at h1
      simp only [Bool.and_eq_true] at h1
      refine ⟨t, rfl, by simpa using h1.1, by simpa using h1.2, fun d hd' => ?_, h3⟩
      rw [hd'] at h2
      simpa using h2
theorem FgOk.step {fs : List FX} {lF : Array Bool} {a a' : Act} {i : Nat} {o : Oper} (h : FgOk P ops tl fs lF a) (hsel : Region.noSelect ops = true) (haw : awayB ops o (fs.map (·.i)) = true) (hs : sameFor ops o.dst a a') : FgOk P ops tl fs (lF.setIfInBounds i true) a' := by
  refine ⟨fun x hx => ?_, h.n1, h.n2⟩
  obtain ⟨ox, h1, h2, h3, h4, h5, h6, h7⟩ := h.fl x hx
  refine ⟨ox, h1, h2, h3, h4, fun e he hb => ⟨?_, (h5 e he hb).2⟩, h6, fun w => ?_⟩
  · have := (h5 e he hb).1
    by_cases hie : i = e.on
    · have hlt := (Array.getElem?_eq_some_iff.1 this).1
      subst hie
      simp [hlt]
    · rw [Array.getElem?_setIfInBounds_ne hie]; exact this
  · obtain ⟨t, _, _, _, hd, _⟩ := (away haw).2 x.i (List.mem_map.2 ⟨x, hx, rfl⟩) ox h1
    rw [hs ox (fun cs b => Region.noSelect_spec hsel x.i ox cs b h1) hd]
    exact h7 w
theorem wpFg_sound {W0 : World} {tp pu : List Nat} (hsel : Region.noSelect ops = true) (hQ : ∀ c a d v w, Q (.panic c) (a.put d v) w → Q (.panic c) a w) (hQ' : ∀ c a d v w, Q (.panic c) a w → Q (.panic c) (a.put d v) w) :
    ∀ (m : Nat) (pl : List (Nat × Nat)) (fs : List FX) (bs : List Nat) (listed lF : Array Bool) (β : Nat → Option Nat) (a : Act) (E : World → Prop) (w : World), 2 * pl.length + nx fs β ≤ m → RelX fs listed lF β → FgOk P ops tl fs lF a →
      planG ops tl pu lF (fs.map (·.i)) pl = true → tailOk ops tl (listG lF pl) tp = true → Ext W0 w → (∀ w1 w2, Ext w1 w2 → E w1 → E w2) → E w →
      (∀ x ∈ fs, ∀ b, β x.i = some b → w.heap[b]? = some x.ob ∧ W0.heap.size ≤ b ∧ b ∉ bs) → (∀ x ∈ fs, ∀ y ∈ fs, ∀ b, β x.i = some b → β y.i = some b → x.i = y.i) → (∀ b ∈ bs, b < w.heap.size) → (∀ j, (∃ b, β j = some b) → lF[j]? = some true) →
      wpFg P ops Q W0 tp pl fs bs a E → wpAnyU P ops Q (Ext W0) tl pu (cost pl + nx fs β + tp.length) listed (putX fs β a) w := by
  intro m
  induction m with
  | zero =>
    intro pl fs bs listed lF β a E w hm hR hok hpl htp hX hst hE hbl hinj hbs hβ h
    obtain rfl : pl = [] := List.eq_nil_of_length_eq_zero (by omega)
    obtain rfl : fs = [] := by simpa [planG] using hpl
    have hl : listed = lF := Array.ext_getElem? fun j => hR.main j (by simp)
    subst hl
    rw [show cost [] + nx [] β + tp.length = tp.length by simp [cost, nx]]
    exact wpTl_sound tp _ _ _ htp (h w hX hE)
  | succ m ih =>
    intro pl fs bs listed lF β a E w hm hR hok hpl htp hX hst hE hbl hinj hbs hβ h
    have hal : ∀ x ∈ fs, β x.i = none → ∀ f, cost pl + nx fs β + tp.length = f + 1 → wpOp P ops Q x.i (fun a' w' => (tl.contains x.i = false → (pu.contains x.i = true → Ext W0 w) → Ext W0 w') ∧ wpAnyU P ops Q (Ext W0) tl pu f (listed.setIfInBounds x.i true) a' w') (putX fs β a) w := by
      intro x hx hb f hf
      obtain ⟨o, ho, hg, hd, _, _, hl, hrun⟩ := hok.fl x hx
      unfold wpOp
      simp only [ho]
      rw [if_pos (by simp [Region.wanted, hg])]
      refine .inl ?_
      unfold Oper.wp
      rw [exec_putX (fun cs b => Region.noSelect_spec hsel x.i o cs b ho) hl, hrun w]
      have hnp := nx_set (b := w.heap.size) hx hok.n1 hb
      have hXa : Ext w (w.alloc x.ob) := (Ext.refl w).alloc _
      have hlt : ∀ u ∈ fs, ∀ b, β u.i = some b → b < w.heap.size := fun u hu b hub => by
        obtain ⟨h1, _⟩ := hbl u hu b hub
        rcases Nat.lt_or_ge b w.heap.size with hl | hl
        · exact hl
        · rw [Array.getElem?_eq_none hl] at h1; cases h1
      have key := ih pl fs bs (listed.setIfInBounds x.i true) lF (setB β x.i w.heap.size) a E (w.alloc x.ob) (by omega) (hR.float hx _) hok hpl htp (hX.trans hXa) hst (hst _ _ hXa hE) ?_ ?_ (fun b hb' => by have := hbs b hb'; have := hXa.size; omega) ?_ h
      · rw [putX_set hx hok.n1 hok.n2 hb, show cost pl + nx fs (setB β x.i w.heap.size) + tp.length = f by omega] at key
        simp only [Oper.upon, hd]
        exact ⟨fun _ _ => hX.trans hXa, key⟩
      · intro y hy b hyb
        by_cases hxy : y.i = x.i
        · have hyx : y = x := nodup_injX hok.n1 hy hx hxy
          subst hyx
          simp only [setB, if_true, Option.some.injEq] at hyb
          subst hyb
          exact ⟨heap_alloc_new _ _, hX.size, fun hin => by have := hbs _ hin; omega⟩
        · simp only [setB, hxy, if_false] at hyb
          obtain ⟨h1, h2, h3⟩ := hbl y hy b hyb
          exact ⟨by rw [hXa.block (hlt y hy b hyb)]; exact h1, h2, h3⟩
      · intro y hy z hz b hyb hzb
        unfold setB at hyb hzb
        split at hyb
        · rename_i e1
          split at hzb
          · rename_i e2; rw [e1, e2]
          · have := hlt z hz b hzb
            simp only [Option.some.injEq] at hyb
            omega
        · split at hzb
          · have := hlt y hy b hyb
            simp only [Option.some.injEq] at hzb
            omega
          · exact hinj y hy z hz b hyb hzb
      · rintro j ⟨b, hj⟩
        unfold setB at hj
        split at hj
        · rename_i e; subst e; exact (hR.done x hx).2
        · exact hβ j ⟨b, hj⟩
    have hfr : ∀ x ∈ fs, β x.i = none → x.i ∈ Region.ready .any ops listed := by
      intro x hx hb
      obtain ⟨o, ho, _, _, _, ha, _⟩ := hok.fl x hx
      refine mem_ready.2 ⟨?_, o, ho, fun e he hbi => ?_⟩
      · rw [getD_of (hR.done x hx).1, hb]; rfl
      · obtain ⟨h1, h2⟩ := ha e he hbi
        rw [getD_same (hR.main _ h2), getD_of h1]
    have hfl : ∀ x ∈ fs, x.i ∈ Region.ready .any ops listed → β x.i = none := by
      intro x hx hr
      have h0 := (mem_ready.1 hr).1
      rw [getD_of (hR.done x hx).1] at h0
      cases hb : β x.i with
      | none => rfl
      | some b => rw [hb] at h0; cases h0
    have hto : ∀ j, j ∉ fs.map (·.i) → j ∈ Region.ready .any ops listed → j ∈ Region.ready .any ops lF := by
      intro j hj hr
      obtain ⟨h0, o, ho, ha⟩ := mem_ready.1 hr
      refine mem_ready.2 ⟨by rw [← getD_same (hR.main j hj)]; exact h0, o, ho, fun e he hb => ?_⟩
      have h1 := ha e he hb
      by_cases hin : e.on ∈ fs.map (·.i)
      · obtain ⟨x, hx, hxe⟩ := List.mem_map.1 hin
        rw [← hxe, getD_of (hR.done x hx).2]
      · rw [← getD_same (hR.main _ hin)]; exact h1
    have hfrom : ∀ j oj, ops[j]? = some oj → j ∉ fs.map (·.i) → (∀ e ∈ oj.after, Region.binds .any e = true → e.on ∉ fs.map (·.i)) → j ∈ Region.ready .any ops lF → j ∈ Region.ready .any ops listed := by
      intro j oj hoj hj hno hr
      obtain ⟨h0, o, ho, ha⟩ := mem_ready.1 hr
      obtain rfl : oj = o := by rw [hoj] at ho; exact Option.some.inj ho
      refine mem_ready.2 ⟨by rw [getD_same (hR.main j hj)]; exact h0, oj, hoj, fun e he hb => ?_⟩
      rw [getD_same (hR.main _ (hno e he hb))]
      exact ha e he hb
    have hβ' : ∀ {i : Nat}, ∀ j, (∃ b, β j = some b) → (lF.setIfInBounds i true)[j]? = some true := fun {i} j hj => by
      have h1 := hβ j hj
      by_cases e : i = j
      · subst e
        have := (Array.getElem?_eq_some_iff.1 h1).1
        simp [this]
      · rw [Array.getElem?_setIfInBounds_ne e]; exact h1
    match pl, hm, hpl, htp, h, hal with
    | [], hm, hpl, htp, h, hal =>
      obtain rfl : fs = [] := by simpa [planG] using hpl
      have hl : listed = lF := Array.ext_getElem? fun j => hR.main j (by simp)
      subst hl
      rw [show cost [] + nx [] β + tp.length = tp.length by simp [cost, nx]]
      exact wpTl_sound tp _ _ _ htp (h w hX hE)
    | (i, 0) :: rest, hm, hpl, htp, h, hal =>
      obtain ⟨o, v, hi, hy, h⟩ := h
      simp only [planG, hi, Bool.and_eq_true, Bool.not_eq_true'] at hpl
      obtain ⟨⟨⟨⟨⟨⟨h1, h2⟩, h3⟩, h3'⟩, h4⟩, haw⟩, h5⟩ := hpl
      have hiF : i ∉ fs.map (·.i) := by simpa using h3'
      have hA := away haw
      have hx2 : ∀ x ∈ fs, x.t ∉ o.looksAt ops ∧ o.dst ≠ some x.t ∧ ∀ ox, ops[x.i]? = some ox → o.apart ops ox = true := fun x hx => by
        obtain ⟨ox, g1, _, g3, _⟩ := hok.fl x hx
        obtain ⟨t, e1, e2, e3, _, e5⟩ := hA.2 x.i (List.mem_map.2 ⟨x, hx, rfl⟩) ox g1
        rw [g3] at e1
        obtain rfl := Option.some.inj e1
        exact ⟨e2, e3, fun ox' h' => by rw [g1] at h'; obtain rfl := Option.some.inj h'; exact e5⟩
      have key := ih rest fs bs (listed.setIfInBounds i true) (lF.setIfInBounds i true) β (a.put o.dst v) E w (by simp only [List.length_cons] at hm; omega) (hR.step hiF) (hok.step hsel haw sameFor_put) h5 htp hX hst hE hbl hinj hbs hβ' h
      rw [putX_put fun x hx => (hx2 x hx).2.1] at key
      rw [show cost ((i, 0) :: rest) + nx fs β + tp.length = (cost rest + nx fs β + tp.length) + 1 by rw [cost_ne (by decide)]; omega]
      refine wpAnyU_first hi (Region.noSelect_spec hsel) (fun c a w => hQ c a _ _ w) _ _ _ _ ?_ ?_ (hfrom i o hi hiF hA.1 (by simpa using h2)) (yields_putX (Region.noSelect_spec hsel i o · · hi) hy fun x hx => (hx2 x hx).1) hX key
      · intro j oj hj hji hun hno
        by_cases hin : j ∈ fs.map (·.i)
        · obtain ⟨x, hx, rfl⟩ := List.mem_map.1 hin
          exact (hx2 x hx).2.2 oj hj
        · exact Region.free_spec hi h1 j oj hj hji (by rw [← getD_same (hR.main j hin)]; exact hun) hno
      · intro j oj hj htj hun
        have hjF : j ∉ fs.map (·.i) := fun hin => by
          obtain ⟨x, hx, rfl⟩ := List.mem_map.1 hin
          obtain ⟨_, _, _, _, ht, _⟩ := hok.fl x hx
          rw [ht] at htj; cases htj
        have h6 := List.all_eq_true.1 h4 j (by simpa using htj)
        rw [getD_same (hR.main j hjF)] at hun
        rw [hj] at h6
        simp only [hun, Bool.false_or] at h6
        obtain ⟨e, he, hb⟩ := Array.any_eq_true'.1 h6
        simp only [Bool.and_eq_true] at hb
        exact ⟨e, he, hb.1, depX_of hR _ _ hb.2⟩
    | (i, 2) :: rest, hm, hpl, htp, h, hal =>
      obtain ⟨o, v, hi, hy, h⟩ := h
      simp only [planG, hi, Bool.and_eq_true, Bool.not_eq_true'] at hpl
      obtain ⟨⟨⟨⟨⟨⟨h1, h2⟩, h3⟩, h3'⟩, h4⟩, haw⟩, h5⟩ := hpl
      have hiF : i ∉ fs.map (·.i) := by simpa using h3'
      have hA := away haw
      have hx2 : ∀ x ∈ fs, x.t ∉ o.looksAt ops ∧ o.dst ≠ some x.t ∧ ∀ ox, ops[x.i]? = some ox → o.apart ops ox = true := fun x hx => by
        obtain ⟨ox, g1, _, g3, _⟩ := hok.fl x hx
        obtain ⟨t, e1, e2, e3, _, e5⟩ := hA.2 x.i (List.mem_map.2 ⟨x, hx, rfl⟩) ox g1
        rw [g3] at e1
        obtain rfl := Option.some.inj e1
        exact ⟨e2, e3, fun ox' h' => by rw [g1] at h'; obtain rfl := Option.some.inj h'; exact e5⟩
      have key := ih rest fs bs (listed.setIfInBounds i true) (lF.setIfInBounds i true) β (a.put o.dst v) E w (by simp only [List.length_cons] at hm; omega) (hR.step hiF) (hok.step hsel haw sameFor_put) h5 htp hX hst hE hbl hinj hbs hβ' h
      rw [putX_put fun x hx => (hx2 x hx).2.1] at key
      rw [show cost ((i, 2) :: rest) + nx fs β + tp.length = (cost rest + nx fs β + tp.length) + 1 by rw [cost_ne (by decide)]; omega]
      refine wpAnyU_pure hi (Region.noSelect_spec hsel) h4 (fun c a w => hQ c a _ _ w) _ _ _ _ ?_ (hfrom i o hi hiF hA.1 (by simpa using h2)) (yields_putX (Region.noSelect_spec hsel i o · · hi) hy fun x hx => (hx2 x hx).1) key
      intro j oj hj hji hun hno
      by_cases hin : j ∈ fs.map (·.i)
      · obtain ⟨x, hx, rfl⟩ := List.mem_map.1 hin
        exact (hx2 x hx).2.2 oj hj
      · exact Region.free_spec hi h1 j oj hj hji (by rw [← getD_same (hR.main j hin)]; exact hun) hno
    | (i, 3) :: rest, hm, hpl, htp, h, hal =>
      obtain ⟨x, fs', hfs, h9⟩ := h
      subst hfs
      simp only [planG, List.map_cons, List.head?_cons, List.tail_cons, Bool.and_eq_true, beq_iff_eq, Option.some.injEq, List.all_eq_true] at hpl
      obtain ⟨⟨h1, h2⟩, h3⟩ := hpl
      cases hb : β x.i with
      | some b =>
        obtain ⟨g1, g2, g3⟩ := hbl x (by simp) b hb
        obtain ⟨E', hst', hE', hk⟩ := h9 b g2 g3 hst
        have hn := hok.n1
        have hn2 := hok.n2
        simp only [List.map_cons, List.nodup_cons, List.mem_map, not_exists, not_and] at hn hn2
        have hlt : b < w.heap.size := by
          rcases Nat.lt_or_ge b w.heap.size with hl | hl
          · exact hl
          · rw [Array.getElem?_eq_none hl] at g1; cases g1
        have hok' : FgOk P ops tl fs' lF (a.put (some x.t) (x.yv b)) := by
          refine ⟨fun y hy => ?_, hn.2, hn2.2⟩
          obtain ⟨oy, k1, k2, k3, k4, k5, k6, k7⟩ := hok.fl y (by simp [hy])
          refine ⟨oy, k1, k2, k3, k4, fun e he hb' => ⟨(k5 e he hb').1, fun hin => (k5 e he hb').2 (by simp only [List.map_cons, List.mem_cons]; exact .inr hin)⟩, fun z hz => k6 z (by simp [hz]), fun w => ?_⟩
          rw [execOp_put oy (fun cs b => Region.noSelect_spec hsel y.i oy cs b k1) _ _ _ (fun e he => by obtain rfl := Option.some.inj he; exact k6 x (by simp))]
          exact k7 w
        have key := ih rest fs' (b :: bs) listed lF β (a.put (some x.t) (x.yv b)) E' w (by
            have : nx fs' β ≤ nx (x :: fs') β := by unfold nx; rw [List.countP_cons]; omega
            simp only [List.length_cons] at hm; omega) (hR.wait (by rw [hb]; rfl)) hok' h3 htp hX hst' (hE' w hX hE g1)
          (fun y hy b' hyb => by
            obtain ⟨k1, k2, k3⟩ := hbl y (by simp [hy]) b' hyb
            refine ⟨k1, k2, fun hin => ?_⟩
            rcases List.mem_cons.1 hin with rfl | hin
            · exact hn.1 y hy (hinj y (by simp [hy]) x (by simp) _ hyb hb)
            · exact k3 hin)
          (fun y hy z hz b' hyb hzb => hinj y (by simp [hy]) z (by simp [hz]) b' hyb hzb)
          (fun b' hb' => by
            rcases List.mem_cons.1 hb' with rfl | hb'
            · exact hlt
            · exact hbs b' hb') hβ hk
        rw [putX_put fun y hy e => hn2.1 y hy (Option.some.inj e).symm] at key
        rw [show cost ((i, 3) :: rest) + nx (x :: fs') β + tp.length = cost rest + nx fs' β + tp.length by rw [cost_eq]; unfold nx; rw [List.countP_cons, hb]; rfl]
        unfold putX
        rw [hb]
        exact key
      | none =>
        have hnp : 1 ≤ nx (x :: fs') β := by unfold nx; rw [List.countP_cons, hb]; simp
        obtain ⟨f, hf⟩ : ∃ f, cost ((i, 3) :: rest) + nx (x :: fs') β + tp.length = f + 1 := ⟨cost ((i, 3) :: rest) + nx (x :: fs') β + tp.length - 1, by omega⟩
        rw [hf]
        refine ⟨fun h0 => (by have := hfr x (by simp) hb; rw [h0] at this; cases this), fun j hj => ?_⟩
        by_cases hin : j ∈ (x :: fs').map (·.i)
        · obtain ⟨y, hy, rfl⟩ := List.mem_map.1 hin
          exact hal y hy (hfl y hy hj) f hf
        · exfalso
          have h4 := h2 j (hto j hin hj)
          obtain ⟨_, oj, hoj, ha⟩ := mem_ready.1 hj
          rw [hoj] at h4
          obtain ⟨e, he, hb'⟩ := Array.any_eq_true'.1 h4
          simp only [Bool.and_eq_true, beq_iff_eq] at hb'
          have h5 := ha e he hb'.1
          rw [hb'.2, ← h1, getD_of (hR.done x (by simp)).1, hb] at h5
          cases h5
    | (i, 4) :: rest, hm, hpl, htp, h, hal =>
      obtain ⟨x, o, rfl, hi, hd, hrun, h⟩ := h
      simp only [planG, hi, Bool.and_eq_true, Bool.not_eq_true', beq_iff_eq, Option.isNone_iff_eq_none, Array.all_eq_true_iff_forall_mem] at hpl
      obtain ⟨⟨⟨⟨h1, h2⟩, h3⟩, ⟨⟨h4, h5⟩, hself⟩, haw⟩, h6⟩ := hpl
      rw [hd] at hself
      have hself' : x.t ∉ o.looksAt ops := by simpa using hself
      have hiF : x.i ∉ fs.map (·.i) := by simpa using h3
      have hA := away haw
      have hbn : β x.i = none := by
        cases hb : β x.i with
        | none => rfl
        | some b => have := hβ x.i ⟨b, hb⟩; rw [h1] at this; cases this
      have hx2 : ∀ y ∈ fs, y.t ∉ o.looksAt ops ∧ y.t ≠ x.t ∧ ∀ oy, ops[y.i]? = some oy → x.t ∉ oy.looksAt ops := fun y hy => by
        obtain ⟨oy, g1, _, g3, _⟩ := hok.fl y hy
        obtain ⟨t, e1, e2, e3, e4, _⟩ := hA.2 y.i (List.mem_map.2 ⟨y, hy, rfl⟩) oy g1
        rw [g3] at e1
        obtain rfl := Option.some.inj e1
        exact ⟨e2, fun e => e3 (by rw [hd, e]), fun oy' h' => by rw [g1] at h'; obtain rfl := Option.some.inj h'; exact e4 _ hd⟩
      have hnx : nx (x :: fs) β = nx fs β + 1 := by unfold nx; rw [List.countP_cons, hbn]; simp
      have hokL : FgOk P ops tl (x :: fs) (lF.setIfInBounds x.i true) a := by
        have hup : ∀ k : Nat, lF[k]? = some true → (lF.setIfInBounds x.i true)[k]? = some true := fun k hk => by
          have hne : x.i ≠ k := fun e => by rw [e, hk] at h1; cases h1
          rw [Array.getElem?_setIfInBounds_ne hne]; exact hk
        have hno : ∀ k : Nat, lF[k]? = some true → k ∉ fs.map (·.i) → k ∉ (x :: fs).map (·.i) := fun k hk hn hin => by
          simp only [List.map_cons, List.mem_cons] at hin
          rcases hin with rfl | hin
          · rw [hk] at h1; cases h1
          · exact hn hin
        refine ⟨fun y hy => ?_, ?_, ?_⟩
        · rcases List.mem_cons.1 hy with rfl | hy
          · refine ⟨o, hi, h4, hd, h2, fun e he hb => ?_, fun z hz => ?_, hrun⟩
            · have h7 := h5 e he
              rw [hb] at h7
              simp only [Bool.not_true, Bool.false_or] at h7
              have h8 : lF[e.on]? = some true := by
                cases hg : lF[e.on]? with
                | none => simp [hg] at h7
                | some c => simp [hg] at h7; rw [h7]
              exact ⟨hup _ h8, hno _ h8 (hA.1 e he hb)⟩
            · rcases List.mem_cons.1 hz with rfl | hz
              · exact hself'
              · exact (hx2 z hz).1
          · rename_i hy9
            have hy8 : y ∈ fs := by assumption
            obtain ⟨oy, k1, k2, k3, k4, k5, k6, k7⟩ := hok.fl y hy8
            have hy7 := (hx2 y hy8).2.2 oy k1
            refine ⟨oy, k1, k2, k3, k4, fun e he hb => ⟨hup _ (k5 e he hb).1, hno _ (k5 e he hb).1 (k5 e he hb).2⟩, fun z hz => ?_, k7⟩
            rcases List.mem_cons.1 hz with rfl | hz
            · exact hy7
            · exact k6 z hz
        · simp only [List.map_cons, List.nodup_cons]; exact ⟨hiF, hok.n1⟩
        · simp only [List.map_cons, List.nodup_cons, List.mem_map, not_exists, not_and]; exact ⟨fun y hy e => (hx2 y hy).2.1 e, hok.n2⟩
      have key := ih rest (x :: fs) bs listed (lF.setIfInBounds x.i true) β a E w (by simp only [List.length_cons] at hm; omega) (hR.launch hiF h1 hbn) hokL h6 htp hX hst hE
        (fun y hy b hyb => by
          rcases List.mem_cons.1 hy with rfl | hy
          · rw [hbn] at hyb; cases hyb
          · exact hbl y hy b hyb)
        (fun y hy z hz b hyb hzb => by
          rcases List.mem_cons.1 hy with rfl | hy
          · rw [hbn] at hyb; cases hyb
          · rcases List.mem_cons.1 hz with rfl | hz
            · rw [hbn] at hzb; cases hzb
            · exact hinj y hy z hz b hyb hzb) hbs hβ' h
      rw [show cost ((x.i, 4) :: rest) + nx fs β + tp.length = cost rest + nx (x :: fs) β + tp.length by rw [hnx, cost_ne (by decide)]; omega]
      unfold putX at key
      rw [hbn] at key
      exact key
    | (i, 1) :: rest, hm, hpl, htp, h, hal | (i, k + 5) :: rest, hm, hpl, htp, h, hal =>
      simp only [planG, Bool.and_eq_true, Bool.not_eq_true', beq_iff_eq] at hpl
      obtain ⟨⟨⟨⟨⟨h1, h2⟩, h3⟩, h4⟩, haw⟩, h5⟩ := hpl
      have hiF : i ∉ fs.map (·.i) := by simpa using h3
      have hir : i ∈ Region.ready .any ops lF := by rw [h1]; simp
      obtain ⟨_, o, hi, _⟩ := mem_ready.1 hir
      rw [hi] at haw
      have hA := away haw
      have hx2 : ∀ x ∈ fs, x.t ∉ o.looksAt ops ∧ o.dst ≠ some x.t := fun x hx => by
        obtain ⟨ox, g1, _, g3, _⟩ := hok.fl x hx
        obtain ⟨t, e1, e2, e3, _, e5⟩ := hA.2 x.i (List.mem_map.2 ⟨x, hx, rfl⟩) ox g1
        rw [g3] at e1
        obtain rfl := Option.some.inj e1
        exact ⟨e2, e3⟩
      obtain ⟨f, hf⟩ : ∃ f, cost rest + nx fs β + tp.length = f := ⟨_, rfl⟩
      have hf1 : ∀ k, k ≠ 3 → cost ((i, k) :: rest) + nx fs β + tp.length = f + 1 := fun k hk => by rw [← hf, cost_ne hk]; omega
      rw [hf1 _ (by omega)]
      refine ⟨fun h0 => (by have := hfrom i o hi hiF hA.1 hir; rw [h0] at this; cases this), fun j hj => ?_⟩
      by_cases hin : j ∈ fs.map (·.i)
      · obtain ⟨x, hx, rfl⟩ := List.mem_map.1 hin
        exact hal x hx (hfl x hx hj) f (hf1 _ (by omega))
      · have hjr := hto j hin hj
        rw [h1] at hjr
        obtain rfl : j = i := by simpa using hjr
        refine wpOp_mono ?_ (wpOp_putX (β := β) hi (Region.noSelect_spec hsel j o · · hi) hQ' (wpOp_same hi (h w hX hE)) (fs := fs) hx2)
        rintro a' w' ⟨a'', rfl, hsm, hXw, E', hst', hE', hk⟩
        have key := ih rest fs bs (listed.setIfInBounds j true) (lF.setIfInBounds j true) β a'' E' w' (by simp only [List.length_cons] at hm; omega) (hR.step hiF) (hok.step hsel haw hsm) h5 htp (hX.trans hXw) hst' hE' ?_ hinj (fun b hb => by have := hbs b hb; have := hXw.size; omega) hβ' hk
        · rw [hf] at key
          exact ⟨fun _ _ => hX.trans hXw, key⟩
        · intro y hy b hyb
          obtain ⟨g1, g2, g3⟩ := hbl y hy b hyb
          have hlt : b < w.heap.size := by
            rcases Nat.lt_or_ge b w.heap.size with hl | hl
            · exact hl
            · rw [Array.getElem?_eq_none hl] at g1; cases g1
          exact ⟨by rw [hXw.block hlt]; exact g1, g2, g3⟩
/-- **The region, by a plan, with operations that may come up at any time.** -/
theorem wp_floatG {id : Nat} {a : Act} {w : World} (pl : List (Nat × Nat)) (tp tl pu : List Nat) (hm : P.follows .mixedOrders = true) (hsel : Region.noSelect ops = true)
    (hok : (planG ops tl pu (Array.replicate ops.size false) [] pl && tailOk ops tl (listG (Array.replicate ops.size false) pl) tp && cost pl + tp.length == ops.size) = true)
    (hQ : ∀ c a d v w, Q (.panic c) (a.put d v) w → Q (.panic c) a w) (hQ' : ∀ c a d v w, Q (.panic c) a w → Q (.panic c) (a.put d v) w)
    (h : wpFg P ops Q w.drew tp pl [] [] a (fun _ => True)) : (Code.region id ops true).wp P Q a w := by
  simp only [Bool.and_eq_true, beq_iff_eq] at hok
  obtain ⟨⟨h2, h3⟩, h4⟩ := hok
  refine wp_region_any hm (wpAny_of_U (S := Ext w.drew) (tl := tl) (pu := pu) _ _ _ _ ?_)
  have key := wpFg_sound (P := P) (Q := Q) (W0 := w.drew) (tp := tp) (pu := pu) (tl := tl) hsel hQ hQ' (2 * pl.length) pl [] [] (Array.replicate ops.size false) _ (fun _ => none) a (fun _ => True) w.drew (by simp [nx]) ⟨rfl, fun _ _ => rfl, fun x hx => (by cases hx)⟩
    ⟨fun x hx => (by cases hx), by simp, by simp⟩ h2 h3 (Ext.refl _) (fun _ _ _ _ => trivial) trivial (fun x hx => by cases hx) (fun x hx => by cases hx) (fun b hb => by cases hb) (fun j ⟨b, hb⟩ => by cases hb) h
  rw [show cost pl + nx [] (fun _ => none) + tp.length = ops.size by rw [← h4]; simp [nx]] at key
  exact key
variable {W0 : World} {fs : List FX} {bs tp : List Nat} {a : Act} {E : World → Prop} {i : Nat} {rest : List (Nat × Nat)} {o : Oper}
theorem wpFg_read {v : Value} (hi : ops.toList[i]? = some o) (hw : Region.wanted o (yielded ops a.tmps) = true) (h : ∀ w, Ext W0 w → (execOp a.eval o).run P w = .ok (.value v) w) (k : wpFg P ops Q W0 tp rest fs bs (a.put o.dst v) E) :
    wpFg P ops Q W0 tp ((i, 0) :: rest) fs bs a E := ⟨o, v, by simpa using hi, .inl ⟨hw, h⟩, k⟩
theorem wpFg_pure {v : Value} (hi : ops.toList[i]? = some o) (hw : Region.wanted o (yielded ops a.tmps) = true) (h : ∀ w, (execOp a.eval o).run P w = .ok (.value v) w) (k : wpFg P ops Q W0 tp rest fs bs (a.put o.dst v) E) :
    wpFg P ops Q W0 tp ((i, 2) :: rest) fs bs a E := ⟨o, v, by simpa using hi, .inl ⟨hw, fun w _ => h w⟩, k⟩
theorem wpFg_eff (hi : ops.toList[i]? = some o) (hw : Region.wanted o (yielded ops a.tmps) = true)
    (h : ∀ w, Ext W0 w → E w → ∀ K : Act → World → Prop, (∀ a' w' (E' : World → Prop), Ext w w' → (∀ w1 w2, Ext w1 w2 → E' w1 → E' w2) → E' w' → wpFg P ops Q W0 tp rest fs bs a' E' → K a' w') → o.wp P a w K Q) :
    wpFg P ops Q W0 tp ((i, 1) :: rest) fs bs a E := by
  have hi' : ops[i]? = some o := by simpa using hi
  intro w hX hE
  unfold wpOp
  simp only [hi', hw, if_true]
  exact .inl (h w hX hE _ fun a' w' E' h1 h2 h3 h4 => ⟨h1, E', h2, h3, h4⟩)
end
end Go.Proofs.YtlfbdodokldkhaaGreatDoor
namespace Go.Proofs.YtlfbdodokldkhaaGreatDoor
open Go.RowKit NM
set_option maxHeartbeats 4000000 in
theorem rvstack_any (A : Option Addr) (n cap : Nat) (xs : List Ar) (w : World) (h : ArgsIn w A n cap xs) (hn : 1 ≤ n) :
    Calls Tryz.prog 37 #[.slice A n cap, .bool true] w fun e w' => ResM w xs (stackN belowO xs) e w' := by
  obtain ⟨R0, C0, l0, b1, off1, n1, cap1, b, off, x0, ha, rfl, ⟨v0, v1, v2⟩, hn1, hc1, _, _, _, hbl, _, _, _, harr, _⟩ := h.first hn
  have hcap := h.cap
  have hsm := h.small
  have h0r : NA.right ⟨R0, C0, l0⟩ := (h.all _ (List.mem_of_getElem? ha)).right
  simp only [Nat.zero_mul, Nat.add_zero] at v0 v1 v2
  obtain ⟨a0, ys, rfl⟩ : ∃ a ys, xs = a :: ys := by
    cases xs with
    | nil => simp at ha
    | cons a ys => exact ⟨a, ys, rfl⟩
  obtain rfl : a0 = ⟨⟨R0, C0, l0⟩, some ⟨b1, off1, none⟩, n1, cap1⟩ := by simpa using ha
  have hlen : ys.length + 1 = n := by have := h.len; simpa using this
  obtain ⟨X, hX⟩ : ∃ X, stackN belowO (⟨⟨R0, C0, l0⟩, some ⟨b1, off1, none⟩, n1, cap1⟩ :: ys) = X := ⟨_, rfl⟩
  rw [hX]
  have HX := Lib.hid hX
  have H := Lib.hid h
  have HA := Lib.hid harr
  clear hX h ha harr
  go_enter Tryz.func37, Tryz.ntmps37
  go_wp2_with fail
  go_loopw [6] (fun i wr => ∃ (k : Nat) (Y : NA) (E : Option Addr) (me ce : Nat) (os : Array Obj) (d : Nat), k + 1 ≤ n ∧ i = .int .i64 ((k : Int) + 1) ∧ wr = more ((w.alloc (Obj.cells #[.int .i64 0, .int .i64 0, .slice none 0 0] 30)).alloc (Obj.cells #[.int .i64 (Y.R : Int), .int .i64 (Y.C : Int), .slice E me ce] 30)) os d ∧ Hid (ArrIn wr E me ce Y.l) ∧ Hid ((⟨Y, E, me, ce⟩ : Ar) = ⟨⟨R0, C0, l0⟩, some ⟨b1, off1, none⟩, n1, cap1⟩ ∨ SlV (w.heap.size + 2) wr E Y.l) ∧ Y.right ∧ Hid (stackO belowO Y ((ys.drop k).map Ar.x) = stackO belowO ⟨R0, C0, l0⟩ (ys.map Ar.x))) (fun i _ => n - (intOf i).toNat)
  case atStart =>
    exact ⟨0, ⟨R0, C0, l0⟩, some ⟨b1, off1, none⟩, n1, cap1, #[], _, by omega, rfl, (more_none _).symm, HA.out.ext (by with_reducible repeat (first | exact Ext.refl _ | apply Ext.drew | apply Ext.alloc | apply Ext.more_)), Or.inl rfl, h0r, (by show _ = _; rw [List.drop_zero])⟩
  case round =>
    obtain ⟨k, Y, E, me, ce, os, d, hk, rfl, rfl, HE, HB, hYr, HS⟩ := hrel
    have hEa := HE.out
    by_cases hlt : k + 1 < n
    · have hlt' : (k : Int) + 1 < (n : Int) := by omega
      obtain ⟨a, hak⟩ : ∃ a, ys[k]? = some a := ⟨_, List.getElem?_eq_getElem (by omega)⟩
      obtain ⟨b', off', hbo, ⟨u0, u1, u2⟩, hok⟩ := H.out.get (k := k + 1) (a := a) (by simpa using hak)
      simp only [Option.some.injEq, Addr.mk.injEq, and_true] at hbo
      obtain ⟨rfl, rfl⟩ := hbo
      have hdr : (ys.drop k).map Ar.x = a.x :: (ys.drop (k + 1)).map Ar.x := by rw [List.drop_eq_getElem_cons (by omega), List.map_cons]; congr 2; rw [List.getElem?_eq_getElem (by omega)] at hak; simpa using hak
      have HOK := Lib.hid hok.arr
      have hjb := fun W hA' hB' => refBeside_c Y a.x E a.A me ce a.n a.cap W hA' hB' hYr hok.right _ _ rfl rfl
      have hj := fun W hA' hB' x kk e1 e2 => refBelow_c Y a.x E a.A me ce a.n a.cap W hA' hB' hYr hok.right x kk e1 e2
      obtain ⟨Z, hZ⟩ : ∃ Z, orZ (belowO Y a.x) = Z := ⟨_, rfl⟩
      obtain ⟨kk, hkk⟩ : ∃ kk, (belowO Y a.x).isSome = kk := ⟨_, rfl⟩
      have hjs := fun W hA' hB' => hj W hA' hB' Z kk hZ hkk
      generalize orZ (besideO Y a.x) = Zb at hjb
      generalize (besideO Y a.x).isSome = kb at hjb
      have HK := Lib.hid (And.intro hZ hkk)
      clear hj hZ hkk hak
      go_upto_region 5 with fail
      refine wp_world fun U hU => ?_
      have hx : Ext w U := by rw [hU]; exact (by with_reducible repeat (first | exact Ext.refl _ | apply Ext.drew | apply Ext.alloc | apply Ext.more_))
      have c0 : U.cell? ⟨w.heap.size + 1, 0, none⟩ = some (.int .i64 Y.R) := by rw [hU]; go_simp
      have c1 : U.cell? ⟨w.heap.size + 1, 1, none⟩ = some (.int .i64 Y.C) := by rw [hU]; go_simp
      have c2 : U.cell? ⟨w.heap.size + 1, 2, none⟩ = some (.slice E me ce) := by rw [hU]; go_simp
      have lc := lt_of_cell c0
      have lu : b < U.heap.size := Nat.lt_of_lt_of_le hbl hx.size
      have hU2 : w.heap.size + 2 ≤ U.heap.size := by rw [hU]; simp
      replace u0 := hx.cell_some u0
      replace u1 := hx.cell_some u1
      replace u2 := hx.cell_some u2
      have hEu : ArrIn U E me ce Y.l := by rw [hU]; exact hEa
      have HUo := Lib.hid (HOK.out.ext hx)
      have HU := Lib.hid hU
      clear hU
      refine wp_float [(9, 7, (.cells #[.int .i64 0, .int .i64 0, .slice none 0 0] 30))] [(0, 0), (1, 0), (2, 0), (3, 0), (4, 0), (5, 1), (6, 0), (7, 0), (8, 2)] [10, 11] [10, 11] [8] (by kernel_rfl) (by kernel_rfl) (by kernel_rfl) (fun _ _ d _ _ h => by cases d <;> exact h) (fun _ _ d _ _ h => by cases d <;> exact h) (fun x hx o ho a w => by (obtain rfl := List.mem_singleton.1 hx); (obtain rfl := Option.some.inj ho); (first | rfl | (simp [go_sem, ptrB]; done) | (go_simp; rfl))) ?_
      iterate 5 ((refine wpFp_read (v := ?_) rfl ?_ (fun w1 h1 => ?_) ?_; rotate_left 1; rfl; (obtain ⟨os1, d1, rfl⟩ := h1.more; go_simp; first | done | rfl)); try simp only [Act.put, zqA, zqB, zqC])
      (refine wpFp_eff rfl ?_ (fun wf hXf hE K hK => ?_); rfl; obtain ⟨osf, df, rfl⟩ := hXf.more; go_simp; refine (hjb _ (hEu.ext (by repeat (first | (with_reducible (first | exact Ext.refl _ | exact ext_app _ _ _ _ _ | exact ext_app2 _ _ _ _ _ _)) | ((with_reducible refine ext_suffix ⟨_, ?_⟩); (try simp only [Array.append_assoc]); rfl) | (with_reducible (first | apply Ext.drew | apply Ext.alloc | apply Ext.more_))))) (HUo.out.ext (by repeat (first | (with_reducible (first | exact Ext.refl _ | exact ext_app _ _ _ _ _ | exact ext_app2 _ _ _ _ _ _)) | ((with_reducible refine ext_suffix ⟨_, ?_⟩); (try simp only [Array.append_assoc]); rfl) | (with_reducible (first | apply Ext.drew | apply Ext.alloc | apply Ext.more_)))))).mono ?_; rintro e w' ⟨Db, mb, cb, rfl, _, _, hb⟩; refine hK _ _ (fun W => True) (by (try simp only [more_drew, more_more, Array.append_assoc]); exact hb) (fun _ _ hx h => trivial) trivial ?_)
      try simp only [Act.put, zqA, zqB, zqC]
      iterate 2 ((refine wpFp_read (v := ?_) rfl ?_ (fun w1 h1 => ?_) ?_; rotate_left 1; rfl; (obtain ⟨os1, d1, rfl⟩ := h1.more; go_simp; first | done | rfl)); try simp only [Act.put, zqA, zqB, zqC])
      (refine wpFp_pure (v := ?_) rfl ?_ (fun w1 => ?_) ?_; rotate_left 1; rfl; (go_simp; first | done | rfl))
      try simp only [Act.put, zqA, zqB, zqC]
      refine wpFp_one fun osa da osb db hE => ?_
      try simp only [Act.put, zqA, zqB, zqC]
      iterate 2 ((refine wpTl_op rfl ?_ (fun K hK => ?_); rfl; go_simp; refine hK _ _ ?_); try simp only [Act.put, zqA, zqB, zqC])
      refine wpTl_nil ?_
      go_upto_region 7 with fail
      have lc2 : w.heap.size < U.heap.size + osa.size := by omega
      refine wp_floatG [(0, 0), (1, 0), (2, 0), (3, 0), (4, 0), (5, 1), (6, 0), (7, 0), (8, 2)] [9, 10] [9, 10] [8] (by kernel_rfl) (by kernel_rfl) (by kernel_rfl) (fun _ _ d _ _ h => by cases d <;> exact h) (fun _ _ d _ _ h => by cases d <;> exact h) ?_
      iterate 5 ((refine wpFg_read (v := ?_) rfl ?_ (fun w1 h1 => ?_) ?_; rotate_left 1; rfl; (obtain ⟨os1, d1, rfl⟩ := h1.more; go_simp; first | done | rfl)); try simp only [Act.put, zqA, zqB, zqC])
      (refine wpFg_eff rfl ?_ (fun wf hXf hE K hK => ?_); rfl; obtain ⟨osf, df, rfl⟩ := hXf.more; go_simp; refine (hjs _ (hEu.ext (by repeat (first | (with_reducible (first | exact Ext.refl _ | exact ext_app _ _ _ _ _ | exact ext_app2 _ _ _ _ _ _)) | ((with_reducible refine ext_suffix ⟨_, ?_⟩); (try simp only [Array.append_assoc]); rfl) | (with_reducible (first | apply Ext.drew | apply Ext.alloc | apply Ext.more_))))) (HUo.out.ext (by repeat (first | (with_reducible (first | exact Ext.refl _ | exact ext_app _ _ _ _ _ | exact ext_app2 _ _ _ _ _ _)) | ((with_reducible refine ext_suffix ⟨_, ?_⟩); (try simp only [Array.append_assoc]); rfl) | (with_reducible (first | apply Ext.drew | apply Ext.alloc | apply Ext.more_)))))).mono ?_; rintro e w' ⟨D6, m6, c6, rfl, hA6, hS6, hb⟩; refine hK _ _ (fun W => ArrIn W D6 m6 c6 Z.l ∧ SlV (U.heap.size + osa.size + 1) W D6 Z.l) (by (try simp only [more_drew, more_more, Array.append_assoc]); exact hb) (fun _ _ hx h => ⟨h.1.ext hx, h.2.ext hx⟩) ⟨hA6, hS6.mono (by first | (simp; done) | (simp; omega) | omega)⟩ ?_)
      try simp only [Act.put, zqA, zqB, zqC]
      iterate 2 ((refine wpFg_read (v := ?_) rfl ?_ (fun w1 h1 => ?_) ?_; rotate_left 1; rfl; (obtain ⟨os1, d1, rfl⟩ := h1.more; go_simp; first | done | rfl)); try simp only [Act.put, zqA, zqB, zqC])
      (refine wpFg_pure (v := ?_) rfl ?_ (fun w1 => ?_) ?_; rotate_left 1; rfl; (go_simp; first | done | rfl))
      try simp only [Act.put, zqA, zqB, zqC]
      (unfold wpFg; intro wz hXz hE; obtain ⟨osz, dz, rfl⟩ := hXz.more)
      iterate 2 ((refine wpTl_op rfl ?_ (fun K hK => ?_); rfl; go_simp; refine hK _ _ ?_); try simp only [Act.put, zqA, zqB, zqC])
      refine wpTl_nil ?_
      simp only [more_drew, drew_more, more_more] at hE
      have hSl := rd_var (.int .i64 Z.R) (.int .i64 Z.C) (.slice D6 m6 c6) (hE.2.mono (base' := w.heap.size + 2) (by omega))
      have hlen6 := hE.1.len
      have hcap6 := hE.1.cap
      have hsm6 := hE.1.small
      have hok6 := hE.1.ok
      have hrow := gvar_at U (.cells #[.int .i64 (Z.R : Int), .int .i64 (Z.C : Int), .slice D6 m6 c6] 30) osa (osb ++ osz) da dz
      have hflat := flat4 ((w.alloc (Obj.cells #[.int .i64 0, .int .i64 0, .slice none 0 0] 30)).alloc (Obj.cells #[.int .i64 (Y.R : Int), .int .i64 (Y.C : Int), .slice E me ce] 30)) os osa (osb ++ osz) d da dz (.cells #[.int .i64 (Z.R : Int), .int .i64 (Z.C : Int), .slice D6 m6 c6] 30)
      rw [← HU.out] at hflat
      rw [hflat] at hSl hrow ⊢
      clear hE hflat c0 c1 c2 lc lu u0 u1 u2 hEu HUo
      generalize (os ++ osa).push (.cells #[.int .i64 (Z.R : Int), .int .i64 (Z.C : Int), .slice D6 m6 c6] 30) ++ (osb ++ osz) = os9 at *
      generalize U.heap.size + osa.size = pz at *
      clear HU hU2 hx
      have n0 := cell_of_row _ _ 0 _ _ _ hrow
      have n1 := cell_of_row _ _ 1 _ _ _ hrow
      have n2 := cell_of_row _ _ 2 _ _ _ hrow
      have ln := lt_of_cell n0
      clear hrow
      cases kk with
      | false =>
        have hJa : belowO Y a.x = none := by have := HK.out.2; cases hb : belowO Y a.x with
          | none => rfl
          | some q => rw [hb] at this; cases this
        obtain rfl : aloneO 5 = X := by
          rw [← HX.out]
          show aloneO 5 = (stackO belowO ⟨R0, C0, l0⟩ (ys.map Ar.x)).getD (aloneO 5)
          rw [← HS.out, hdr, stackO_none hJa]
          try rfl
        clear HK hJa HS hdr HX hSl
        go_wp2_with (go_at_call 20; (with_reducible refine (rbad_res 5 (by omega) _).mono ?_); rintro e w' ⟨D, m, cc, rfl, hD, hb⟩; obtain ⟨os5, d5, rfl⟩ := hb.more; clear hb; have hDr := hD.rd)
        exact bodyPost_ret (v := AV (aloneO 5).R (aloneO 5).C (.slice D m cc)) (by simp [results, Tryz.results37, go_sem]) rfl ⟨D, m, cc, rfl, ArrN.arr (base := w.heap.size) ⟨(by (try simp only [more_alloc, more_more] at hDr); (try simp only [more_alloc, more_more]); (try simp only [drew_more] at hDr); (try simp only [more_drew] at hDr); (try simp only [Array.append_assoc] at hDr); exact Rd.swap hDr (by first | (simp; done) | (simp; omega) | omega) (by first | (simp; done) | (simp; omega) | omega) (by first | (simp; done) | (simp; omega) | omega)), hD.len, hD.cap, hD.small, hD.ok⟩, by with_reducible repeat (first | exact Ext.refl _ | apply Ext.drew | apply Ext.alloc | apply Ext.more_), Or.inr (by (try simp only [more_alloc, more_more] at hDr); (try simp only [more_alloc, more_more]); (try simp only [drew_more] at hDr); (try simp only [more_drew] at hDr); (try simp only [Array.append_assoc] at hDr); exact Rd.swap hDr (by first | (simp; done) | (simp; omega) | omega) (by first | (simp; done) | (simp; omega) | omega) (by first | (simp; done) | (simp; omega) | omega))⟩
      | true =>
        have hJa : belowO Y a.x = some Z := by
          have h1 := HK.out.1
          have h2 := HK.out.2
          cases hb : belowO Y a.x with
          | none => rw [hb] at h2; cases h2
          | some q => rw [hb] at h1; exact congrArg some h1
        have hZr := below_right hYr hok.right hJa
        have HS2 : Hid (stackO belowO Z ((ys.drop (k + 1)).map Ar.x) = stackO belowO ⟨R0, C0, l0⟩ (ys.map Ar.x)) := by
          show _ = _
          rw [← HS.out, hdr, stackO_some hJa]
        clear HK hJa HS hdr
        go_wp2_with fail
        refine ⟨⟨k + 1, Z, D6, m6, c6, os9, _, by omega, by go_num, rfl, (show ArrIn _ _ _ _ _ from ⟨Rd.mono (Rd.swap (base' := 0) hSl (by simp) (by simp) (Nat.zero_le _)) (Nat.le_refl _), hlen6, hcap6, hsm6, hok6⟩), (show _ ∨ _ from Or.inr (Rd.swap (base' := w.heap.size + 2) hSl (by simp) (by simp) (Nat.le_refl _))), hZr, HS2⟩, by simp [intOf]; omega⟩
    · obtain rfl : k + 1 = n := by omega
      obtain rfl : Y = X := by
        rw [← HX.out]
        show Y = (stackO belowO ⟨R0, C0, l0⟩ (ys.map Ar.x)).getD (aloneO 5)
        rw [← HS.out, List.drop_of_length_le (by omega)]; rfl
      have hEl := HE.out.len
      have hEc := HE.out.cap
      have hEs := HE.out.small
      have hEo := HE.out.ok
      rcases HB.out with hB | hB
      · simp only [Ar.mk.injEq] at hB
        obtain ⟨rfl, rfl, rfl, rfl⟩ := hB
        go_wp2_with fail
        exact bodyPost_ret (v := AV R0 C0 (.slice (some ⟨b1, off1, none⟩) me ce)) (by simp [results, Tryz.results37, go_sem]) rfl ⟨_, _, _, rfl, HA.out.ext (by with_reducible repeat (first | exact Ext.refl _ | apply Ext.drew | apply Ext.alloc | apply Ext.more_)), by with_reducible repeat (first | exact Ext.refl _ | apply Ext.drew | apply Ext.alloc | apply Ext.more_), Or.inl ⟨_, List.mem_cons_self, rfl⟩⟩
      · go_wp2_with fail
        exact bodyPost_ret (v := AV Y.R Y.C (.slice E me ce)) (by simp [results, Tryz.results37, go_sem]) rfl ⟨E, me, ce, rfl, ⟨Rd.swap (base' := 0) hB (by simp) (by simp) (Nat.zero_le _), hEl, hEc, hEs, hEo⟩, by with_reducible repeat (first | exact Ext.refl _ | apply Ext.drew | apply Ext.alloc | apply Ext.more_), Or.inr (Rd.swap (base' := w.heap.size) hB (by simp) (by simp) (by omega))⟩
end Go.Proofs.YtlfbdodokldkhaaGreatDoor
namespace Go.Proofs.YtlfbdodokldkhaaGreatDoor
open Go.RowKit NM
theorem rwhole_any (n : Int) (w : World) (hn : n.natAbs < T 15) :
    Calls Tryz.prog 35 #[.int .i64 n] w fun e w' => e = .returned (NV (wholeN n).1 (wholeN n).2) ∧ Ext w w' := by
  have hi : I64 n := by have : T 15 = 1000000000000000 := (by decide); unfold I64; omega
  have hm := fun W => rmake_any n 0 W hi
  rw [show rnd (decide (n < 0)) n.natAbs false 0 = some (wholeN n) from (wholex hn).1] at hm
  simp only [rnV, rm, re, Option.getD_some, Option.isSome_some] at hm
  clear hi hn
  generalize (wholeN n).1 = m1 at *
  generalize (wholeN n).2 = m2 at *
  go_enter Tryz.func35, Tryz.ntmps35
  go_wp2_with (first | (go_at_call 29; (with_reducible refine (hm _).mono ?_); rintro e w' ⟨rfl, hb⟩; obtain ⟨os, d, rfl⟩ := hb.more; clear hb))
  exact bodyPost_ret (v := NV m1 m2) (by simp [results, Tryz.results35, go_sem]) rfl ⟨rfl, by repeat (first | (with_reducible (first | exact Ext.refl _ | exact ext_app _ _ _ _ _ | exact ext_app2 _ _ _ _ _ _)) | ((with_reducible refine ext_suffix ⟨_, ?_⟩); (try simp only [Array.append_assoc]); rfl) | (with_reducible (first | apply Ext.drew | apply Ext.alloc | apply Ext.more_)))⟩
theorem rone_cnt (n : Int) (w : World) (hn : n.natAbs < T 15) :
    Calls Tryz.prog 33 #[VV 1 (wholeN n).1 (wholeN n).2 ⟨#[]⟩ false 0] w fun e w' => ResA w (oneA (cntV n)) e w' := by
  have hr := cnt_right15 hn
  have hok := cnt_ok hn
  have h := refOne_any 1 (wholeN n).1 (wholeN n).2 0 ⟨#[]⟩ false w hok.2.1 (by show (0 : Nat) ≤ _; omega)
  refine h.mono ?_
  rintro e w' ⟨h1, h2⟩
  have he : refOneV ⟨1, (wholeN n).1, (wholeN n).2, ⟨#[]⟩, false, 0⟩ = cntV n := by
    show (if refRight (cntV n) then cntV n else bad9) = cntV n
    rw [← right_eq _ hok, if_pos (show valRight (cntV n) = true from hr)]
  rw [he] at h1
  exact ArrO.res (x := oneA (cntV n)) h1 (by simp [oneA]) (fun y hy => by rw [show y = cntV n by simpa [oneA] using hy]; exact hok) h2
set_option maxHeartbeats 2000000 in
theorem rcall_rows (A : Option Addr) (cap : Nat) (a : Ar) (w : World) (h : ArgsIn w A 1 cap [a]) : Calls Tryz.prog 24 #[.string ⟨#[82, 79, 87, 83]⟩, .slice A 1 cap] w (CallI w (rowsO [a])) := by
  obtain ⟨b, off, rfl, ⟨v0, v1, v2⟩, hok⟩ := h.get (k := 0) (a := a) rfl
  have hbl := lt_of_cell v0
  have hcap := h.cap
  simp only [Nat.zero_mul, Nat.add_zero] at v0 v1 v2
  have hra := fun W (hW : ArrIn W a.A a.n a.cap a.x.l) => refRightA_any a.x.R a.x.C a.A a.n a.cap a.x.l W hW
  rw [← rightA_eq _ _ _ hok.arr.ok, show rightA (a.x.R : Int) a.x.C a.x.l = true from hok.right] at hra
  have hb4 := (right_bd hok.right).2.2.2.2.1; have hl := lt15 (by omega : a.x.R ≤ 4096); have hwh := fun W => rwhole_any a.x.R W hl; have hone := fun W => rone_cnt a.x.R W hl
  have HOK := Lib.hid hok.arr
  clear h hok
  show Calls Tryz.prog 24 _ w (CallI w (oneA (cntV a.x.R)))
  go_enter Tryz.func24, Tryz.ntmps24
  go_wp2_with (go_at_call 32; (with_reducible refine (rcount_rows _).mono ?_); rintro e w' ⟨rfl, hb⟩; obtain ⟨os, d, rfl⟩ := hb.more; clear hb)
  refine wp_loop_rounds 2 ?_
  rw [rounds_succ]
  go_wp2_with (go_at_call 14; (with_reducible refine (hra _ (HOK.out.ext (by repeat (first | (with_reducible (first | exact Ext.refl _ | exact ext_app _ _ _ _ _ | exact ext_app2 _ _ _ _ _ _)) | ((with_reducible refine ext_suffix ⟨_, ?_⟩); (try simp only [Array.append_assoc]); rfl) | (with_reducible (first | apply Ext.drew | apply Ext.alloc | apply Ext.more_)))))).mono ?_); rintro e w' ⟨rfl, hb⟩; obtain ⟨os, d, rfl⟩ := hb.more; clear hb)
  rw [rounds_succ]
  go_wp2_with (first | (go_at_call 35; (with_reducible refine (hwh _).mono ?_); rintro e w' ⟨rfl, hb⟩; obtain ⟨os, d, rfl⟩ := hb.more; clear hb) | (go_at_call 34; (with_reducible refine (rof15_any _ _ _).mono ?_); rintro e w' ⟨rfl, hb⟩; obtain ⟨os, d, rfl⟩ := hb.more; clear hb) | (go_at_call 33; (with_reducible refine (hone _).mono ?_); rintro e w' ⟨D, m, cc, rfl, hD, hb⟩; obtain ⟨os5, d5, rfl⟩ := hb.more; clear hb; have hDr := hD.rd))
  exact bodyPost_ret (v := .tuple #[AV (oneA (cntV a.x.R)).R (oneA (cntV a.x.R)).C (.slice D m cc), .bool true]) (by simp [results, Tryz.results24, go_sem]) rfl ⟨D, m, cc, rfl, ArrN.arr (base := w.heap.size) ⟨(by (try simp only [more_alloc, more_more] at hDr); (try simp only [more_alloc, more_more]); (try simp only [drew_more] at hDr); (try simp only [more_drew] at hDr); (try simp only [Array.append_assoc] at hDr); (try simp only [Array.append_assoc]); exact Rd.swap hDr (by first | (simp; done) | (simp; omega) | omega) (by first | (simp; done) | (simp; omega) | omega) (by first | (simp; done) | (simp; omega) | omega)), hD.len, hD.cap, hD.small, hD.ok⟩, by repeat (first | (with_reducible (first | exact Ext.refl _ | exact ext_app _ _ _ _ _ | exact ext_app2 _ _ _ _ _ _)) | ((with_reducible refine ext_suffix ⟨_, ?_⟩); (try simp only [Array.append_assoc]); rfl) | (with_reducible (first | apply Ext.drew | apply Ext.alloc | apply Ext.more_)))⟩
set_option maxHeartbeats 2000000 in
theorem rcall_columns (A : Option Addr) (cap : Nat) (a : Ar) (w : World) (h : ArgsIn w A 1 cap [a]) : Calls Tryz.prog 24 #[.string ⟨#[67, 79, 76, 85, 77, 78, 83]⟩, .slice A 1 cap] w (CallI w (colsO [a])) := by
  obtain ⟨b, off, rfl, ⟨v0, v1, v2⟩, hok⟩ := h.get (k := 0) (a := a) rfl
  have hbl := lt_of_cell v0
  have hcap := h.cap
  simp only [Nat.zero_mul, Nat.add_zero] at v0 v1 v2
  have hra := fun W (hW : ArrIn W a.A a.n a.cap a.x.l) => refRightA_any a.x.R a.x.C a.A a.n a.cap a.x.l W hW
  rw [← rightA_eq _ _ _ hok.arr.ok, show rightA (a.x.R : Int) a.x.C a.x.l = true from hok.right] at hra
  have hb4 := (right_bd hok.right).2.2.2.2.2; have hl := lt15 (by omega : a.x.C ≤ 4096); have hwh := fun W => rwhole_any a.x.C W hl; have hone := fun W => rone_cnt a.x.C W hl
  have HOK := Lib.hid hok.arr
  clear h hok
  show Calls Tryz.prog 24 _ w (CallI w (oneA (cntV a.x.C)))
  go_enter Tryz.func24, Tryz.ntmps24
  go_wp2_with (go_at_call 32; (with_reducible refine (rcount_columns _).mono ?_); rintro e w' ⟨rfl, hb⟩; obtain ⟨os, d, rfl⟩ := hb.more; clear hb)
  refine wp_loop_rounds 2 ?_
  rw [rounds_succ]
  go_wp2_with (go_at_call 14; (with_reducible refine (hra _ (HOK.out.ext (by repeat (first | (with_reducible (first | exact Ext.refl _ | exact ext_app _ _ _ _ _ | exact ext_app2 _ _ _ _ _ _)) | ((with_reducible refine ext_suffix ⟨_, ?_⟩); (try simp only [Array.append_assoc]); rfl) | (with_reducible (first | apply Ext.drew | apply Ext.alloc | apply Ext.more_)))))).mono ?_); rintro e w' ⟨rfl, hb⟩; obtain ⟨os, d, rfl⟩ := hb.more; clear hb)
  rw [rounds_succ]
  go_wp2_with (first | (go_at_call 35; (with_reducible refine (hwh _).mono ?_); rintro e w' ⟨rfl, hb⟩; obtain ⟨os, d, rfl⟩ := hb.more; clear hb) | (go_at_call 34; (with_reducible refine (rof15_any _ _ _).mono ?_); rintro e w' ⟨rfl, hb⟩; obtain ⟨os, d, rfl⟩ := hb.more; clear hb) | (go_at_call 33; (with_reducible refine (hone _).mono ?_); rintro e w' ⟨D, m, cc, rfl, hD, hb⟩; obtain ⟨os5, d5, rfl⟩ := hb.more; clear hb; have hDr := hD.rd))
  exact bodyPost_ret (v := .tuple #[AV (oneA (cntV a.x.C)).R (oneA (cntV a.x.C)).C (.slice D m cc), .bool true]) (by simp [results, Tryz.results24, go_sem]) rfl ⟨D, m, cc, rfl, ArrN.arr (base := w.heap.size) ⟨(by (try simp only [more_alloc, more_more] at hDr); (try simp only [more_alloc, more_more]); (try simp only [drew_more] at hDr); (try simp only [more_drew] at hDr); (try simp only [Array.append_assoc] at hDr); (try simp only [Array.append_assoc]); exact Rd.swap hDr (by first | (simp; done) | (simp; omega) | omega) (by first | (simp; done) | (simp; omega) | omega) (by first | (simp; done) | (simp; omega) | omega)), hD.len, hD.cap, hD.small, hD.ok⟩, by repeat (first | (with_reducible (first | exact Ext.refl _ | exact ext_app _ _ _ _ _ | exact ext_app2 _ _ _ _ _ _)) | ((with_reducible refine ext_suffix ⟨_, ?_⟩); (try simp only [Array.append_assoc]); rfl) | (with_reducible (first | apply Ext.drew | apply Ext.alloc | apply Ext.more_)))⟩
set_option maxHeartbeats 2000000 in
theorem rcall_transpose (A : Option Addr) (cap : Nat) (a : Ar) (w : World) (h : ArgsIn w A 1 cap [a]) : Calls Tryz.prog 24 #[.string ⟨#[84, 82, 65, 78, 83, 80, 79, 83, 69]⟩, .slice A 1 cap] w (CallI w (turnO [a])) := by
  obtain ⟨b, off, rfl, ⟨v0, v1, v2⟩, hok⟩ := h.get (k := 0) (a := a) rfl
  have hbl := lt_of_cell v0
  have hcap := h.cap
  simp only [Nat.zero_mul, Nat.add_zero] at v0 v1 v2
  have hra := fun W (hW : ArrIn W a.A a.n a.cap a.x.l) => refRightA_any a.x.R a.x.C a.A a.n a.cap a.x.l W hW
  rw [← rightA_eq _ _ _ hok.arr.ok, show rightA (a.x.R : Int) a.x.C a.x.l = true from hok.right] at hra
  have htu := fun W hW => refTurn_res a.x a.A a.n a.cap W hW hok.right
  have HOK := Lib.hid hok.arr
  clear h hok
  show Calls Tryz.prog 24 _ w (CallI w (turnN a.x))
  go_enter Tryz.func24, Tryz.ntmps24
  go_wp2_with (go_at_call 32; (with_reducible refine (rcount_transpose _).mono ?_); rintro e w' ⟨rfl, hb⟩; obtain ⟨os, d, rfl⟩ := hb.more; clear hb)
  refine wp_loop_rounds 2 ?_
  rw [rounds_succ]
  go_wp2_with (go_at_call 14; (with_reducible refine (hra _ (HOK.out.ext (by repeat (first | (with_reducible (first | exact Ext.refl _ | exact ext_app _ _ _ _ _ | exact ext_app2 _ _ _ _ _ _)) | ((with_reducible refine ext_suffix ⟨_, ?_⟩); (try simp only [Array.append_assoc]); rfl) | (with_reducible (first | apply Ext.drew | apply Ext.alloc | apply Ext.more_)))))).mono ?_); rintro e w' ⟨rfl, hb⟩; obtain ⟨os, d, rfl⟩ := hb.more; clear hb)
  rw [rounds_succ]
  go_wp2_with (first | (go_at_call 36; (with_reducible refine (htu _ (HOK.out.ext (by repeat (first | (with_reducible (first | exact Ext.refl _ | exact ext_app _ _ _ _ _ | exact ext_app2 _ _ _ _ _ _)) | ((with_reducible refine ext_suffix ⟨_, ?_⟩); (try simp only [Array.append_assoc]); rfl) | (with_reducible (first | apply Ext.drew | apply Ext.alloc | apply Ext.more_)))))).mono ?_); rintro e w' ⟨D, m, cc, rfl, hD, hb⟩; obtain ⟨os5, d5, rfl⟩ := hb.more; clear hb; have hDr := hD.rd))
  exact bodyPost_ret (v := .tuple #[AV (turnN a.x).R (turnN a.x).C (.slice D m cc), .bool true]) (by simp [results, Tryz.results24, go_sem]) rfl ⟨D, m, cc, rfl, ArrN.arr (base := w.heap.size) ⟨(by (try simp only [more_alloc, more_more] at hDr); (try simp only [more_alloc, more_more]); (try simp only [drew_more] at hDr); (try simp only [more_drew] at hDr); (try simp only [Array.append_assoc] at hDr); (try simp only [Array.append_assoc]); exact Rd.swap hDr (by first | (simp; done) | (simp; omega) | omega) (by first | (simp; done) | (simp; omega) | omega) (by first | (simp; done) | (simp; omega) | omega)), hD.len, hD.cap, hD.small, hD.ok⟩, by repeat (first | (with_reducible (first | exact Ext.refl _ | exact ext_app _ _ _ _ _ | exact ext_app2 _ _ _ _ _ _)) | ((with_reducible refine ext_suffix ⟨_, ?_⟩); (try simp only [Array.append_assoc]); rfl) | (with_reducible (first | apply Ext.drew | apply Ext.alloc | apply Ext.more_)))⟩
set_option maxHeartbeats 2000000 in
theorem rcall_torow (A : Option Addr) (cap : Nat) (a : Ar) (w : World) (h : ArgsIn w A 1 cap [a]) : Calls Tryz.prog 24 #[.string ⟨#[84, 79, 82, 79, 87]⟩, .slice A 1 cap] w (CallI w (torowO [a])) := by
  obtain ⟨b, off, rfl, ⟨v0, v1, v2⟩, hok⟩ := h.get (k := 0) (a := a) rfl
  have hbl := lt_of_cell v0
  have hcap := h.cap
  simp only [Nat.zero_mul, Nat.add_zero] at v0 v1 v2
  have hra := fun W (hW : ArrIn W a.A a.n a.cap a.x.l) => refRightA_any a.x.R a.x.C a.A a.n a.cap a.x.l W hW
  rw [← rightA_eq _ _ _ hok.arr.ok, show rightA (a.x.R : Int) a.x.C a.x.l = true from hok.right] at hra
  have hnn := hok.arr.len
  have HOK := Lib.hid hok.arr
  clear h hok
  show Calls Tryz.prog 24 _ w (CallI w ⟨1, a.x.l.length, a.x.l⟩)
  go_enter Tryz.func24, Tryz.ntmps24
  go_wp2_with (go_at_call 32; (with_reducible refine (rcount_torow _).mono ?_); rintro e w' ⟨rfl, hb⟩; obtain ⟨os, d, rfl⟩ := hb.more; clear hb)
  refine wp_loop_rounds 2 ?_
  rw [rounds_succ]
  go_wp2_with (go_at_call 14; (with_reducible refine (hra _ (HOK.out.ext (by repeat (first | (with_reducible (first | exact Ext.refl _ | exact ext_app _ _ _ _ _ | exact ext_app2 _ _ _ _ _ _)) | ((with_reducible refine ext_suffix ⟨_, ?_⟩); (try simp only [Array.append_assoc]); rfl) | (with_reducible (first | apply Ext.drew | apply Ext.alloc | apply Ext.more_)))))).mono ?_); rintro e w' ⟨rfl, hb⟩; obtain ⟨os, d, rfl⟩ := hb.more; clear hb)
  rw [rounds_succ]
  go_wp2_with fail
  exact bodyPost_ret (v := .tuple #[AV 1 a.n (.slice a.A a.n a.cap), .bool true]) (by simp [results, Tryz.results24, go_sem]) rfl ⟨a.A, a.n, a.cap, by rw [hnn]; rfl, HOK.out.ext (by repeat (first | (with_reducible (first | exact Ext.refl _ | exact ext_app _ _ _ _ _ | exact ext_app2 _ _ _ _ _ _)) | ((with_reducible refine ext_suffix ⟨_, ?_⟩); (try simp only [Array.append_assoc]); rfl) | (with_reducible (first | apply Ext.drew | apply Ext.alloc | apply Ext.more_)))), by repeat (first | (with_reducible (first | exact Ext.refl _ | exact ext_app _ _ _ _ _ | exact ext_app2 _ _ _ _ _ _)) | ((with_reducible refine ext_suffix ⟨_, ?_⟩); (try simp only [Array.append_assoc]); rfl) | (with_reducible (first | apply Ext.drew | apply Ext.alloc | apply Ext.more_)))⟩
set_option maxHeartbeats 2000000 in
theorem rcall_tocol (A : Option Addr) (cap : Nat) (a : Ar) (w : World) (h : ArgsIn w A 1 cap [a]) : Calls Tryz.prog 24 #[.string ⟨#[84, 79, 67, 79, 76]⟩, .slice A 1 cap] w (CallI w (tocolO [a])) := by
  obtain ⟨b, off, rfl, ⟨v0, v1, v2⟩, hok⟩ := h.get (k := 0) (a := a) rfl
  have hbl := lt_of_cell v0
  have hcap := h.cap
  simp only [Nat.zero_mul, Nat.add_zero] at v0 v1 v2
  have hra := fun W (hW : ArrIn W a.A a.n a.cap a.x.l) => refRightA_any a.x.R a.x.C a.A a.n a.cap a.x.l W hW
  rw [← rightA_eq _ _ _ hok.arr.ok, show rightA (a.x.R : Int) a.x.C a.x.l = true from hok.right] at hra
  have hnn := hok.arr.len
  have HOK := Lib.hid hok.arr
  clear h hok
  show Calls Tryz.prog 24 _ w (CallI w ⟨a.x.l.length, 1, a.x.l⟩)
  go_enter Tryz.func24, Tryz.ntmps24
  go_wp2_with (go_at_call 32; (with_reducible refine (rcount_tocol _).mono ?_); rintro e w' ⟨rfl, hb⟩; obtain ⟨os, d, rfl⟩ := hb.more; clear hb)
  refine wp_loop_rounds 2 ?_
  rw [rounds_succ]
  go_wp2_with (go_at_call 14; (with_reducible refine (hra _ (HOK.out.ext (by repeat (first | (with_reducible (first | exact Ext.refl _ | exact ext_app _ _ _ _ _ | exact ext_app2 _ _ _ _ _ _)) | ((with_reducible refine ext_suffix ⟨_, ?_⟩); (try simp only [Array.append_assoc]); rfl) | (with_reducible (first | apply Ext.drew | apply Ext.alloc | apply Ext.more_)))))).mono ?_); rintro e w' ⟨rfl, hb⟩; obtain ⟨os, d, rfl⟩ := hb.more; clear hb)
  rw [rounds_succ]
  go_wp2_with fail
  exact bodyPost_ret (v := .tuple #[AV a.n 1 (.slice a.A a.n a.cap), .bool true]) (by simp [results, Tryz.results24, go_sem]) rfl ⟨a.A, a.n, a.cap, by rw [hnn]; rfl, HOK.out.ext (by repeat (first | (with_reducible (first | exact Ext.refl _ | exact ext_app _ _ _ _ _ | exact ext_app2 _ _ _ _ _ _)) | ((with_reducible refine ext_suffix ⟨_, ?_⟩); (try simp only [Array.append_assoc]); rfl) | (with_reducible (first | apply Ext.drew | apply Ext.alloc | apply Ext.more_)))), by repeat (first | (with_reducible (first | exact Ext.refl _ | exact ext_app _ _ _ _ _ | exact ext_app2 _ _ _ _ _ _)) | ((with_reducible refine ext_suffix ⟨_, ?_⟩); (try simp only [Array.append_assoc]); rfl) | (with_reducible (first | apply Ext.drew | apply Ext.alloc | apply Ext.more_)))⟩
end Go.Proofs.YtlfbdodokldkhaaGreatDoor
namespace Go.Proofs.YtlfbdodokldkhaaGreatDoor
open Go.RowKit NM
set_option maxHeartbeats 4000000 in
theorem rcall_hstack (A : Option Addr) (n cap : Nat) (xs : List Ar) (w : World) (h : ArgsIn w A n cap xs) (h1 : 1 ≤ n) (h2 : n ≤ 32) : Calls Tryz.prog 24 #[.string ⟨#[72, 83, 84, 65, 67, 75]⟩, .slice A n cap] w (CallI w (stackN besideO xs)) := by
  have hsm := h.small
  have hcap := h.cap
  have q1 : ¬ n < 1 := by omega
  have q2 : ¬ 32 < n := by omega
  have hst := fun W (hW : ArgsIn W A n cap xs) => rhstack_any A n cap xs W hW h1
  obtain ⟨R0, C0, l0, b1, off1, n1, cap1, b, off, x0, _, rfl, ⟨v0, v1, v2⟩, _, _, _, _, _, hbl, _, _, _, _, _⟩ := h.first (k := 0) (by omega)
  simp only [Nat.zero_mul, Nat.add_zero] at v0 v1 v2
  have H := Lib.hid h
  clear h
  generalize stackN besideO xs = X at *
  go_enter Tryz.func24, Tryz.ntmps24
  go_wp2_with (go_at_call 32; (with_reducible refine (rcount_hstack _).mono ?_); rintro e w' ⟨rfl, hb⟩; obtain ⟨os1, d1, rfl⟩ := hb.more; clear hb)
  go_loopw [8] (fun i wr => ∃ k : Nat, k ≤ n ∧ i = .int .i64 k ∧ Ext (more (w.alloc (Obj.cells #[.int .i64 0, .int .i64 0, .slice none 0 0] 30)) os1 d1) wr) (fun i _ => n - (intOf i).toNat)
  case atStart => exact ⟨0, Nat.zero_le _, rfl, Ext.refl _⟩
  case round =>
    obtain ⟨k, hk, rfl, hX⟩ := hrel
    obtain ⟨os, d, rfl⟩ := hX.more
    clear hX
    by_cases hlt : k < n
    · obtain ⟨a, b', off', ha, hbo, ⟨u0, u1, u2⟩, hok⟩ := H.out.at hlt
      simp only [Option.some.injEq, Addr.mk.injEq, and_true] at hbo
      obtain ⟨rfl, rfl⟩ := hbo
      have hra := fun W (hW : ArrIn W a.A a.n a.cap a.x.l) => refRightA_any a.x.R a.x.C a.A a.n a.cap a.x.l W hW
      rw [← rightA_eq _ _ _ hok.arr.ok, show rightA (a.x.R : Int) a.x.C a.x.l = true from hok.right] at hra
      have HOK := Lib.hid hok.arr
      clear hok hst
      go_wp2_with (go_at_call 14; refine (hra _ (HOK.out.ext (by repeat (first | (with_reducible (first | exact Ext.refl _ | exact ext_app _ _ _ _ _ | exact ext_app2 _ _ _ _ _ _)) | ((with_reducible refine ext_suffix ⟨_, ?_⟩); (try simp only [Array.append_assoc]); rfl) | (with_reducible (first | apply Ext.drew | apply Ext.alloc | apply Ext.more_)))))).mono ?_; rintro e w' ⟨rfl, hb⟩; obtain ⟨os', d', rfl⟩ := hb.more; clear hb)
      exact ⟨⟨k + 1, by omega, by go_num, by repeat (first | (with_reducible (first | exact Ext.refl _ | exact ext_app _ _ _ _ _ | exact ext_app2 _ _ _ _ _ _)) | ((with_reducible refine ext_suffix ⟨_, ?_⟩); (try simp only [Array.append_assoc]); rfl) | (with_reducible (first | apply Ext.drew | apply Ext.alloc | apply Ext.more_)))⟩, by simp [intOf]; omega⟩
    · go_wp2_with (go_at_call 37; (with_reducible refine (hst _ (H.out.ext (by repeat (first | (with_reducible (first | exact Ext.refl _ | exact ext_app _ _ _ _ _ | exact ext_app2 _ _ _ _ _ _)) | ((with_reducible refine ext_suffix ⟨_, ?_⟩); (try simp only [Array.append_assoc]); rfl) | (with_reducible (first | apply Ext.drew | apply Ext.alloc | apply Ext.more_)))))).mono ?_); rintro e w' ⟨D, m, cc, rfl, hN, hb, hD⟩; have hNl := hN.len; have hNc := hN.cap; have hNs := hN.small; have hNo := hN.ok; clear hN; obtain ⟨os5, d5, rfl⟩ := hb.more; clear hb)
      refine bodyPost_ret (v := .tuple #[AV X.R X.C (.slice D m cc), .bool true]) (by simp [results, Tryz.results24, go_sem]) rfl ⟨D, m, cc, rfl, ?_, by repeat (first | (with_reducible (first | exact Ext.refl _ | exact ext_app _ _ _ _ _ | exact ext_app2 _ _ _ _ _ _)) | ((with_reducible refine ext_suffix ⟨_, ?_⟩); (try simp only [Array.append_assoc]); rfl) | (with_reducible (first | apply Ext.drew | apply Ext.alloc | apply Ext.more_)))⟩
      rcases hD with ⟨a, ha, rfl⟩ | hDr
      · exact (H.out.all _ ha).arr.ext (by repeat (first | (with_reducible (first | exact Ext.refl _ | exact ext_app _ _ _ _ _ | exact ext_app2 _ _ _ _ _ _)) | ((with_reducible refine ext_suffix ⟨_, ?_⟩); (try simp only [Array.append_assoc]); rfl) | (with_reducible (first | apply Ext.drew | apply Ext.alloc | apply Ext.more_))))
      · exact ArrN.arr (base := w.heap.size) ⟨(by (try simp only [more_alloc, more_more] at hDr); (try simp only [more_alloc, more_more]); (try simp only [drew_more] at hDr); (try simp only [more_drew] at hDr); (try simp only [Array.append_assoc] at hDr); (try simp only [Array.append_assoc]); exact Rd.swap hDr (by first | (simp; done) | (simp; omega) | omega) (by first | (simp; done) | (simp; omega) | omega) (by first | (simp; done) | (simp; omega) | omega)), hNl, hNc, hNs, hNo⟩
set_option maxHeartbeats 4000000 in
theorem rcall_vstack (A : Option Addr) (n cap : Nat) (xs : List Ar) (w : World) (h : ArgsIn w A n cap xs) (h1 : 1 ≤ n) (h2 : n ≤ 32) : Calls Tryz.prog 24 #[.string ⟨#[86, 83, 84, 65, 67, 75]⟩, .slice A n cap] w (CallI w (stackN belowO xs)) := by
  have hsm := h.small
  have hcap := h.cap
  have q1 : ¬ n < 1 := by omega
  have q2 : ¬ 32 < n := by omega
  have hst := fun W (hW : ArgsIn W A n cap xs) => rvstack_any A n cap xs W hW h1
  obtain ⟨R0, C0, l0, b1, off1, n1, cap1, b, off, x0, _, rfl, ⟨v0, v1, v2⟩, _, _, _, _, _, hbl, _, _, _, _, _⟩ := h.first (k := 0) (by omega)
  simp only [Nat.zero_mul, Nat.add_zero] at v0 v1 v2
  have H := Lib.hid h
  clear h
  generalize stackN belowO xs = X at *
  go_enter Tryz.func24, Tryz.ntmps24
  go_wp2_with (go_at_call 32; (with_reducible refine (rcount_vstack _).mono ?_); rintro e w' ⟨rfl, hb⟩; obtain ⟨os1, d1, rfl⟩ := hb.more; clear hb)
  go_loopw [8] (fun i wr => ∃ k : Nat, k ≤ n ∧ i = .int .i64 k ∧ Ext (more (w.alloc (Obj.cells #[.int .i64 0, .int .i64 0, .slice none 0 0] 30)) os1 d1) wr) (fun i _ => n - (intOf i).toNat)
  case atStart => exact ⟨0, Nat.zero_le _, rfl, Ext.refl _⟩
  case round =>
    obtain ⟨k, hk, rfl, hX⟩ := hrel
    obtain ⟨os, d, rfl⟩ := hX.more
    clear hX
    by_cases hlt : k < n
    · obtain ⟨a, b', off', ha, hbo, ⟨u0, u1, u2⟩, hok⟩ := H.out.at hlt
      simp only [Option.some.injEq, Addr.mk.injEq, and_true] at hbo
      obtain ⟨rfl, rfl⟩ := hbo
      have hra := fun W (hW : ArrIn W a.A a.n a.cap a.x.l) => refRightA_any a.x.R a.x.C a.A a.n a.cap a.x.l W hW
      rw [← rightA_eq _ _ _ hok.arr.ok, show rightA (a.x.R : Int) a.x.C a.x.l = true from hok.right] at hra
      have HOK := Lib.hid hok.arr
      clear hok hst
      go_wp2_with (go_at_call 14; refine (hra _ (HOK.out.ext (by repeat (first | (with_reducible (first | exact Ext.refl _ | exact ext_app _ _ _ _ _ | exact ext_app2 _ _ _ _ _ _)) | ((with_reducible refine ext_suffix ⟨_, ?_⟩); (try simp only [Array.append_assoc]); rfl) | (with_reducible (first | apply Ext.drew | apply Ext.alloc | apply Ext.more_)))))).mono ?_; rintro e w' ⟨rfl, hb⟩; obtain ⟨os', d', rfl⟩ := hb.more; clear hb)
      exact ⟨⟨k + 1, by omega, by go_num, by repeat (first | (with_reducible (first | exact Ext.refl _ | exact ext_app _ _ _ _ _ | exact ext_app2 _ _ _ _ _ _)) | ((with_reducible refine ext_suffix ⟨_, ?_⟩); (try simp only [Array.append_assoc]); rfl) | (with_reducible (first | apply Ext.drew | apply Ext.alloc | apply Ext.more_)))⟩, by simp [intOf]; omega⟩
    · go_wp2_with (go_at_call 37; (with_reducible refine (hst _ (H.out.ext (by repeat (first | (with_reducible (first | exact Ext.refl _ | exact ext_app _ _ _ _ _ | exact ext_app2 _ _ _ _ _ _)) | ((with_reducible refine ext_suffix ⟨_, ?_⟩); (try simp only [Array.append_assoc]); rfl) | (with_reducible (first | apply Ext.drew | apply Ext.alloc | apply Ext.more_)))))).mono ?_); rintro e w' ⟨D, m, cc, rfl, hN, hb, hD⟩; have hNl := hN.len; have hNc := hN.cap; have hNs := hN.small; have hNo := hN.ok; clear hN; obtain ⟨os5, d5, rfl⟩ := hb.more; clear hb)
      refine bodyPost_ret (v := .tuple #[AV X.R X.C (.slice D m cc), .bool true]) (by simp [results, Tryz.results24, go_sem]) rfl ⟨D, m, cc, rfl, ?_, by repeat (first | (with_reducible (first | exact Ext.refl _ | exact ext_app _ _ _ _ _ | exact ext_app2 _ _ _ _ _ _)) | ((with_reducible refine ext_suffix ⟨_, ?_⟩); (try simp only [Array.append_assoc]); rfl) | (with_reducible (first | apply Ext.drew | apply Ext.alloc | apply Ext.more_)))⟩
      rcases hD with ⟨a, ha, rfl⟩ | hDr
      · exact (H.out.all _ ha).arr.ext (by repeat (first | (with_reducible (first | exact Ext.refl _ | exact ext_app _ _ _ _ _ | exact ext_app2 _ _ _ _ _ _)) | ((with_reducible refine ext_suffix ⟨_, ?_⟩); (try simp only [Array.append_assoc]); rfl) | (with_reducible (first | apply Ext.drew | apply Ext.alloc | apply Ext.more_))))
      · exact ArrN.arr (base := w.heap.size) ⟨(by (try simp only [more_alloc, more_more] at hDr); (try simp only [more_alloc, more_more]); (try simp only [drew_more] at hDr); (try simp only [more_drew] at hDr); (try simp only [Array.append_assoc] at hDr); (try simp only [Array.append_assoc]); exact Rd.swap hDr (by first | (simp; done) | (simp; omega) | omega) (by first | (simp; done) | (simp; omega) | omega) (by first | (simp; done) | (simp; omega) | omega)), hNl, hNc, hNs, hNo⟩
end Go.Proofs.YtlfbdodokldkhaaGreatDoor
namespace Go.Proofs.YtlfbdodokldkhaaGreatDoor
open Go.RowKit NM
theorem pcall_hstack (A : Option Addr) (n cap : Nat) (gs : List GA) (w : World) (h : ArgsG w A n cap gs) : Calls Tryz.prog 15 #[.string ⟨#[72, 83, 84, 65, 67, 75]⟩, .slice A n cap] w (CallG w (callX 1 32 gs (stackN besideO (arsOf gs)))) :=
  gcall_any ⟨#[72, 83, 84, 65, 67, 75]⟩ 1 32 100 (fun p1 _ => #[.pointer (some ⟨p1, 0, none⟩)]) (by decide) (fun _ _ => rfl) (fun args W => by go_simp) (by decide) (by decide) A n cap gs w h _
    (fun hr h1 _ p1 p2 W hW hB => gstack1_any 51 besideO beside_c (fun a b c ha hb hj => beside_right ha hb hj) (fun args W => by go_simp) p1 A n cap _ W ((arsOf_in h hr).ext hW) h1 (hB (p1, bxJ 51) (by simp [farrayB])))
theorem pcall_vstack (A : Option Addr) (n cap : Nat) (gs : List GA) (w : World) (h : ArgsG w A n cap gs) : Calls Tryz.prog 15 #[.string ⟨#[86, 83, 84, 65, 67, 75]⟩, .slice A n cap] w (CallG w (callX 1 32 gs (stackN belowO (arsOf gs)))) :=
  gcall_any ⟨#[86, 83, 84, 65, 67, 75]⟩ 1 32 100 (fun _ p2 => #[.pointer (some ⟨p2, 0, none⟩)]) (by decide) (fun _ _ => rfl) (fun args W => by go_simp) (by decide) (by decide) A n cap gs w h _
    (fun hr h1 _ p1 p2 W hW hB => gstack1_any 64 belowO below_c (fun a b c ha hb hj => below_right ha hb hj) (fun args W => by go_simp) p2 A n cap _ W ((arsOf_in h hr).ext hW) h1 (hB (p2, bxJ 64) (by simp [farrayB])))
end Go.Proofs.YtlfbdodokldkhaaGreatDoor
namespace Go.Proofs.YtlfbdodokldkhaaGreatDoor
open Go.RowKit NM
theorem rcall_x (s : ByteArray) (lo hi : Nat) (h1 : lo ≤ 100) (h2 : 1 ≤ hi) (h3 : hi ≤ 100) (hc : ∀ W, Calls Tryz.prog 32 #[.string s] W fun e w' => e = .returned (.tuple #[.int .i64 lo, .int .i64 hi]) ∧ Ext W w')
    (F : NA) (A : Option Addr) (n cap : Nat) (gs : List GA) (w : World) (h : ArgsG w A n cap gs) (hy : ArgsIn w A n cap (arsOf gs) → lo ≤ n → n ≤ hi → Calls Tryz.prog 24 #[.string s, .slice A n cap] w (CallI w F)) :
    Calls Tryz.prog 24 #[.string s, .slice A n cap] w (CallI w (callX lo hi gs F)) := by
  have hl := h.len
  by_cases q : n < lo ∨ hi < n
  · rw [show callX lo hi gs F = aloneO 2 by unfold callX; rw [if_pos (by omega)]]
    exact rcall_few s lo hi h1 h2 h3 hc A n cap gs w h q
  · by_cases hr : ∀ g ∈ gs, g.right = true
    · rw [show callX lo hi gs F = F by unfold callX; rw [if_neg (by omega), if_pos (List.all_eq_true.2 hr)]]
      exact hy (arsOf_in h hr) (by omega) (by omega)
    · rw [show callX lo hi gs F = aloneO 9 by unfold callX; rw [if_neg (by omega), if_neg (fun e => hr (List.all_eq_true.1 e))]]
      exact rcall_bad s lo hi h1 h2 h3 hc A n cap gs w h (by omega) (by omega) hr
theorem shape_rows (A : Option Addr) (n cap : Nat) (gs : List GA) (w : World) (htab : Tab w) (h : ArgsG w A n cap gs) : Calls Tryz.prog 13 #[.string ⟨#[82, 79, 87, 83]⟩, .slice A n cap] w fun e w' => e = .returned (.bool true) ∧ Ext w w' :=   call15_any ⟨#[82, 79, 87, 83]⟩ A n cap w (callX 1 1 gs (rowsO (arsOf gs))) (fun W hW => pcall_rows A n cap gs W (htab.ext hW) (h.ext hW)) (fun W hW => rcall_x _ 1 1 (by decide) (by decide) (by decide) (fun W' => rcount_rows W') _ A n cap gs W (h.ext hW) (fun hi h1 h2 => by (obtain ⟨a, hx, hn, _⟩ := one_arg hi h1 h2); rw [hx] at hi ⊢; subst hn; exact rcall_rows A cap a W hi))
theorem shape_columns (A : Option Addr) (n cap : Nat) (gs : List GA) (w : World) (htab : Tab w) (h : ArgsG w A n cap gs) : Calls Tryz.prog 13 #[.string ⟨#[67, 79, 76, 85, 77, 78, 83]⟩, .slice A n cap] w fun e w' => e = .returned (.bool true) ∧ Ext w w' :=   call15_any ⟨#[67, 79, 76, 85, 77, 78, 83]⟩ A n cap w (callX 1 1 gs (colsO (arsOf gs))) (fun W hW => pcall_columns A n cap gs W (htab.ext hW) (h.ext hW)) (fun W hW => rcall_x _ 1 1 (by decide) (by decide) (by decide) (fun W' => rcount_columns W') _ A n cap gs W (h.ext hW) (fun hi h1 h2 => by (obtain ⟨a, hx, hn, _⟩ := one_arg hi h1 h2); rw [hx] at hi ⊢; subst hn; exact rcall_columns A cap a W hi))
theorem shape_transpose (A : Option Addr) (n cap : Nat) (gs : List GA) (w : World) (htab : Tab w) (h : ArgsG w A n cap gs) : Calls Tryz.prog 13 #[.string ⟨#[84, 82, 65, 78, 83, 80, 79, 83, 69]⟩, .slice A n cap] w fun e w' => e = .returned (.bool true) ∧ Ext w w' :=   call15_any ⟨#[84, 82, 65, 78, 83, 80, 79, 83, 69]⟩ A n cap w (callX 1 1 gs (turnO (arsOf gs))) (fun W hW => pcall_transpose A n cap gs W (htab.ext hW) (h.ext hW)) (fun W hW => rcall_x _ 1 1 (by decide) (by decide) (by decide) (fun W' => rcount_transpose W') _ A n cap gs W (h.ext hW) (fun hi h1 h2 => by (obtain ⟨a, hx, hn, _⟩ := one_arg hi h1 h2); rw [hx] at hi ⊢; subst hn; exact rcall_transpose A cap a W hi))
theorem shape_torow (A : Option Addr) (n cap : Nat) (gs : List GA) (w : World) (htab : Tab w) (h : ArgsG w A n cap gs) : Calls Tryz.prog 13 #[.string ⟨#[84, 79, 82, 79, 87]⟩, .slice A n cap] w fun e w' => e = .returned (.bool true) ∧ Ext w w' :=   call15_any ⟨#[84, 79, 82, 79, 87]⟩ A n cap w (callX 1 1 gs (torowO (arsOf gs))) (fun W hW => pcall_torow A n cap gs W (htab.ext hW) (h.ext hW)) (fun W hW => rcall_x _ 1 1 (by decide) (by decide) (by decide) (fun W' => rcount_torow W') _ A n cap gs W (h.ext hW) (fun hi h1 h2 => by (obtain ⟨a, hx, hn, _⟩ := one_arg hi h1 h2); rw [hx] at hi ⊢; subst hn; exact rcall_torow A cap a W hi))
theorem shape_tocol (A : Option Addr) (n cap : Nat) (gs : List GA) (w : World) (htab : Tab w) (h : ArgsG w A n cap gs) : Calls Tryz.prog 13 #[.string ⟨#[84, 79, 67, 79, 76]⟩, .slice A n cap] w fun e w' => e = .returned (.bool true) ∧ Ext w w' :=   call15_any ⟨#[84, 79, 67, 79, 76]⟩ A n cap w (callX 1 1 gs (tocolO (arsOf gs))) (fun W hW => pcall_tocol A n cap gs W (htab.ext hW) (h.ext hW)) (fun W hW => rcall_x _ 1 1 (by decide) (by decide) (by decide) (fun W' => rcount_tocol W') _ A n cap gs W (h.ext hW) (fun hi h1 h2 => by (obtain ⟨a, hx, hn, _⟩ := one_arg hi h1 h2); rw [hx] at hi ⊢; subst hn; exact rcall_tocol A cap a W hi))
theorem shape_hstack (A : Option Addr) (n cap : Nat) (gs : List GA) (w : World) (htab : Tab w) (h : ArgsG w A n cap gs) : Calls Tryz.prog 13 #[.string ⟨#[72, 83, 84, 65, 67, 75]⟩, .slice A n cap] w fun e w' => e = .returned (.bool true) ∧ Ext w w' :=
  call15_any ⟨#[72, 83, 84, 65, 67, 75]⟩ A n cap w (callX 1 32 gs (stackN besideO (arsOf gs))) (fun W hW => pcall_hstack A n cap gs W (h.ext hW)) (fun W hW => rcall_x _ 1 32 (by decide) (by decide) (by decide) (fun W' => rcount_hstack W') _ A n cap gs W (h.ext hW) (fun hi h1 h2 => rcall_hstack A n cap _ W hi h1 h2))
theorem shape_vstack (A : Option Addr) (n cap : Nat) (gs : List GA) (w : World) (htab : Tab w) (h : ArgsG w A n cap gs) : Calls Tryz.prog 13 #[.string ⟨#[86, 83, 84, 65, 67, 75]⟩, .slice A n cap] w fun e w' => e = .returned (.bool true) ∧ Ext w w' :=
  call15_any ⟨#[86, 83, 84, 65, 67, 75]⟩ A n cap w (callX 1 32 gs (stackN belowO (arsOf gs))) (fun W hW => pcall_vstack A n cap gs W (h.ext hW)) (fun W hW => rcall_x _ 1 32 (by decide) (by decide) (by decide) (fun W' => rcount_vstack W') _ A n cap gs W (h.ext hW) (fun hi h1 h2 => rcall_vstack A n cap _ W hi h1 h2))
end Go.Proofs.YtlfbdodokldkhaaGreatDoor
namespace Go.Proofs
open Go.Shelf
def Tryz.keys31_ren : Go.Shelf.Ren := ⟨fun | 7 => 31 | 10 => 72 | n => n, fun | 23 => 53 | 26 => 9 | 3 => 51 | 28 => 59 | 0 => 0 | 27 => 58 | 33 => 82 | 4 => 4 | n => n, fun | n => n⟩
theorem Tryz.keys31 : Go.Proofs.SlLaysZ.n7 Tryz.prog Tryz.keys31_ren := {
  mixed := by kernel_rfl
  f7 := ⟨Tryz.f31.name, by decide, Tryz.func31.trans (congrArg some (by kernel_rfl))⟩
  f10 := ⟨Tryz.f72.name, by decide, Tryz.func72.trans (congrArg some (by kernel_rfl))⟩
  t0 := Tryz.underlying0
  a0 := Tryz.isAgg0
  z0 := Tryz.sizeOf0
  v0 := Tryz.zeroValue0
  t4 := Tryz.underlying4
  a4 := Tryz.isAgg4
  z4 := Tryz.sizeOf4
  v4 := Tryz.zeroValue4
  t23 := Tryz.underlying53
  a23 := Tryz.isAgg53
  z23 := Tryz.sizeOf53
  v23 := Tryz.zeroValue53
  t26 := Tryz.underlying9
  a26 := Tryz.isAgg9
  z26 := Tryz.sizeOf9
  v26 := Tryz.zeroValue9
  t27 := Tryz.underlying58
  a27 := Tryz.isAgg58
  z27 := Tryz.sizeOf58
  v27 := Tryz.zeroValue58
  t28 := Tryz.underlying59
  a28 := Tryz.isAgg59
  z28 := Tryz.sizeOf59
  v28 := Tryz.zeroValue59
  t33 := Tryz.underlying82
  a33 := Tryz.isAgg82
  z33 := Tryz.sizeOf82
  v33 := Tryz.zeroValue82 }
def Tryz.sorted30_ren : Go.Shelf.Ren := ⟨fun | 6 => 30 | 8 => 70 | 9 => 71 | 11 => 121 | 13 => 123 | 12 => 122 | 23 => 158 | 24 => 159 | 14 => 149 | 15 => 150 | 16 => 151 | 17 => 152 | 18 => 153 | 19 => 154 | 20 => 155 | 21 => 156 | 22 => 157 | 25 => 190 | 26 => 191 | 27 => 192 | 28 => 193 | 29 => 194 | 30 => 195 | 31 => 210 | n => n, fun | 26 => 9 | 28 => 59 | 24 => 25 | 0 => 0 | 3 => 3 | 37 => 42 | 48 => 144 | 50 => 41 | 4 => 4 | 40 => 137 | 39 => 136 | 45 => 104 | 5 => 5 | 9 => 9 | 51 => 170 | 55 => 174 | 57 => 187 | 58 => 61 | 33 => 82 | n => n, fun | n => n⟩
theorem Tryz.sorted30 : Go.Proofs.SlLaysZ.n6 Tryz.prog Tryz.sorted30_ren := {
  mixed := by kernel_rfl
  f6 := ⟨Tryz.f30.name, by decide, Tryz.func30.trans (congrArg some (by kernel_rfl))⟩
  f8 := ⟨Tryz.f70.name, by decide, Tryz.func70.trans (congrArg some (by kernel_rfl))⟩
  f11 := ⟨Tryz.f121.name, by decide, Tryz.func121.trans (congrArg some (by kernel_rfl))⟩
  t0 := Tryz.underlying0
  a0 := Tryz.isAgg0
  z0 := Tryz.sizeOf0
  v0 := Tryz.zeroValue0
  t24 := Tryz.underlying25
  a24 := Tryz.isAgg25
  z24 := Tryz.sizeOf25
  v24 := Tryz.zeroValue25
  t26 := Tryz.underlying9
  a26 := Tryz.isAgg9
  z26 := Tryz.sizeOf9
  v26 := Tryz.zeroValue9
  t28 := Tryz.underlying59
  a28 := Tryz.isAgg59
  z28 := Tryz.sizeOf59
  v28 := Tryz.zeroValue59
  i26 := by kernel_rfl }
def Tryz.sort71_ren : Go.Shelf.Ren := ⟨fun | 6 => 71 | 8 => 123 | 9 => 122 | 19 => 158 | 20 => 159 | 21 => 149 | 22 => 150 | 23 => 151 | 24 => 152 | 25 => 153 | 26 => 154 | 27 => 155 | 28 => 156 | 29 => 157 | 36 => 190 | 31 => 191 | 32 => 192 | 37 => 193 | 38 => 194 | 39 => 195 | 41 => 210 | n => n, fun | 27 => 25 | 29 => 9 | 3 => 3 | 32 => 42 | 26 => 25 | 0 => 0 | 44 => 144 | 46 => 41 | 4 => 4 | 36 => 137 | 35 => 136 | 41 => 104 | 5 => 5 | 9 => 9 | 53 => 170 | 57 => 174 | 63 => 187 | 64 => 61 | n => n, fun | n => n⟩
theorem Tryz.sort71 : Go.Proofs.SlLaysM.n6 Tryz.prog Tryz.sort71_ren := {
  mixed := by kernel_rfl
  f6 := ⟨Tryz.f71.name, by decide, Tryz.func71.trans (congrArg some (by kernel_rfl))⟩
  f8 := Tryz.func123.trans (congrArg some (by kernel_rfl))
  f9 := ⟨Tryz.f122.name, by decide, Tryz.func122.trans (congrArg some (by kernel_rfl))⟩
  f19 := Tryz.func158.trans (congrArg some (by kernel_rfl))
  f20 := Tryz.func159.trans (congrArg some (by kernel_rfl))
  f21 := ⟨Tryz.f149.name, by decide, Tryz.func149.trans (congrArg some (by kernel_rfl))⟩
  f22 := ⟨Tryz.f150.name, by decide, Tryz.func150.trans (congrArg some (by kernel_rfl))⟩
  f23 := ⟨Tryz.f151.name, by decide, Tryz.func151.trans (congrArg some (by kernel_rfl))⟩
  f24 := ⟨Tryz.f152.name, by decide, Tryz.func152.trans (congrArg some (by kernel_rfl))⟩
  f25 := ⟨Tryz.f153.name, by decide, Tryz.func153.trans (congrArg some (by kernel_rfl))⟩
  f26 := ⟨Tryz.f154.name, by decide, Tryz.func154.trans (congrArg some (by kernel_rfl))⟩
  f27 := ⟨Tryz.f155.name, by decide, Tryz.func155.trans (congrArg some (by kernel_rfl))⟩
  f28 := ⟨Tryz.f156.name, by decide, Tryz.func156.trans (congrArg some (by kernel_rfl))⟩
  f29 := ⟨Tryz.f157.name, by decide, Tryz.func157.trans (congrArg some (by kernel_rfl))⟩
  f31 := Tryz.func191.trans (congrArg some (by kernel_rfl))
  f32 := Tryz.func192.trans (congrArg some (by kernel_rfl))
  f36 := ⟨Tryz.f190.name, by decide, Tryz.func190.trans (congrArg some (by kernel_rfl))⟩
  f37 := ⟨Tryz.f193.name, by decide, Tryz.func193.trans (congrArg some (by kernel_rfl))⟩
  f38 := ⟨Tryz.f194.name, by decide, Tryz.func194.trans (congrArg some (by kernel_rfl))⟩
  f39 := ⟨Tryz.f195.name, by decide, Tryz.func195.trans (congrArg some (by kernel_rfl))⟩
  f41 := ⟨Tryz.f210.name, by decide, Tryz.func210.trans (congrArg some (by kernel_rfl))⟩
  t0 := Tryz.underlying0
  a0 := Tryz.isAgg0
  z0 := Tryz.sizeOf0
  v0 := Tryz.zeroValue0
  t3 := Tryz.underlying3
  a3 := Tryz.isAgg3
  z3 := Tryz.sizeOf3
  v3 := Tryz.zeroValue3
  t4 := Tryz.underlying4
  a4 := Tryz.isAgg4
  z4 := Tryz.sizeOf4
  v4 := Tryz.zeroValue4
  t5 := Tryz.underlying5
  a5 := Tryz.isAgg5
  z5 := Tryz.sizeOf5
  v5 := Tryz.zeroValue5
  t9 := Tryz.underlying9
  a9 := Tryz.isAgg9
  z9 := Tryz.sizeOf9
  v9 := Tryz.zeroValue9
  t26 := Tryz.underlying25
  a26 := Tryz.isAgg25
  z26 := Tryz.sizeOf25
  v26 := Tryz.zeroValue25
  t27 := Tryz.underlying25
  a27 := Tryz.isAgg25
  z27 := Tryz.sizeOf25
  v27 := Tryz.zeroValue25
  t29 := Tryz.underlying9
  a29 := Tryz.isAgg9
  z29 := Tryz.sizeOf9
  v29 := Tryz.zeroValue9
  t32 := Tryz.underlying42
  a32 := Tryz.isAgg42
  z32 := Tryz.sizeOf42
  v32 := Tryz.zeroValue42
  t35 := Tryz.underlying136
  a35 := Tryz.isAgg136
  z35 := Tryz.sizeOf136
  v35 := Tryz.zeroValue136
  t36 := Tryz.underlying137
  a36 := Tryz.isAgg137
  z36 := Tryz.sizeOf137
  v36 := Tryz.zeroValue137
  t41 := Tryz.underlying104
  a41 := Tryz.isAgg104
  z41 := Tryz.sizeOf104
  v41 := Tryz.zeroValue104
  t44 := Tryz.underlying144
  a44 := Tryz.isAgg144
  z44 := Tryz.sizeOf144
  v44 := Tryz.zeroValue144
  t46 := Tryz.underlying41
  a46 := Tryz.isAgg41
  z46 := Tryz.sizeOf41
  v46 := Tryz.zeroValue41
  t53 := Tryz.underlying170
  a53 := Tryz.isAgg170
  z53 := Tryz.sizeOf170
  v53 := Tryz.zeroValue170
  t57 := Tryz.underlying174
  a57 := Tryz.isAgg174
  z57 := Tryz.sizeOf174
  v57 := Tryz.zeroValue174
  t63 := Tryz.underlying187
  a63 := Tryz.isAgg187
  z63 := Tryz.sizeOf187
  v63 := Tryz.zeroValue187
  t64 := Tryz.underlying61
  a64 := Tryz.isAgg61
  z64 := Tryz.sizeOf61
  v64 := Tryz.zeroValue61 }
open Go.RowKit Go.Maps Go.Sort
theorem Tryz.sorts30 (m : Nat) : AnyZ.SortsIn Tryz.prog Tryz.sorted30_ren Fence.wide m :=
  ⟨fun blk off cap ss W hH hblk hsz => callsIn_wide.2 (AnyM.slices_Sort_string Tryz.sort71 blk off cap ss W hH hblk hsz),
   fun p cap W => callsIn_wide.2 (AnyM.slices_Sort_string_none Tryz.sort71 p cap W)⟩
theorem Tryz.maps_Keys_31 (mb : Option Nat) (W : World) : CallsIn Fence.wide 5 Tryz.prog 31 #[.map mb] W fun e w' => e = .returned (.func (.func 72) #[] #[.pointer (some ⟨W.heap.size, 0, none⟩)]) ∧ w' = W.alloc (.cells #[.map mb] 53) :=
  AnyZ.keys_in Tryz.keys31 Fence.wide 5 trivial rfl mb W
set_option maxHeartbeats 1000000 in
theorem Tryz.slices_Sorted_keys_30_31 {H : Type} (b nn : Nat) (D0 : DataW H) (R : Value → Option (DataW H × List MemPlace)) (w : World) (hown : w.ownsMap Tryz.prog 9 R b nn D0) (hmax : Maps.size D0 ≤ maxLen) (hbytes : Maps.size D0 * 16 ≤ 140737488355328) :
    CallsIn Fence.wide 5 Tryz.prog 30 #[.func (.func 72) #[] #[.pointer (some ⟨w.heap.size, 0, none⟩)]] (w.alloc (.cells #[.map (some b)] 53)) fun e w' => ∃ (v : Value) (ss : List (List UInt8)), e = .returned v ∧ ss.Perm (strKeys D0) ∧
      w'.ownsRow (w.alloc (.cells #[.map (some b)] 53)).heap.size 9 1 v ss.length ((ss.mergeSort (fun x y => decide (x ≤ y))).map encStr) ∧ (v = .slice none 0 0 ↔ ss = []) ∧ Below (w.alloc (.cells #[.map (some b)] 53)).heap.size (w.alloc (.cells #[.map (some b)] 53)) w' := by
  have hbl := hown.lt
  have hseq : SeqGives Fence.wide 2 Tryz.prog 72 #[.pointer (some ⟨w.heap.size, 0, none⟩)] encStr (fun ss => ss.Perm (strKeys D0)) (Maps.size D0) (w.alloc (.cells #[.map (some b)] 53)) :=
    AnyZ.keys_gives (ρ := Tryz.keys31_ren) { Tryz.keys31 with } Fence.wide _ trivial rfl (by omega) w.heap.size b nn D0 _ (by simp) (by simp) (by
      obtain ⟨es, clock, hb, Ft, hs, hD⟩ := hown
      exact ⟨es, clock, (Below.heap_alloc _ _ b hbl).trans hb, Ft, hs, hD⟩)
  exact AnyZ.sorted_in Tryz.sorted30 Fence.wide 5 trivial trivial trivial trivial rfl (by omega) (Tryz.sorts30 _) (enters_of Tryz.func71 (by kernel_rfl) rfl) 72 #[.pointer (some ⟨w.heap.size, 0, none⟩)] trivial (enters_of Tryz.func72 (by kernel_rfl) rfl) _ _ hmax hbytes _ hseq
end Go.Proofs
namespace Go.Proofs.YtlfbdodokldkhaaGreatDoor
open Go.RowKit NM Go.Maps Go.Sort Go.Shelf
theorem tab_size (p1 p2 : Nat) : Maps.size (tabD (farrayL p1 p2)) = 14 := by kernel_rfl
theorem tab_keys (p1 p2 : Nat) : strKeys (tabD (farrayL p1 p2)) = strKeys (tabD (farrayL 0 0)) := by kernel_rfl
theorem tab_keys_len : (strKeys (tabD (farrayL 0 0))).length = 14 := by kernel_rfl
set_option maxHeartbeats 1000000 in
theorem gnames_any (w : World) :
    Calls Tryz.prog 22 #[] w fun e w' => ∃ (v : Value) (ss : List (List UInt8)), e = .returned v ∧ ss.Perm (strKeys (tabD (farrayL 0 0))) ∧ w'.ownsRow w.heap.size 9 1 v 14 ((ss.mergeSort (fun x y => decide (x ≤ y))).map encStr) ∧ Ext w w' := by
  refine (callsIn_wide (n := 6)).1 ?_
  have hfK : Fence.wide.fn 31 := trivial
  have hfS : Fence.wide.fn 30 := trivial
  have hfT : Fence.wide.fn 26 := trivial
  refine callsIn_of_wp Tryz.func22 rfl trivial ?_ rfl
  simp only [Tryz.ntmps22, List.size_toArray, List.length_cons, List.length_nil, Nat.reduceAdd, Nat.reduceSub, Array.replicate_succ, Array.replicate_zero, List.push_toArray, List.append_toArray, List.nil_append, List.cons_append]
  gi_wp2_with (first
    | (gi_at_call 26; refine (callsIn_wide.2 (gtable_any _)).mono ?_; rintro e w' ⟨bm, rfl, p1, p2, hT⟩)
    | (gi_at_call 31; refine (Tryz.maps_Keys_31 _ _).mono ?_; rintro e w' ⟨rfl, rfl⟩)
    | (gi_at_call 30; refine (Tryz.slices_Sorted_keys_30_31 bm _ _ tabR _ hT.tab (by rw [tab_size]; decide) (by rw [tab_size]; decide)).mono ?_; rintro e w' ⟨v, ss, rfl, hS, hrow, hnil, hb⟩))
  go_ret
  rw [tab_keys] at hS
  have hl : ss.length = 14 := by rw [hS.length_eq, tab_keys_len]
  rw [hl] at hrow
  have hx := hT.ext
  refine ⟨v, ss, rfl, hS, ownsRow_base_a hrow (by have := hx.size; simp; omega), hx.trans (((Ext.refl _).alloc _).trans hb)⟩
end Go.Proofs.YtlfbdodokldkhaaGreatDoor
namespace Go.Proofs.YtlfbdodokldkhaaGreatDoor
open Go.RowKit NM
theorem floor_self {m e : Int} (h : Rt m e) (he : 0 ≤ e) : floorS m e = (m, e) := by
  unfold floorS
  rw [if_neg (fun h' => h' h), if_pos he]
theorem int_whole {n : Int} (h : n.natAbs < T 15) : intS (wholeN n).1 (wholeN n).2 = some n := by
  obtain ⟨h1, h2, h3, h4, h5⟩ := wholex h
  generalize wholeN n = p at *
  obtain ⟨m, e⟩ := p
  simp only at *
  have hH := HX_pos
  have hq : m * (T e.toNat : Nat) = n := by
    rw [sc_whole h5, sc_whole (m := n) (e := 0) (by omega)] at h3
    have h6 := Int.eq_of_mul_eq_mul_right (by omega) h3
    rw [h6]
    show n * ((T 0 : Nat) : Int) = n
    simp [T]
  have hT15 : T 15 = 1000000000000000 := by decide
  rw [hT15] at h
  unfold intS
  rw [if_neg (by rintro (h | h); exact h h2; omega), int_go _ _ (by rw [hq]; omega), hq]
theorem whole_cnt {n : Int} (h : n.natAbs < T 15) : wholeO (cntV n) = (n, 0) := by
  obtain ⟨h1, h2, h3, h4, h5⟩ := wholex h
  have hi := int_whole h
  have h6 : tnF (cntV n) = 0 := rfl
  have h7 : tnP (cntV n) = ((wholeN n).1, (wholeN n).2) := rfl
  unfold wholeO
  rw [if_pos h6, h7]
  simp only
  rw [floor_self h2 h5]
  simp only
  rw [hi]
  rfl
end Go.Proofs.YtlfbdodokldkhaaGreatDoor
namespace Go.Proofs.YtlfbdodokldkhaaGreatDoor
open Go.RowKit NM
set_option maxHeartbeats 1000000 in
theorem gcall_no (s : ByteArray) (hs : s.size ≤ maxLen) (hl : ∀ p1 p2, tabAt (farrayL p1 p2) s.data.toList = none) (A : Option Addr) (n cap : Nat) (w : World) :
    Calls Tryz.prog 15 #[.string s, .slice A n cap] w fun e w' => e = .returned (.tuple #[AV 0 0 (.slice none 0 0), .bool false]) ∧ Ext w w' := by
  go_enter Tryz.func15, Tryz.ntmps15
  go_wp2_with (first | (go_at_call 26; (with_reducible refine (gtable_any _).mono ?_); rintro e w' ⟨bm, rfl, p1, p2, hT⟩; have hxT := hT.ext; have ht := hl p1 p2; have HT := Lib.hid ht; clear ht; obtain ⟨os1, d1, rfl⟩ := hxT.more) | (refine wpL_look rfl _ _ _ rfl 9 51 Tryz.underlying9 Tryz.underlying53 _ _ rfl (hT.tab.ext (by repeat (first | (with_reducible (first | exact Ext.refl _ | exact ext_app _ _ _ _ _ | exact ext_app2 _ _ _ _ _ _)) | ((with_reducible refine ext_suffix ⟨_, ?_⟩); (try simp only [Array.append_assoc]); rfl) | (with_reducible (first | apply Ext.drew | apply Ext.alloc | apply Ext.more_))))) (gfarray_pair _ _) _ (zero_gfn _) _ rfl hs (.agg #[.int .i64 0, .int .i64 0, .nilFunc]) false (by rw [HT.out]; rfl) (by rw [HT.out]; rfl) ?_))
  exact bodyPost_ret (v := .tuple #[AV 0 0 (.slice none 0 0), .bool false]) (by simp [results, Tryz.results15, go_sem]) rfl ⟨rfl, by repeat (first | (with_reducible (first | exact Ext.refl _ | exact ext_app _ _ _ _ _ | exact ext_app2 _ _ _ _ _ _)) | ((with_reducible refine ext_suffix ⟨_, ?_⟩); (try simp only [Array.append_assoc]); rfl) | (with_reducible (first | apply Ext.drew | apply Ext.alloc | apply Ext.more_)))⟩
def numK (k : Int) : Val := ⟨1, k, 0, ⟨#[]⟩, false, 0⟩
theorem rt_2 : Rt 2 0 := Or.inr ⟨by decide, by decide, by decide, by decide, by have h := (nd_le_iff 2 1).2 (by decide); show ((nd 2 : Nat) : Int) + 0 ≤ 40; omega⟩
theorem rt_3 : Rt 3 0 := Or.inr ⟨by decide, by decide, by decide, by decide, by have h := (nd_le_iff 3 1).2 (by decide); show ((nd 3 : Nat) : Int) + 0 ≤ 40; omega⟩
theorem rt_4 : Rt 4 0 := Or.inr ⟨by decide, by decide, by decide, by decide, by have h := (nd_le_iff 4 1).2 (by decide); show ((nd 4 : Nat) : Int) + 0 ≤ 40; omega⟩
theorem add_1 : addS 1 0 1 0 = some (2, 0) := by
  unfold addS; rw [if_pos ⟨rt_one, rt_one⟩]; exact rnd_of_right false rt_2
theorem add_2 : addS 2 0 1 0 = some (3, 0) := by
  unfold addS; rw [if_pos ⟨rt_2, rt_one⟩]; exact rnd_of_right false rt_3
theorem add_3 : addS 3 0 1 0 = some (4, 0) := by
  unfold addS; rw [if_pos ⟨rt_3, rt_one⟩]; exact rnd_of_right false rt_4
theorem seq_4 : seqS (1, 0) (1, 0) 3 = some ([numK 1, numK 2, numK 3, numK 4], (4, 0)) := by
  simp only [seqS, add_1, add_2, add_3]; rfl
theorem cnt_3 : cntV 3 = numK 3 := by
  have h : wholeN 3 = (3, 0) := by
    have : rndI 3 0 = some (3, 0) := rnd_of_right false rt_3
    unfold wholeN; rw [this]; rfl
  unfold cntV; rw [h]; rfl
theorem given_one {y : Val} (h : y.kind = 1) (D : Option Addr) (m c : Nat) (xs : List Ar) (k : Nat) (hk : xs[k]? = some (arAt (oneA y) D m c)) : givenB xs k = true ∧ argV xs k = y := by
  have hv : getV (arAt (oneA y) D m c).x.l 0 = y := rfl
  constructor
  · unfold givenB; rw [hk]; simp only; rw [hv, h]; rfl
  · unfold argV; rw [hk]; exact hv
theorem seq_22 (D1 D2 : Option Addr) (m1 c1 m2 c2 : Nat) : sequenceO [arAt (oneA (cntV 2)) D1 m1 c1, arAt (oneA (cntV 2)) D2 m2 c2] = ⟨2, 2, [numK 1, numK 2, numK 3, numK 4]⟩ := by
  obtain ⟨g0, a0⟩ := given_one (y := cntV 2) rfl D1 m1 c1 [arAt (oneA (cntV 2)) D1 m1 c1, arAt (oneA (cntV 2)) D2 m2 c2] 0 rfl
  obtain ⟨g1, a1⟩ := given_one (y := cntV 2) rfl D2 m2 c2 [arAt (oneA (cntV 2)) D1 m1 c1, arAt (oneA (cntV 2)) D2 m2 c2] 1 rfl
  have hw : wholeO (cntV 2) = (2, 0) := whole_cnt (n := 2) (by decide)
  unfold sequenceO numO tnO
  rw [g0, g1, a0, a1, hw]
  rw [show givenB [arAt (oneA (cntV 2)) D1 m1 c1, arAt (oneA (cntV 2)) D2 m2 c2] 2 = false from rfl, show givenB [arAt (oneA (cntV 2)) D1 m1 c1, arAt (oneA (cntV 2)) D2 m2 c2] 3 = false from rfl]
  simp only [if_true, Bool.false_eq_true, if_false]
  unfold seqT
  simp only [ne_eq, not_true, if_false]
  rw [if_neg (by decide), if_neg (by decide)]
  rw [show (2 : Int).toNat * (2 : Int).toNat - 1 = 3 from rfl, seq_4]
  rfl
def awL : List Val := [numK 1, numK 2, numK 3, numK 4]
theorem aw_right : NA.right ⟨2, 2, awL⟩ := by
  refine rightA_nat.2 ⟨by decide, by decide, by decide, rfl, fun x hx => ?_⟩
  simp only [awL, List.mem_cons, List.not_mem_nil, or_false] at hx
  rcases hx with rfl | rfl | rfl | rfl
  · exact right_num rt_one
  · exact right_num rt_2
  · exact right_num rt_3
  · exact right_num rt_4
theorem aw_turn (D : Option Addr) (m c : Nat) : turnO [arAt ⟨2, 2, awL⟩ D m c] = ⟨2, 2, [numK 1, numK 3, numK 2, numK 4]⟩ := by
  show (⟨2, 2, turnL 2 2 awL⟩ : NA) = _
  rw [show turnL 2 2 awL = [numK 1, numK 3, numK 2, numK 4] by simp [turnL, vals, awL, getV, List.range, List.range.loop]]
theorem call_seq22 (A : Option Addr) (w : World) (htab : Tab w) (D1 D2 : Option Addr) (m1 c1 m2 c2 : Nat) (h : ArgsIn w A 2 2 [arAt (oneA (cntV 2)) D1 m1 c1, arAt (oneA (cntV 2)) D2 m2 c2]) :
    Calls Tryz.prog 15 #[.string ⟨#[83, 69, 81, 85, 69, 78, 67, 69]⟩, .slice A 2 2] w (CallG w ⟨2, 2, awL⟩) := by
  have hc := pcall_sequence A 2 2 _ w htab h.toG
  rw [arsOf_toG, callX_in _ (by simp) (by simp) (fun a ha => (h.all a ha).right), seq_22] at hc
  exact hc
theorem call_turn4 (A : Option Addr) (w : World) (htab : Tab w) (D1 : Option Addr) (m1 c1 : Nat) (h : ArgsIn w A 1 1 [arAt ⟨2, 2, awL⟩ D1 m1 c1]) :
    Calls Tryz.prog 15 #[.string ⟨#[84, 82, 65, 78, 83, 80, 79, 83, 69]⟩, .slice A 1 1] w (CallG w ⟨2, 2, [numK 1, numK 3, numK 2, numK 4]⟩) := by
  have hc := pcall_transpose A 1 1 _ w htab h.toG
  rw [arsOf_toG, callX_in _ (by simp) (by simp) (fun a ha => (h.all a ha).right), aw_turn] at hc
  exact hc
theorem num15_three (W : World) : Calls Tryz.prog 16 #[.int .i64 3] W fun e w' => ∃ b9 off9 c9, e = .returned (AV 1 1 (.slice (some ⟨b9, off9, none⟩) 1 c9)) ∧ ValAt w' b9 off9 (numK 3) ∧ 1 ≤ c9 ∧ Ext W w' := by
  have h := num15_any 3 W (by decide)
  rw [cnt_3] at h
  refine h.mono ?_
  rintro e w' ⟨D, m, c, rfl, hN, hb⟩
  have hA := hN.arr
  obtain rfl : 1 = m := hA.len
  obtain ⟨x, b, off, hx, _, rfl, hv⟩ := hA.at (k := 0) (by decide)
  obtain rfl : numK 3 = x := by simpa [oneA] using hx
  rw [Nat.zero_mul, Nat.add_zero] at hv
  exact ⟨b, off, c, rfl, hv, hA.cap, hb⟩
set_option maxHeartbeats 4000000 in
theorem awake15_any (w : World) (htab : Tab w) :
    Calls Tryz.prog 11 #[] w fun e w' => e = .returned (.bool true) ∧ Ext w w' := by
  have h2 := fun W => num15_any 2 W (by decide)
  have r2 := one_right_ (cnt_right15 (n := 2) (by decide))
  have hq := fun W A hT D1 D2 m1 c1 m2 c2 h => call_seq22 A W hT D1 D2 m1 c1 m2 c2 h
  generalize cntV 2 = y2 at *
  have HT := Lib.hid htab
  clear htab
  go_enter Tryz.func11, Tryz.ntmps11
  go_wp2_with fail
  (go_at_call 16; (with_reducible refine (h2 _).mono ?_); rintro e w' ⟨D1, m1, c1, rfl, hN1, hb⟩; obtain ⟨os1, d1, rfl⟩ := hb.more; clear hb; have hA1 := hN1.arr; (try simp only [more_more, Array.append_assoc] at hA1))
  go_wp2_with fail
  (go_at_call 16; (with_reducible refine (h2 _).mono ?_); rintro e w' ⟨D2, m2, c2, rfl, hN2, hb⟩; obtain ⟨os2, d2, rfl⟩ := hb.more; clear hb; have hA2 := hN2.arr; (try simp only [more_more, Array.append_assoc] at hA2))
  go_wp2_with fail
  refine (hq _ _ (HT.out.ext (by repeat (first | (with_reducible (first | exact Ext.refl _ | exact ext_app _ _ _ _ _ | exact ext_app2 _ _ _ _ _ _)) | ((with_reducible refine ext_suffix ⟨_, ?_⟩); (try simp only [Array.append_assoc]); rfl) | (with_reducible (first | apply Ext.drew | apply Ext.alloc | apply Ext.more_))))) D1 D2 m1 c1 m2 c2 (argsG_new _ (by simp) rfl rfl (by decide) (by intro a ha; simp only [List.mem_cons, List.not_mem_nil, or_false] at ha; rcases ha with rfl | rfl; exact ⟨hA1.ext (by repeat (first | (with_reducible (first | exact Ext.refl _ | exact ext_app _ _ _ _ _ | exact ext_app2 _ _ _ _ _ _)) | ((with_reducible refine ext_suffix ⟨_, ?_⟩); (try simp only [Array.append_assoc]); rfl) | (with_reducible (first | apply Ext.drew | apply Ext.alloc | apply Ext.more_)))), r2⟩; exact ⟨hA2.ext (by repeat (first | (with_reducible (first | exact Ext.refl _ | exact ext_app _ _ _ _ _ | exact ext_app2 _ _ _ _ _ _)) | ((with_reducible refine ext_suffix ⟨_, ?_⟩); (try simp only [Array.append_assoc]); rfl) | (with_reducible (first | apply Ext.drew | apply Ext.alloc | apply Ext.more_)))), r2⟩))).mono ?_
  rintro e w' ⟨D4, m4, c4, rfl, hN4, hb⟩
  obtain ⟨os4, d4, rfl⟩ := hb.more
  clear hb
  have hA4 := hN4.arr
  (try simp only [more_more, Array.append_assoc] at hA4)
  have hm4 := hA4.len
  obtain rfl : 4 = m4 := hm4
  clear hN4 hA1 hA2 hN1 hN2
  go_wp2_with fail
  refine (call_turn4 _ _ (HT.out.ext (by repeat (first | (with_reducible (first | exact Ext.refl _ | exact ext_app _ _ _ _ _ | exact ext_app2 _ _ _ _ _ _)) | ((with_reducible refine ext_suffix ⟨_, ?_⟩); (try simp only [Array.append_assoc]); rfl) | (with_reducible (first | apply Ext.drew | apply Ext.alloc | apply Ext.more_))))) D4 4 c4 (argsG_new _ (by simp) rfl rfl (by decide) (by intro a ha; obtain rfl := List.mem_singleton.1 ha; exact ⟨hA4.ext (by repeat (first | (with_reducible (first | exact Ext.refl _ | exact ext_app _ _ _ _ _ | exact ext_app2 _ _ _ _ _ _)) | ((with_reducible refine ext_suffix ⟨_, ?_⟩); (try simp only [Array.append_assoc]); rfl) | (with_reducible (first | apply Ext.drew | apply Ext.alloc | apply Ext.more_)))), aw_right⟩))).mono ?_
  rintro e w' ⟨D5, m5, c5, rfl, hN5, hb⟩
  obtain ⟨os5, d5, rfl⟩ := hb.more
  clear hb
  have hA5 := hN5.arr
  (try simp only [more_more, Array.append_assoc] at hA5)
  have hm5 := hA5.len
  obtain rfl : 4 = m5 := hm5
  clear hN5
  go_wp2_with fail
  refine (gcall_no ⟨#[83, 85, 77]⟩ (by decide) (fun _ _ => rfl) _ _ _ _).mono ?_
  rintro e w' ⟨rfl, hb⟩
  obtain ⟨os6, d6, rfl⟩ := hb.more
  clear hb
  go_upto_region 4 with fail
  refine wp_world fun W0 hW0 => ?_
  have hx0 : Ext w W0 := by rw [hW0]; exact (by repeat (first | (with_reducible (first | exact Ext.refl _ | exact ext_app _ _ _ _ _ | exact ext_app2 _ _ _ _ _ _)) | ((with_reducible refine ext_suffix ⟨_, ?_⟩); (try simp only [Array.append_assoc]); rfl) | (with_reducible (first | apply Ext.drew | apply Ext.alloc | apply Ext.more_))))
  have hA0 : ArrIn W0 D5 4 c5 [numK 1, numK 3, numK 2, numK 4] := by rw [hW0]; exact hA5.ext (by repeat (first | (with_reducible (first | exact Ext.refl _ | exact ext_app _ _ _ _ _ | exact ext_app2 _ _ _ _ _ _)) | ((with_reducible refine ext_suffix ⟨_, ?_⟩); (try simp only [Array.append_assoc]); rfl) | (with_reducible (first | apply Ext.drew | apply Ext.alloc | apply Ext.more_))))
  have a2 : W0.cell? ⟨w.heap.size + (os1.size + os2.size) + 1 + os4.size, 2, none⟩ = some (.slice D4 4 c4) := by rw [hW0]; go_simp
  have b2 : W0.cell? ⟨w.heap.size + (os1.size + os2.size) + 1 + os4.size + 1 + 1 + os5.size, 2, none⟩ = some (.slice D5 4 c5) := by rw [hW0]; go_simp
  have hla := lt_of_cell a2
  have hlb := lt_of_cell b2
  clear hW0 hA4 hA5
  generalize w.heap.size + (os1.size + os2.size) + 1 + os4.size + 1 + 1 + os5.size = pb at *
  generalize w.heap.size + (os1.size + os2.size) + 1 + os4.size = pa at *
  obtain ⟨x5, b5, off5, hx5, _, rfl, ⟨y0, y1, y2', y3, y4, y5⟩⟩ := hA0.at (k := 1) (by decide)
  obtain rfl : numK 3 = x5 := by simpa using hx5
  have hl5 := lt_of_cell y0
  have hc5 := hA0.cap
  clear hA0 hx5
  simp only [numK] at y0 y1 y2' y3 y4 y5
  refine wp_plan (S := Ext _) [(0, 0), (1, 0), (2, 0), (3, 0), (4, 0), (5, 0), (6, 0), (7, 0), (8, 0), (9, 0), (10, 0), (11, 0), (12, 0), (13, 0), (14, 0), (15, 0), (16, 0), (17, 0), (18, 0), (19, 0), (20, 0), (21, 0), (22, 0), (23, 0), (24, 0), (25, 1), (26, 0), (27, 0), (28, 1), (29, 0), (30, 0), (31, 0), (32, 1), (33, 0), (34, 0), (35, 0), (36, 0)] [] (by kernel_rfl) (by kernel_rfl) (by kernel_rfl) (fun _ _ d _ _ h => by cases d <;> exact h) (Ext.drew (Ext.refl _)) ?_
  iterate 2 ((refine wpPl_read (v := ?_) rfl ?_ (fun _ h => ?_) ?_; rotate_left 1; rfl; (obtain ⟨_, _, rfl⟩ := h.more; go_simp; try rfl)); try simp only [Act.put, zqA, zqB, zqC])
  first | (refine wpPl_skip rfl rfl ?_) | (refine wpPl_read (v := ?_) rfl ?_ (fun w1 h1 => ?_) ?_; rotate_left 1; rfl; (obtain ⟨os1, d1, rfl⟩ := h1.more; go_simp; first | done | rfl)) | (refine wpPl_gread (v := ?_) (c := ?_) rfl rfl rfl rfl ?_ (fun hc w1 h1 => ?_) ?_; rotate_left 2; (first | exact gc_t _ | exact gc_f _ | exact gc_gt _ _ | exact gc_gf _ _); (obtain ⟨os1, d1, rfl⟩ := h1.more; (try simp only [gv_of hc]); (try (have hc1 := and_l hc; (try simp only [gv_of hc1]); (try (have hc2 := and_l hc1; (try simp only [gv_of hc2]))))); go_simp; first | done | rfl))
  try simp only [Act.put, zqA, zqB, zqC]
  first | (refine wpPl_pick_and rfl rfl rfl rfl rfl rfl ?_) | (refine wpPl_pick_or rfl rfl rfl rfl rfl rfl ?_) | (refine wpPl_read (v := ?_) rfl ?_ (fun w1 h1 => ?_) ?_; rotate_left 1; rfl; (obtain ⟨os1, d1, rfl⟩ := h1.more; go_simp; first | done | rfl))
  try simp only [Act.put, zqA, zqB, zqC]
  (refine wpPl_read (v := ?_) rfl ?_ (fun _ h => ?_) ?_; rotate_left 1; rfl; (obtain ⟨_, _, rfl⟩ := h.more; go_simp; try rfl))
  try simp only [Act.put, zqA, zqB, zqC]
  iterate 2 ((first | (refine wpPl_skip rfl rfl ?_) | (refine wpPl_read (v := ?_) rfl ?_ (fun w1 h1 => ?_) ?_; rotate_left 1; rfl; (obtain ⟨os1, d1, rfl⟩ := h1.more; go_simp; first | done | rfl)) | (refine wpPl_gread (v := ?_) (c := ?_) rfl rfl rfl rfl ?_ (fun hc w1 h1 => ?_) ?_; rotate_left 2; (first | exact gc_t _ | exact gc_f _ | exact gc_gt _ _ | exact gc_gf _ _); (obtain ⟨os1, d1, rfl⟩ := h1.more; (try simp only [gv_of hc]); (try (have hc1 := and_l hc; (try simp only [gv_of hc1]); (try (have hc2 := and_l hc1; (try simp only [gv_of hc2]))))); go_simp; first | done | rfl))); try simp only [Act.put, zqA, zqB, zqC])
  first | (refine wpPl_pick_and rfl rfl rfl rfl rfl rfl ?_) | (refine wpPl_pick_or rfl rfl rfl rfl rfl rfl ?_) | (refine wpPl_read (v := ?_) rfl ?_ (fun w1 h1 => ?_) ?_; rotate_left 1; rfl; (obtain ⟨os1, d1, rfl⟩ := h1.more; go_simp; first | done | rfl))
  try simp only [Act.put, zqA, zqB, zqC]
  (refine wpPl_read (v := ?_) rfl ?_ (fun _ h => ?_) ?_; rotate_left 1; rfl; (obtain ⟨_, _, rfl⟩ := h.more; go_simp; try rfl))
  try simp only [Act.put, zqA, zqB, zqC]
  iterate 4 ((first | (refine wpPl_skip rfl rfl ?_) | (refine wpPl_read (v := ?_) rfl ?_ (fun w1 h1 => ?_) ?_; rotate_left 1; rfl; (obtain ⟨os1, d1, rfl⟩ := h1.more; go_simp; first | done | rfl)) | (refine wpPl_gread (v := ?_) (c := ?_) rfl rfl rfl rfl ?_ (fun hc w1 h1 => ?_) ?_; rotate_left 2; (first | exact gc_t _ | exact gc_f _ | exact gc_gt _ _ | exact gc_gf _ _); (obtain ⟨os1, d1, rfl⟩ := h1.more; (try simp only [gv_of hc]); (try (have hc1 := and_l hc; (try simp only [gv_of hc1]); (try (have hc2 := and_l hc1; (try simp only [gv_of hc2]))))); go_simp; first | done | rfl))); try simp only [Act.put, zqA, zqB, zqC])
  first | (refine wpPl_pick_and rfl rfl rfl rfl rfl rfl ?_) | (refine wpPl_pick_or rfl rfl rfl rfl rfl rfl ?_) | (refine wpPl_read (v := ?_) rfl ?_ (fun w1 h1 => ?_) ?_; rotate_left 1; rfl; (obtain ⟨os1, d1, rfl⟩ := h1.more; go_simp; first | done | rfl))
  try simp only [Act.put, zqA, zqB, zqC]
  (refine wpPl_read (v := ?_) rfl ?_ (fun _ h => ?_) ?_; rotate_left 1; rfl; (obtain ⟨_, _, rfl⟩ := h.more; go_simp; try rfl))
  try simp only [Act.put, zqA, zqB, zqC]
  iterate 4 ((first | (refine wpPl_skip rfl rfl ?_) | (refine wpPl_read (v := ?_) rfl ?_ (fun w1 h1 => ?_) ?_; rotate_left 1; rfl; (obtain ⟨os1, d1, rfl⟩ := h1.more; go_simp; first | done | rfl)) | (refine wpPl_gread (v := ?_) (c := ?_) rfl rfl rfl rfl ?_ (fun hc w1 h1 => ?_) ?_; rotate_left 2; (first | exact gc_t _ | exact gc_f _ | exact gc_gt _ _ | exact gc_gf _ _); (obtain ⟨os1, d1, rfl⟩ := h1.more; (try simp only [gv_of hc]); (try (have hc1 := and_l hc; (try simp only [gv_of hc1]); (try (have hc2 := and_l hc1; (try simp only [gv_of hc2]))))); go_simp; first | done | rfl))); try simp only [Act.put, zqA, zqB, zqC])
  first | (refine wpPl_pick_and rfl rfl rfl rfl rfl rfl ?_) | (refine wpPl_pick_or rfl rfl rfl rfl rfl rfl ?_) | (refine wpPl_read (v := ?_) rfl ?_ (fun w1 h1 => ?_) ?_; rotate_left 1; rfl; (obtain ⟨os1, d1, rfl⟩ := h1.more; go_simp; first | done | rfl))
  try simp only [Act.put, zqA, zqB, zqC]
  (refine wpPl_read (v := ?_) rfl ?_ (fun _ h => ?_) ?_; rotate_left 1; rfl; (obtain ⟨_, _, rfl⟩ := h.more; go_simp; try rfl))
  try simp only [Act.put, zqA, zqB, zqC]
  iterate 4 ((first | (refine wpPl_skip rfl rfl ?_) | (refine wpPl_read (v := ?_) rfl ?_ (fun w1 h1 => ?_) ?_; rotate_left 1; rfl; (obtain ⟨os1, d1, rfl⟩ := h1.more; go_simp; first | done | rfl)) | (refine wpPl_gread (v := ?_) (c := ?_) rfl rfl rfl rfl ?_ (fun hc w1 h1 => ?_) ?_; rotate_left 2; (first | exact gc_t _ | exact gc_f _ | exact gc_gt _ _ | exact gc_gf _ _); (obtain ⟨os1, d1, rfl⟩ := h1.more; (try simp only [gv_of hc]); (try (have hc1 := and_l hc; (try simp only [gv_of hc1]); (try (have hc2 := and_l hc1; (try simp only [gv_of hc2]))))); go_simp; first | done | rfl))); try simp only [Act.put, zqA, zqB, zqC])
  (refine wpPl_eff rfl ?_ (fun K hK => ?_); (first | with_reducible rfl | rfl | (go_simp; done)); go_simp; refine (num15_three _).mono ?_; rintro e w' ⟨b9, off9, c9, rfl, ⟨z0, z1, z2, z3, z4, z5⟩, hc9, hb⟩; have hl9 := lt_of_cell z0; (simp only [numK] at z0 z1 z2 z3 z4 z5); obtain ⟨os9, d9, rfl⟩ := hb.more; clear hb; (try simp only [drew_more] at z0 z1 z2 z3 z4 z5); (try simp only [more_size] at hl9); refine hK _ _ ?_ ?_; (repeat (first | (with_reducible (first | exact Ext.refl _ | exact ext_d _ _ _ _ | exact ext_app _ _ _ _ _ | exact ext_app2 _ _ _ _ _ _ | exact ext_app3 _ _ _ _ _ _ _ | exact ext_app4 _ _ _ _ _ _ _ _ | exact ext_app5 _ _ _ _ _ _ _ _ _)) | ((with_reducible refine ext_suffix ⟨_, ?_⟩); (try simp only [Array.append_assoc]); rfl) | (with_reducible (first | apply Ext.drew | apply Ext.alloc | apply Ext.more_)) | apply Ext.drew | apply Ext.alloc | apply Ext.more_)))
  try simp only [Act.put, zqA, zqB, zqC]
  iterate 2 ((first | (refine wpPl_skip rfl rfl ?_) | (refine wpPl_read (v := ?_) rfl ?_ (fun w1 h1 => ?_) ?_; rotate_left 1; rfl; (obtain ⟨os1, d1, rfl⟩ := h1.more; go_simp; first | done | rfl)) | (refine wpPl_gread (v := ?_) (c := ?_) rfl rfl rfl rfl ?_ (fun hc w1 h1 => ?_) ?_; rotate_left 2; (first | exact gc_t _ | exact gc_f _ | exact gc_gt _ _ | exact gc_gf _ _); (obtain ⟨os1, d1, rfl⟩ := h1.more; (try simp only [gv_of hc]); (try (have hc1 := and_l hc; (try simp only [gv_of hc1]); (try (have hc2 := and_l hc1; (try simp only [gv_of hc2]))))); go_simp; first | done | rfl))); try simp only [Act.put, zqA, zqB, zqC])
  first | (refine wpPl_effskip rfl ?_ ?_ ?_; (first | with_reducible rfl | rfl | (go_simp; done)); (repeat (first | (with_reducible (first | exact Ext.refl _ | exact ext_d _ _ _ _ | exact ext_app _ _ _ _ _ | exact ext_app2 _ _ _ _ _ _ | exact ext_app3 _ _ _ _ _ _ _ | exact ext_app4 _ _ _ _ _ _ _ _ | exact ext_app5 _ _ _ _ _ _ _ _ _)) | ((with_reducible refine ext_suffix ⟨_, ?_⟩); (try simp only [Array.append_assoc]); rfl) | (with_reducible (first | apply Ext.drew | apply Ext.alloc | apply Ext.more_)) | apply Ext.drew | apply Ext.alloc | apply Ext.more_))) | (refine wpPl_eff rfl ?_ (fun K hK => ?_); (first | with_reducible rfl | rfl | (go_simp; done)); go_simp; refine hK _ _ ?_ ?_; (repeat (first | (with_reducible (first | exact Ext.refl _ | exact ext_d _ _ _ _ | exact ext_app _ _ _ _ _ | exact ext_app2 _ _ _ _ _ _ | exact ext_app3 _ _ _ _ _ _ _ | exact ext_app4 _ _ _ _ _ _ _ _ | exact ext_app5 _ _ _ _ _ _ _ _ _)) | ((with_reducible refine ext_suffix ⟨_, ?_⟩); (try simp only [Array.append_assoc]); rfl) | (with_reducible (first | apply Ext.drew | apply Ext.alloc | apply Ext.more_)) | apply Ext.drew | apply Ext.alloc | apply Ext.more_)))
  try simp only [Act.put, zqA, zqB, zqC]
  first | (refine wpPl_skip rfl rfl ?_) | (refine wpPl_read (v := ?_) rfl ?_ (fun w1 h1 => ?_) ?_; rotate_left 1; rfl; (obtain ⟨os1, d1, rfl⟩ := h1.more; go_simp; first | done | rfl)) | (refine wpPl_gread (v := ?_) (c := ?_) rfl rfl rfl rfl ?_ (fun hc w1 h1 => ?_) ?_; rotate_left 2; (first | exact gc_t _ | exact gc_f _ | exact gc_gt _ _ | exact gc_gf _ _); (obtain ⟨os1, d1, rfl⟩ := h1.more; (try simp only [gv_of hc]); (try (have hc1 := and_l hc; (try simp only [gv_of hc1]); (try (have hc2 := and_l hc1; (try simp only [gv_of hc2]))))); go_simp; first | done | rfl))
  try simp only [Act.put, zqA, zqB, zqC]
  first | (refine wpPl_pick_and rfl rfl rfl rfl rfl rfl ?_) | (refine wpPl_pick_or rfl rfl rfl rfl rfl rfl ?_) | (refine wpPl_read (v := ?_) rfl ?_ (fun w1 h1 => ?_) ?_; rotate_left 1; rfl; (obtain ⟨os1, d1, rfl⟩ := h1.more; go_simp; first | done | rfl))
  try simp only [Act.put, zqA, zqB, zqC]
  (refine wpPl_read (v := ?_) rfl ?_ (fun _ h => ?_) ?_; rotate_left 1; rfl; (obtain ⟨_, _, rfl⟩ := h.more; go_simp; try rfl))
  try simp only [Act.put, zqA, zqB, zqC]
  (refine wpPl_eff rfl ?_ (fun K hK => ?_); (first | with_reducible rfl | rfl | (go_simp; done)); go_simp; refine (gnames_any _).mono ?_; rintro e w' ⟨v, ss, rfl, hS, hrow, hb⟩; obtain ⟨A10, c10, rfl⟩ := own_slice hrow; obtain ⟨os10, d10, rfl⟩ := hb.more; clear hb hrow hS; refine hK _ _ ?_ ?_; (repeat (first | (with_reducible (first | exact Ext.refl _ | exact ext_d _ _ _ _ | exact ext_app _ _ _ _ _ | exact ext_app2 _ _ _ _ _ _ | exact ext_app3 _ _ _ _ _ _ _ | exact ext_app4 _ _ _ _ _ _ _ _ | exact ext_app5 _ _ _ _ _ _ _ _ _)) | ((with_reducible refine ext_suffix ⟨_, ?_⟩); (try simp only [Array.append_assoc]); rfl) | (with_reducible (first | apply Ext.drew | apply Ext.alloc | apply Ext.more_)) | apply Ext.drew | apply Ext.alloc | apply Ext.more_)))
  try simp only [Act.put, zqA, zqB, zqC]
  iterate 2 ((first | (refine wpPl_skip rfl rfl ?_) | (refine wpPl_read (v := ?_) rfl ?_ (fun w1 h1 => ?_) ?_; rotate_left 1; rfl; (obtain ⟨os1, d1, rfl⟩ := h1.more; go_simp; first | done | rfl)) | (refine wpPl_gread (v := ?_) (c := ?_) rfl rfl rfl rfl ?_ (fun hc w1 h1 => ?_) ?_; rotate_left 2; (first | exact gc_t _ | exact gc_f _ | exact gc_gt _ _ | exact gc_gf _ _); (obtain ⟨os1, d1, rfl⟩ := h1.more; (try simp only [gv_of hc]); (try (have hc1 := and_l hc; (try simp only [gv_of hc1]); (try (have hc2 := and_l hc1; (try simp only [gv_of hc2]))))); go_simp; first | done | rfl))); try simp only [Act.put, zqA, zqB, zqC])
  first | (refine wpPl_pick_and rfl rfl rfl rfl rfl rfl ?_) | (refine wpPl_pick_or rfl rfl rfl rfl rfl rfl ?_) | (refine wpPl_read (v := ?_) rfl ?_ (fun w1 h1 => ?_) ?_; rotate_left 1; rfl; (obtain ⟨os1, d1, rfl⟩ := h1.more; go_simp; first | done | rfl))
  try simp only [Act.put, zqA, zqB, zqC]
  (refine wpPl_read (v := ?_) rfl ?_ (fun _ h => ?_) ?_; rotate_left 1; rfl; (obtain ⟨_, _, rfl⟩ := h.more; go_simp; try rfl))
  try simp only [Act.put, zqA, zqB]
  refine wpPl_nil ?_
  go_wp2_with fail
  go_ret
  exact ⟨rfl, hx0.trans (by repeat (first | (with_reducible (first | exact Ext.refl _ | exact ext_app _ _ _ _ _ | exact ext_app2 _ _ _ _ _ _)) | ((with_reducible refine ext_suffix ⟨_, ?_⟩); (try simp only [Array.append_assoc]); rfl) | (with_reducible (first | apply Ext.drew | apply Ext.alloc | apply Ext.more_))))⟩
end Go.Proofs.YtlfbdodokldkhaaGreatDoor
namespace Go.Proofs.YtlfbdodokldkhaaGreatDoor
open Go.RowKit NM
set_option maxHeartbeats 4000000 in
theorem farrayShapes_any (A : Option Addr) (n cap : Nat) (gs : List GA) (w : World) (htab : Tab w) (h : ArgsG w A n cap gs) :
    Calls Tryz.prog 3 #[.slice A n cap] w fun e w' => e = .returned (.bool true) ∧ Ext w w' := by
  have HT := Lib.hid htab
  have H := Lib.hid h
  clear htab h
  go_enter Tryz.func3, Tryz.ntmps3
  go_upto_region 5 with (first | (go_at_call 11; (with_reducible refine (awake15_any _ (HT.out.ext (by with_reducible repeat (first | exact Ext.refl _ | apply Ext.drew | apply Ext.alloc | apply Ext.more_)))).mono ?_); rintro e w' ⟨rfl, hb⟩; obtain ⟨osw, dw, rfl⟩ := hb.more; clear hb) | (go_at_call 12; (with_reducible refine (small15_any _ _ _ _ _ (H.out.ext (by with_reducible repeat (first | exact Ext.refl _ | apply Ext.drew | apply Ext.alloc | apply Ext.more_)))).mono ?_); rintro e w' ⟨s, rfl, hs, hb⟩; obtain ⟨oss, ds, rfl⟩ := hb.more; clear hb; rcases hs with rfl | rfl))
  · go_ret
    exact ⟨rfl, by with_reducible repeat (first | exact Ext.refl _ | apply Ext.drew | apply Ext.alloc | apply Ext.more_)⟩
  · go_wp2_with fail
    refine wp_loop_rounds 8 ?_
    rw [rounds_succ]
    go_wp2_with (go_at_call 13; (with_reducible refine (shape_rows _ _ _ _ _ (HT.out.ext (by with_reducible repeat (first | exact Ext.refl _ | apply Ext.drew | apply Ext.alloc | apply Ext.more_))) (H.out.ext (by with_reducible repeat (first | exact Ext.refl _ | apply Ext.drew | apply Ext.alloc | apply Ext.more_)))).mono ?_); rintro e w' ⟨rfl, hb⟩; obtain ⟨os1, d1, rfl⟩ := hb.more; clear hb)
    rw [rounds_succ]
    go_wp2_with (go_at_call 13; (with_reducible refine (shape_columns _ _ _ _ _ (HT.out.ext (by with_reducible repeat (first | exact Ext.refl _ | apply Ext.drew | apply Ext.alloc | apply Ext.more_))) (H.out.ext (by with_reducible repeat (first | exact Ext.refl _ | apply Ext.drew | apply Ext.alloc | apply Ext.more_)))).mono ?_); rintro e w' ⟨rfl, hb⟩; obtain ⟨os2, d2, rfl⟩ := hb.more; clear hb)
    rw [rounds_succ]
    go_wp2_with (go_at_call 13; (with_reducible refine (shape_transpose _ _ _ _ _ (HT.out.ext (by with_reducible repeat (first | exact Ext.refl _ | apply Ext.drew | apply Ext.alloc | apply Ext.more_))) (H.out.ext (by with_reducible repeat (first | exact Ext.refl _ | apply Ext.drew | apply Ext.alloc | apply Ext.more_)))).mono ?_); rintro e w' ⟨rfl, hb⟩; obtain ⟨os3, d3, rfl⟩ := hb.more; clear hb)
    rw [rounds_succ]
    go_wp2_with (go_at_call 13; (with_reducible refine (shape_torow _ _ _ _ _ (HT.out.ext (by with_reducible repeat (first | exact Ext.refl _ | apply Ext.drew | apply Ext.alloc | apply Ext.more_))) (H.out.ext (by with_reducible repeat (first | exact Ext.refl _ | apply Ext.drew | apply Ext.alloc | apply Ext.more_)))).mono ?_); rintro e w' ⟨rfl, hb⟩; obtain ⟨os4, d4, rfl⟩ := hb.more; clear hb)
    rw [rounds_succ]
    go_wp2_with (go_at_call 13; (with_reducible refine (shape_tocol _ _ _ _ _ (HT.out.ext (by with_reducible repeat (first | exact Ext.refl _ | apply Ext.drew | apply Ext.alloc | apply Ext.more_))) (H.out.ext (by with_reducible repeat (first | exact Ext.refl _ | apply Ext.drew | apply Ext.alloc | apply Ext.more_)))).mono ?_); rintro e w' ⟨rfl, hb⟩; obtain ⟨os5, d5, rfl⟩ := hb.more; clear hb)
    rw [rounds_succ]
    go_wp2_with (go_at_call 13; (with_reducible refine (shape_hstack _ _ _ _ _ (HT.out.ext (by with_reducible repeat (first | exact Ext.refl _ | apply Ext.drew | apply Ext.alloc | apply Ext.more_))) (H.out.ext (by with_reducible repeat (first | exact Ext.refl _ | apply Ext.drew | apply Ext.alloc | apply Ext.more_)))).mono ?_); rintro e w' ⟨rfl, hb⟩; obtain ⟨os6, d6, rfl⟩ := hb.more; clear hb)
    rw [rounds_succ]
    go_wp2_with (go_at_call 13; (with_reducible refine (shape_vstack _ _ _ _ _ (HT.out.ext (by with_reducible repeat (first | exact Ext.refl _ | apply Ext.drew | apply Ext.alloc | apply Ext.more_))) (H.out.ext (by with_reducible repeat (first | exact Ext.refl _ | apply Ext.drew | apply Ext.alloc | apply Ext.more_)))).mono ?_); rintro e w' ⟨rfl, hb⟩; obtain ⟨os7, d7, rfl⟩ := hb.more; clear hb)
    rw [rounds_succ]
    go_wp2_with fail
    go_ret
    exact ⟨rfl, by with_reducible repeat (first | exact Ext.refl _ | apply Ext.drew | apply Ext.alloc | apply Ext.more_)⟩
end Go.Proofs.YtlfbdodokldkhaaGreatDoor
namespace Go.Proofs.YtlfbdodokldkhaaGreatDoor
open Go.ChangeShapes Go.WideShapes Go.ChangeAt Go.RowKit Go.Deep
theorem own : ownKnob Tryz.prog.godebug = none := by kernel_rfl
theorem laidOut : laidOutB Tryz.prog = true := by kernel_rfl
theorem cells_num : Tryz.prog.cellsOf 37 = 2 := by kernel_rfl
theorem cells_int : Tryz.prog.cellsOf 3 = 1 := by kernel_rfl
/-- What all rows of this seat list. -/
def laid3 : List (String × DataW Unit) := [("math/bits.deBruijn32tab", Rows.laid_math_bits_deBruijn32tab), ("math/bits.deBruijn64tab", Rows.laid_math_bits_deBruijn64tab), ("internal/strconv.uint64pow10", Rows.laid_internal_strconv_uint64pow10)]
theorem pow10_data : (Rows.laid_internal_strconv_uint64pow10 : DataW Unit) = Lib.tabData .u64 Lib.pow10Tab := by
  unfold Rows.laid_internal_strconv_uint64pow10 Lib.tabData Lib.pow10Tab
  simp [List.range_succ]
theorem gPow : Tryz.prog.globalNamed "internal/strconv.uint64pow10" = some 3 := by kernel_rfl
theorem tPow : (Tryz.prog.globals[3]?).map (·.type) = some 197 := by kernel_rfl
theorem tab_of_laid {W : World} (h : laidMetH Tryz.prog laid3 W) : Tab W := by
  rw [MakeChecks.laidMetH_plain _ _ _ (by kernel_rfl)] at h
  obtain ⟨ps, ⟨g0, t0, cs0, f0, p0, q0, hg0, ht0, hv0, hd0, ⟨g1, t1, cs1, f1, p1, q1, hg1, ht1, hv1, hd1, ⟨g2, t2, cs2, f2, p2, q2, hg2, ht2, hv2, hd2, _, _⟩, _⟩, _⟩, _, _⟩ := h
  obtain rfl := Option.some.inj (gPow.symm.trans hg2)
  obtain rfl := Option.some.inj (tPow.symm.trans ht2)
  rw [pow10_data] at hd2
  unfold Tab Lib.TabIs
  rw [hv2, ← Lib.cells_of_tab Tryz.underlying197 Tryz.underlying41 (by kernel_rfl) (by kernel_rfl) hd2]
theorem door_met (os : Os) (args : Array Value) : laidMetH Tryz.prog laid3 ((World.doorLaid Tryz.prog 400 os).forCall (fun _ _ => 0) ⟨#[], args, []⟩).memory :=
  laidMetH_of_parts3 (fuel := 8) (laidMet_of_run' 8 (by kernel_rfl) (by kernel_rfl)) (by kernel_rfl) (by kernel_rfl)
set_option maxRecDepth 100000
section
variable {H : Type} {enc : TypeId × Value → H} {w : World} {base : Nat} {spare : Nat → Bool} {held : Bool}
theorem i64_of {n : Int} (h : (Lit.int .i64 n).wf = true) : I64 n := by
  simpa [Lit.wf, IntKind.min, IntKind.max, IntKind.signed, IntKind.bits, I64] using h
theorem trod_blocks_ {t : TypeId} {v : Value} {d : DataW H} {p : List MemPlace} (h : DataW.Trod enc Tryz.prog w base spare held t v d p) : ∀ x ∈ p, x.block < w.heap.size := by
  obtain ⟨m, hm⟩ := h
  exact DataW.trod_lt m _ _ _ hm
end
end Go.Proofs.YtlfbdodokldkhaaGreatDoor
namespace Go.Proofs.YtlfbdodokldkhaaGreatDoor
open Go.ChangeShapes Go.WideShapes Go.ChangeAt Go.RowKit Go.Deep
theorem cells_val : Tryz.prog.cellsOf 39 = 6 := by kernel_rfl
theorem cells_string : Tryz.prog.cellsOf 9 = 1 := by kernel_rfl
theorem cells_bool : Tryz.prog.cellsOf 4 = 1 := by kernel_rfl
theorem cells_arr : Tryz.prog.cellsOf 30 = 3 := by kernel_rfl
set_option maxRecDepth 100000
section
variable {H : Type} {enc : TypeId × Value → H} {w : World} {base : Nat} {spare : Nat → Bool} {held : Bool}
theorem open_num {fuel : Nat} {c1 c2 : Value} {x : DataW H × List MemPlace} (h : DataW.trod enc Tryz.prog w base spare held fuel 37 [c1, c2] = some x) : ∃ m e : Int, [c1, c2] = [.int .i64 m, .int .i64 e] ∧ I64 m ∧ I64 e := by
  obtain ⟨xs, n, rfl, _, hl, hxs, hf⟩ := DataW.trod_struct Tryz.underlying37 h
  obtain ⟨y0, hy0⟩ : ∃ y, xs[0]? = some y := ⟨_, List.getElem?_eq_getElem (by rw [hxs]; decide)⟩
  have g0 : DataW.trod enc Tryz.prog w base spare held n 3 [c1] = some y0 := by rw [← hy0]; have := hf 0 _ rfl; simpa [cells_int] using this
  obtain ⟨y1, hy1⟩ : ∃ y, xs[1]? = some y := ⟨_, List.getElem?_eq_getElem (by rw [hxs]; decide)⟩
  have g1 : DataW.trod enc Tryz.prog w base spare held n 3 [c2] = some y1 := by rw [← hy1]; have := hf 1 _ rfl; simpa [cells_int] using this
  obtain ⟨m, e0, _, w0⟩ := DataW.trod_int Tryz.underlying3 g0
  obtain ⟨e, e1, _, w1⟩ := DataW.trod_int Tryz.underlying3 g1
  simp only [List.cons.injEq, and_true] at e0 e1
  subst e0 e1
  exact ⟨m, e, rfl, i64_of w0, i64_of w1⟩
set_option maxHeartbeats 800000 in
theorem open_val {fuel : Nat} {cs : List Value} {x : DataW H × List MemPlace} (h : DataW.trod enc Tryz.prog w base spare held fuel 39 cs = some x) : ∃ y : Val, cs = y.cells ∧ y.ok := by
  obtain ⟨xs, n, rfl, _, hl, hxs, hf⟩ := DataW.trod_struct Tryz.underlying39 h
  rw [cells_val] at hl
  match cs, hl with
  | [c0, c1, c2, c3, c4, c5], _ =>
    obtain ⟨y0, hy0⟩ : ∃ y, xs[0]? = some y := ⟨_, List.getElem?_eq_getElem (by rw [hxs]; decide)⟩
    have g0 : DataW.trod enc Tryz.prog w base spare held n 3 [c0] = some y0 := by rw [← hy0]; have := hf 0 _ rfl; simpa [cells_int] using this
    obtain ⟨y1, hy1⟩ : ∃ y, xs[1]? = some y := ⟨_, List.getElem?_eq_getElem (by rw [hxs]; decide)⟩
    have g1 : DataW.trod enc Tryz.prog w base spare held n 37 [c1, c2] = some y1 := by rw [← hy1]; have := hf 1 _ rfl; simpa [cells_num] using this
    obtain ⟨y2, hy2⟩ : ∃ y, xs[2]? = some y := ⟨_, List.getElem?_eq_getElem (by rw [hxs]; decide)⟩
    have g2 : DataW.trod enc Tryz.prog w base spare held n 9 [c3] = some y2 := by rw [← hy2]; have := hf 2 _ rfl; simpa [cells_string] using this
    obtain ⟨y3, hy3⟩ : ∃ y, xs[3]? = some y := ⟨_, List.getElem?_eq_getElem (by rw [hxs]; decide)⟩
    have g3 : DataW.trod enc Tryz.prog w base spare held n 4 [c4] = some y3 := by rw [← hy3]; have := hf 3 _ rfl; simpa [cells_bool] using this
    obtain ⟨y4, hy4⟩ : ∃ y, xs[4]? = some y := ⟨_, List.getElem?_eq_getElem (by rw [hxs]; decide)⟩
    have g4 : DataW.trod enc Tryz.prog w base spare held n 3 [c5] = some y4 := by rw [← hy4]; have := hf 4 _ rfl; simpa [cells_int] using this
    obtain ⟨k, e0, _, w0⟩ := DataW.trod_int Tryz.underlying3 g0
    obtain ⟨m, ex, e1, w1, w2⟩ := open_num g1
    obtain ⟨t, e3, _, w3⟩ := DataW.trod_string Tryz.underlying9 g2
    obtain ⟨b, e4, _⟩ := DataW.trod_bool Tryz.underlying4 g3
    obtain ⟨f, e5, _, w5⟩ := DataW.trod_int Tryz.underlying3 g4
    simp only [List.cons.injEq, and_true] at e0 e1 e3 e4 e5
    obtain ⟨rfl, rfl⟩ := e1
    subst e0 e3 e4 e5
    exact ⟨⟨k, m, ex, t, b, f⟩, rfl, i64_of w0, w1, w2, w3, i64_of w5⟩
/-- A slice of values. -/
theorem open_vals {fuel : Nat} {a : Option Addr} {len cap : Nat} {x : DataW H × List MemPlace} (h : DataW.trod enc Tryz.prog w base spare held fuel 28 [.slice a len cap] = some x) : ∃ l, ArrIn w a len cap l := by
  rcases open_slice Tryz.underlying28 h with ⟨hcs, _⟩ | ⟨ad, len', cap', m, n, D, Pl, hcs, hb, hl, hm, hmm, _, hi⟩
  · simp only [List.cons.injEq, Value.slice.injEq, and_true] at hcs
    obtain ⟨rfl, rfl, rfl⟩ := hcs
    exact ⟨[], SlV.nil _ _ _, rfl, Nat.le_refl _, by omega, by simp⟩
  · simp only [List.cons.injEq, Value.slice.injEq, and_true] at hcs
    obtain ⟨rfl, rfl, rfl⟩ := hcs
    have hlm : len ≤ m := by rw [hmm]; split <;> omega
    obtain ⟨X, hX⟩ := choose_lt (α := Val) (n := len) (p := fun i y => w.cells? base (ad.add (i * 6)) 6 = some y.cells ∧ y.ok) (fun i hil => by
      obtain ⟨cs', h1, h2⟩ := hi i (by omega)
      rw [cells_val] at h1
      obtain ⟨y, rfl, hy⟩ := open_val h2
      exact ⟨y, h1, hy⟩)
    refine ⟨(List.range len).map X, ?_, by simp, hl, by simp only [maxLen] at hm; omega, ?_⟩
    · intro j u hu
      have hj : j / 6 < len := by
        have := (List.getElem?_eq_some_iff.1 hu).1
        rw [vcells_length] at this
        simp at this
        omega
      have hat := vcells_at ((List.range len).map X) (j / 6) (X (j / 6)) (by simp [hj]) (j % 6) (by omega)
      rw [show j / 6 * 6 + j % 6 = j by omega, hu] at hat
      obtain ⟨_, _, hc⟩ := World.cells?_some (hX (j / 6) hj).1
      have h6 := hc (j % 6) (by omega)
      rw [← hat, Go.Deep.add_add, show j / 6 * 6 + j % 6 = j by omega] at h6
      obtain ⟨b, off, spot⟩ := ad
      have hsp : spot = none := by
        obtain ⟨_, _, hc0⟩ := World.cells?_some (hX 0 (by omega)).1
        have h0 := hc0 0 (by omega)
        simp [Addr.add, Val.cells] at h0
        exact World.cell?_spot h0
      subst hsp
      rw [Addr.add_mid] at h6
      exact ⟨b, off, rfl, Nat.zero_le _, h6⟩
    · intro y hy
      simp only [List.mem_map, List.mem_range] at hy
      obtain ⟨i, hi', rfl⟩ := hy
      exact (hX i hi').2
end
end Go.Proofs.YtlfbdodokldkhaaGreatDoor
namespace Go.Proofs.YtlfbdodokldkhaaGreatDoor
open Go.ChangeShapes Go.WideShapes Go.ChangeAt Go.RowKit Go.Deep
variable {H : Type} {enc : TypeId × Value → H} {w : World} {base : Nat} {spare : Nat → Bool} {held : Bool}
theorem cells_slV : Tryz.prog.cellsOf 28 = 1 := by kernel_rfl
set_option maxHeartbeats 800000 in
theorem open_arrc {fuel : Nat} {cs : List Value} {x : DataW H × List MemPlace} (h : DataW.trod enc Tryz.prog w base spare held fuel 30 cs = some x) : ∃ g : GA, cs = g.cells ∧ ArrIn w g.A g.n g.cap g.l := by
  obtain ⟨xs, n, rfl, _, hl, hxs, hf⟩ := DataW.trod_struct Tryz.underlying30 h
  rw [cells_arr] at hl
  match cs, hl with
  | [c0, c1, c2], _ =>
    obtain ⟨y0, hy0⟩ : ∃ y, xs[0]? = some y := ⟨_, List.getElem?_eq_getElem (by rw [hxs]; decide)⟩
    have g0 : DataW.trod enc Tryz.prog w base spare held n 3 [c0] = some y0 := by rw [← hy0]; have := hf 0 _ rfl; simpa [cells_int] using this
    obtain ⟨y1, hy1⟩ : ∃ y, xs[1]? = some y := ⟨_, List.getElem?_eq_getElem (by rw [hxs]; decide)⟩
    have g1 : DataW.trod enc Tryz.prog w base spare held n 3 [c1] = some y1 := by rw [← hy1]; have := hf 1 _ rfl; simpa [cells_int] using this
    obtain ⟨y2, hy2⟩ : ∃ y, xs[2]? = some y := ⟨_, List.getElem?_eq_getElem (by rw [hxs]; decide)⟩
    have g2 : DataW.trod enc Tryz.prog w base spare held n 28 [c2] = some y2 := by rw [← hy2]; have := hf 2 _ rfl; simpa [cells_slV] using this
    obtain ⟨a, e0, _, w0⟩ := DataW.trod_int Tryz.underlying3 g0
    obtain ⟨c, e1, _, w1⟩ := DataW.trod_int Tryz.underlying3 g1
    obtain ⟨A, m, cap, e2⟩ := Joins.slice_form Tryz.underlying28 g2
    simp only [List.cons.injEq, and_true] at e0 e1 e2
    subst e0 e1 e2
    obtain ⟨l, hl⟩ := open_vals g2
    exact ⟨⟨a, c, A, m, cap, l⟩, rfl, hl⟩
theorem gcells_length : ∀ gs : List GA, (gcells gs).length = gs.length * 3
  | [] => rfl
  | g :: gs => by
    show (GA.cells g ++ gcells gs).length = _
    rw [List.length_append, gcells_length gs]; simp [GA.cells]; omega
theorem open_gs {fuel : Nat} {a : Option Addr} {len cap : Nat} {x : DataW H × List MemPlace} (h : DataW.trod enc Tryz.prog w base spare held fuel 22 [.slice a len cap] = some x) : ∃ gs, ArgsG w a len cap gs := by
  rcases open_slice Tryz.underlying22 h with ⟨hcs, _⟩ | ⟨ad, len', cap', m, n, D, Pl, hcs, hb, hl, hm, hmm, _, hi⟩
  · simp only [List.cons.injEq, Value.slice.injEq, and_true] at hcs
    obtain ⟨rfl, rfl, rfl⟩ := hcs
    exact ⟨[], Rd.nil _ _ _, rfl, Nat.le_refl _, by omega, by simp⟩
  · simp only [List.cons.injEq, Value.slice.injEq, and_true] at hcs
    obtain ⟨rfl, rfl, rfl⟩ := hcs
    have hlm : len ≤ m := by rw [hmm]; split <;> omega
    haveI : Inhabited GA := ⟨⟨0, 0, none, 0, 0, []⟩⟩
    obtain ⟨X, hX⟩ := choose_lt (α := GA) (n := len) (p := fun i y => w.cells? base (ad.add (i * 3)) 3 = some y.cells ∧ ArrIn w y.A y.n y.cap y.l) (fun i hil => by
      obtain ⟨cs', h1, h2⟩ := hi i (by omega)
      rw [cells_arr] at h1
      obtain ⟨y, rfl, hy⟩ := open_arrc h2
      exact ⟨y, h1, hy⟩)
    refine ⟨(List.range len).map X, ?_, by simp, hl, by simp only [maxLen] at hm; omega, ?_⟩
    · intro j u hu
      have hj : j / 3 < len := by
        have := (List.getElem?_eq_some_iff.1 hu).1
        rw [gcells_length] at this
        simp at this
        omega
      have hat := gcells_at ((List.range len).map X) (j / 3) (X (j / 3)) (by simp [hj]) (j % 3) (by omega)
      rw [show j / 3 * 3 + j % 3 = j by omega, hu] at hat
      obtain ⟨_, _, hc⟩ := World.cells?_some (hX (j / 3) hj).1
      have h6 := hc (j % 3) (by omega)
      rw [← hat, Go.Deep.add_add, show j / 3 * 3 + j % 3 = j by omega] at h6
      obtain ⟨b, off, spot⟩ := ad
      have hsp : spot = none := by
        obtain ⟨_, _, hc0⟩ := World.cells?_some (hX 0 (by omega)).1
        have h0 := hc0 0 (by omega)
        simp [Addr.add, GA.cells] at h0
        exact World.cell?_spot h0
      subst hsp
      rw [Addr.add_mid] at h6
      exact ⟨b, off, rfl, Nat.zero_le _, h6⟩
    · intro y hy
      simp only [List.mem_map, List.mem_range] at hy
      obtain ⟨i, hi', rfl⟩ := hy
      exact (hX i hi').2
theorem open_arrs {r : Reach} {b0 : Nat} {v : Value} {d : DataW H} {p : List MemPlace} (hv : Value.okWide Tryz.prog w r b0 22 v) (h : DataW.Trod enc Tryz.prog w base spare held 22 v d p) :
    ∃ (A : Option Addr) (n cap : Nat) (gs : List GA), v = .slice A n cap ∧ ArgsG w A n cap gs := by
  obtain ⟨A, n, cap, rfl⟩ := okWide_slice Tryz.underlying22 hv
  obtain ⟨fuel, hf⟩ := h
  obtain ⟨gs, hl⟩ := open_gs hf
  exact ⟨A, n, cap, gs, rfl, hl⟩
end Go.Proofs.YtlfbdodokldkhaaGreatDoor
