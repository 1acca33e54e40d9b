/- Contracts: the document's Beside. -/
import Derived.Test.YtdhdphgecoplbaaDeep
namespace Go.Proofs.Ytdhdphgecoplbaa
open Go.RowKit
set_option maxHeartbeats 2000000 in
theorem refBeside_ge (R C R' C' : Nat) (A B : Option Addr) (n cap n' cap' : Nat) (l l' : List Val) (w : World) (h : ArrIn w A n cap l) (h' : ArrIn w B n' cap' l') (hr : rightA R C l = true) (hr' : rightA R' C' l' = true) (hM : ¬ R < R') (hf : R * (C + C') ≤ 4096) :
    Calls Try.prog 38 #[AV R C (.slice A n cap), AV R' C' (.slice B n' cap')] w fun e w' => ∃ D c, e = .returned (.tuple #[AV R (C + C' : Nat) (.slice D (R * (C + C')) c), .bool true]) ∧ SlV w.heap.size w' D (vals (fun i j => if j < C then orNoneV R C l i j else orNoneV R' C' l' i ((j : Int) - (C : Int))) (C + C') (R * (C + C'))) ∧ R * (C + C') ≤ c ∧ Ext w w' := by
  obtain ⟨i0, hi0, hz0, hz1, hz2⟩ := info_parts info_val
  obtain ⟨r1, r2, r3, r4, r5, r6⟩ := right_bd hr
  obtain ⟨s1, s2, s3, s4, s5, s6⟩ := right_bd hr'
  have HN := Lib.hid (show n = R * C by have := h.len; omega)
  have HN' := Lib.hid (show n' = R' * C' by have := h'.len; omega)
  have hN : n ≤ 4096 := by have := HN.out; omega
  have hN' : n' ≤ 4096 := by have := HN'.out; omega
  clear r4 s4
  have hcc : (C : Int) + (C' : Int) = ((C + C' : Nat) : Int) := by omega
  have hw : IntKind.i64.wrap ((R : Int) * ((C + C' : Nat) : Int)) = ((R * (C + C') : Nat) : Int) := by rw [IntKind.wrap_i64, Int.natCast_mul]; rw [← Int.natCast_mul]; omega
  generalize hT : C + C' = T at *
  have HT := Lib.hid hT
  have hC1 : C ≤ T := by omega
  clear hT
  have hf' : ¬ 4096 < R * T := by omega
  have hg : ∃ G : Nat → Nat → Val, Hid ((fun (i j : Nat) => if j < C then orNoneV R C l i j else orNoneV R' C' l' i ((j : Int) - (C : Int))) = G) := ⟨_, rfl⟩
  obtain ⟨G, HG⟩ := hg
  rw [HG.out]
  go_enter Try.func38, Try.ntmps38
  go_wp2
  have hacc0 := Acc.start (((w.alloc (Obj.cells #[.int .i64 R, .int .i64 C, .slice A n cap] 25)).alloc (Obj.cells #[.int .i64 R', .int .i64 C', .slice B n' cap'] 25)).alloc (Obj.cells #[.int .i64 0, .int .i64 0, .slice none 0 0] 25)) R T
  go_loopw [8] (fun i wr => ∃ (r cp : Nat) (D : Option Addr), r ≤ R ∧ i = .int .i64 r ∧ Acc (((w.alloc (Obj.cells #[.int .i64 R, .int .i64 C, .slice A n cap] 25)).alloc (Obj.cells #[.int .i64 R', .int .i64 C', .slice B n' cap'] 25)).alloc (Obj.cells #[.int .i64 0, .int .i64 0, .slice none 0 0] 25)) (w.heap.size + 1 + 1 + 1) R T D cp (r * T) (vals G T (r * T)) wr) (fun i _ => R - (intOf i).toNat)
  case atStart => exact ⟨0, 0, none, Nat.zero_le _, rfl, by simpa [vals] using hacc0⟩
  case round =>
    clear hacc0
    obtain ⟨r, cp, D, hrr, rfl, hacc⟩ := hrel
    have hlt0 := hacc.lt
    by_cases hlt : r < R
    · go_wp2
      clear hlt0
      obtain ⟨wo, rfl⟩ : ∃ wo : World, wo = wr := ⟨_, rfl⟩
      go_loopw [9] (fun i wr => ∃ (j cp : Nat) (D : Option Addr), j ≤ T ∧ i = .int .i64 j ∧ Acc (((w.alloc (Obj.cells #[.int .i64 R, .int .i64 C, .slice A n cap] 25)).alloc (Obj.cells #[.int .i64 R', .int .i64 C', .slice B n' cap'] 25)).alloc (Obj.cells #[.int .i64 0, .int .i64 0, .slice none 0 0] 25)) (w.heap.size + 1 + 1 + 1) R T D cp (r * T + j) (vals G T (r * T + j)) wr) (fun i _ => T - (intOf i).toNat)
      case atStart => exact ⟨0, cp, D, Nat.zero_le _, rfl, by simpa using hacc⟩
      case round =>
        clear hacc
        obtain ⟨j, cp, D, hj, rfl, hacc⟩ := hrel
        have hlt0 := hacc.lt
        have p0 : wr.cell? ⟨w.heap.size, 0, none⟩ = some (.int .i64 R) := hacc.ext.cell_some (by simp [go_sem])
        have p1 : wr.cell? ⟨w.heap.size, 1, none⟩ = some (.int .i64 C) := hacc.ext.cell_some (by simp [go_sem])
        have p2 : wr.cell? ⟨w.heap.size, 2, none⟩ = some (.slice A n cap) := hacc.ext.cell_some (by simp [go_sem])
        have u0 : wr.cell? ⟨w.heap.size + 1, 0, none⟩ = some (.int .i64 R') := hacc.ext.cell_some (by simp [go_sem])
        have u1 : wr.cell? ⟨w.heap.size + 1, 1, none⟩ = some (.int .i64 C') := hacc.ext.cell_some (by simp [go_sem])
        have u2 : wr.cell? ⟨w.heap.size + 1, 2, none⟩ = some (.slice B n' cap') := hacc.ext.cell_some (by simp [go_sem])
        have z0 : w.heap.size < wr.heap.size := by omega
        have z1 : w.heap.size + 1 < wr.heap.size := by omega
        have z2 : w.heap.size + 1 + 1 < wr.heap.size := by omega
        have c1 := cell_of_row _ _ 1 _ _ _ hacc.row
        have c2' := cell_of_row _ _ 2 _ _ _ hacc.row
        by_cases hjt : j < T
        · have hk : r * T + j < 4096 := by have := cell_prod R hlt hjt hf; omega
          have hx : (if j < C then orNoneV R C l r j else orNoneV R' C' l' r ((j : Int) - (C : Int))) = G r j := by rw [← HG.out]
          generalize hxx : G r j = x at hx
          have HX := Lib.hid hxx
          clear hxx
          by_cases hjc : j < C
          · rw [if_pos hjc] at hx
            by_cases hri : r < R
            · have hh : hasB R C r j = true := hasB_iff.2 (by omega)
              rw [orNone_in hri hjc] at hx
              have HXX := Lib.hid hx
              clear hx
              go_wp2_with fail
              refine (refHas_any _ _ _ _ _ _ rfl).mono ?_; rintro e w' ⟨rfl, hb⟩; obtain ⟨os1, d1, rfl⟩ := hb.more; clear hb
              go_wp2_with fail
              refine (refGet_any R C r j A n cap l _ (h.ext (Ext.trans (by repeat (first | with_reducible exact Ext.refl _ | with_reducible exact hX | with_reducible exact ext_d _ _ _ _ | with_reducible exact ext_app _ _ _ _ _ | ((with_reducible refine ext_suffix ⟨_, ?_⟩); (try simp only [Array.append_assoc]); rfl) | with_reducible apply Ext.drew | with_reducible apply Ext.alloc | with_reducible apply Ext.more_)) (hacc.ext.trans (by repeat (first | with_reducible exact Ext.refl _ | with_reducible exact hX | with_reducible exact ext_d _ _ _ _ | with_reducible exact ext_app _ _ _ _ _ | ((with_reducible refine ext_suffix ⟨_, ?_⟩); (try simp only [Array.append_assoc]); rfl) | with_reducible apply Ext.drew | with_reducible apply Ext.alloc | with_reducible apply Ext.more_))))) HN.out hN hri hjc x HXX.out).mono ?_; rintro e w' ⟨rfl, hb⟩; obtain ⟨os2, d2, rfl⟩ := hb.more; clear hb
              go_wp2_with (at_builtin; refine wpList_append_own _ rfl _ _ _ rfl _ 34 i0 (VV 0 0 0 ⟨#[]⟩ false 0) 6 56 Try.underlying22 hi0 hz0 hz1 hz2 rfl (by decide) _ _ _ rfl (own_ext hacc.own (by repeat (first | with_reducible exact Ext.refl _ | with_reducible exact hX | with_reducible exact ext_d _ _ _ _ | with_reducible exact ext_app _ _ _ _ _ | ((with_reducible refine ext_suffix ⟨_, ?_⟩); (try simp only [Array.append_assoc]); rfl) | with_reducible apply Ext.drew | with_reducible apply Ext.alloc | with_reducible apply Ext.more_))) _ 1 1 (Val.cells x) rfl rfl (new_cells_at _ _ _ (by simp) rfl _) (cells_one _) (by simp only [maxLen]; omega) (by omega) (by have := hacc.lt; simp; omega) ?_; intro v3 w3 ho3 hg3 _; obtain ⟨A2, cap2, rfl, hrow3, hex3, hacc2⟩ := hacc.step (by repeat (first | with_reducible exact Ext.refl _ | with_reducible exact hX | with_reducible exact ext_d _ _ _ _ | with_reducible exact ext_app _ _ _ _ _ | ((with_reducible refine ext_suffix ⟨_, ?_⟩); (try simp only [Array.append_assoc]); rfl) | with_reducible apply Ext.drew | with_reducible apply Ext.alloc | with_reducible apply Ext.more_)) hg3 ho3; have c2 := cell_of_row _ _ 2 _ _ _ hrow3; have f2 := frozen_of_row _ _ 2 _ _ hrow3; clear hrow3 hex3 hg3 ho3)
              refine ⟨⟨j + 1, cap2, A2, by omega, by go_num, ?_⟩, by simp [intOf]; omega⟩; rw [show r * T + (j + 1) = r * T + j + 1 by omega, vals_succ _ T r j hjt, HX.out]; exact hacc2
            · first
              | exact absurd hlt hri
              | (have hh : hasB R C r j = false := hasB_no (by omega)
                 rw [orNone_out hh] at hx
                 obtain rfl : x = badV 6 := hx.symm
                 clear hx
                 go_wp2_with fail
                 refine (refHas_any _ _ _ _ _ _ rfl).mono ?_; rintro e w' ⟨rfl, hb⟩; obtain ⟨os1, d1, rfl⟩ := hb.more; clear hb
                 go_wp2_with (at_builtin; refine wpList_append_own _ rfl _ _ _ rfl _ 34 i0 (VV 0 0 0 ⟨#[]⟩ false 0) 6 56 Try.underlying22 hi0 hz0 hz1 hz2 rfl (by decide) _ _ _ rfl (own_ext hacc.own (by repeat (first | with_reducible exact Ext.refl _ | with_reducible exact hX | with_reducible exact ext_d _ _ _ _ | with_reducible exact ext_app _ _ _ _ _ | ((with_reducible refine ext_suffix ⟨_, ?_⟩); (try simp only [Array.append_assoc]); rfl) | with_reducible apply Ext.drew | with_reducible apply Ext.alloc | with_reducible apply Ext.more_))) _ 1 1 (Val.cells (badV 6)) rfl rfl (new_cells_at _ _ _ (by simp) rfl _) (cells_one _) (by simp only [maxLen]; omega) (by omega) (by have := hacc.lt; simp; omega) ?_; intro v3 w3 ho3 hg3 _; obtain ⟨A2, cap2, rfl, hrow3, hex3, hacc2⟩ := hacc.step (by repeat (first | with_reducible exact Ext.refl _ | with_reducible exact hX | with_reducible exact ext_d _ _ _ _ | with_reducible exact ext_app _ _ _ _ _ | ((with_reducible refine ext_suffix ⟨_, ?_⟩); (try simp only [Array.append_assoc]); rfl) | with_reducible apply Ext.drew | with_reducible apply Ext.alloc | with_reducible apply Ext.more_)) hg3 ho3; have c2 := cell_of_row _ _ 2 _ _ _ hrow3; have f2 := frozen_of_row _ _ 2 _ _ hrow3; clear hrow3 hex3 hg3 ho3)
                 refine ⟨⟨j + 1, cap2, A2, by omega, by go_num, ?_⟩, by simp [intOf]; omega⟩; rw [show r * T + (j + 1) = r * T + j + 1 by omega, vals_succ _ T r j hjt, HX.out]; exact hacc2)
          · rw [if_neg hjc] at hx
            obtain ⟨q, rfl⟩ : ∃ q, j = C + q := ⟨j - C, by omega⟩
            have hq : (((C + q : Nat) : Int) - (C : Int)) = (q : Int) := by omega
            rw [hq] at hx
            clear hq
            by_cases hri : r < R'
            · have hqc : q < C' := by have := HT.out; omega
              have hh : hasB R' C' r q = true := hasB_iff.2 (by omega)
              rw [orNone_in hri hqc] at hx
              have HXX := Lib.hid hx
              clear hx
              have hq2 : ¬ ((C : Int) + (q : Int) < (C : Int)) := by omega
              have hq1 : (C : Int) ≤ (C : Int) + (q : Int) := by omega
              have hq4 : C ≤ C + q := by omega
              have hq3 : ((C : Int) + (q : Int) - (C : Int)) = (q : Int) := by omega
              go_wp2_with fail
              refine (refHas_any _ _ _ _ _ _ rfl).mono ?_; rintro e w' ⟨rfl, hb⟩; obtain ⟨os1, d1, rfl⟩ := hb.more; clear hb
              go_wp2_with fail
              refine (refGet_any R' C' r q B n' cap' l' _ (h'.ext (Ext.trans (by repeat (first | with_reducible exact Ext.refl _ | with_reducible exact hX | with_reducible exact ext_d _ _ _ _ | with_reducible exact ext_app _ _ _ _ _ | ((with_reducible refine ext_suffix ⟨_, ?_⟩); (try simp only [Array.append_assoc]); rfl) | with_reducible apply Ext.drew | with_reducible apply Ext.alloc | with_reducible apply Ext.more_)) (hacc.ext.trans (by repeat (first | with_reducible exact Ext.refl _ | with_reducible exact hX | with_reducible exact ext_d _ _ _ _ | with_reducible exact ext_app _ _ _ _ _ | ((with_reducible refine ext_suffix ⟨_, ?_⟩); (try simp only [Array.append_assoc]); rfl) | with_reducible apply Ext.drew | with_reducible apply Ext.alloc | with_reducible apply Ext.more_))))) HN'.out hN' hri hqc x HXX.out).mono ?_; rintro e w' ⟨rfl, hb⟩; obtain ⟨os2, d2, rfl⟩ := hb.more; clear hb
              go_wp2_with (at_builtin; refine wpList_append_own _ rfl _ _ _ rfl _ 34 i0 (VV 0 0 0 ⟨#[]⟩ false 0) 6 56 Try.underlying22 hi0 hz0 hz1 hz2 rfl (by decide) _ _ _ rfl (own_ext hacc.own (by repeat (first | with_reducible exact Ext.refl _ | with_reducible exact hX | with_reducible exact ext_d _ _ _ _ | with_reducible exact ext_app _ _ _ _ _ | ((with_reducible refine ext_suffix ⟨_, ?_⟩); (try simp only [Array.append_assoc]); rfl) | with_reducible apply Ext.drew | with_reducible apply Ext.alloc | with_reducible apply Ext.more_))) _ 1 1 (Val.cells x) rfl rfl (new_cells_at _ _ _ (by simp) rfl _) (cells_one _) (by simp only [maxLen]; omega) (by omega) (by have := hacc.lt; simp; omega) ?_; intro v3 w3 ho3 hg3 _; obtain ⟨A2, cap2, rfl, hrow3, hex3, hacc2⟩ := hacc.step (by repeat (first | with_reducible exact Ext.refl _ | with_reducible exact hX | with_reducible exact ext_d _ _ _ _ | with_reducible exact ext_app _ _ _ _ _ | ((with_reducible refine ext_suffix ⟨_, ?_⟩); (try simp only [Array.append_assoc]); rfl) | with_reducible apply Ext.drew | with_reducible apply Ext.alloc | with_reducible apply Ext.more_)) hg3 ho3; have c2 := cell_of_row _ _ 2 _ _ _ hrow3; have f2 := frozen_of_row _ _ 2 _ _ hrow3; clear hrow3 hex3 hg3 ho3)
              refine ⟨⟨C + q + 1, cap2, A2, by omega, by go_num, ?_⟩, by simp [intOf]; omega⟩; rw [show r * T + (C + q + 1) = r * T + (C + q) + 1 by omega, vals_succ _ T r (C + q) hjt, HX.out]; exact hacc2
            · have hh : hasB R' C' r q = false := hasB_no (by omega)
              rw [orNone_out hh] at hx
              obtain rfl : x = badV 6 := hx.symm
              clear hx
              have hq2 : ¬ ((C : Int) + (q : Int) < (C : Int)) := by omega
              have hq1 : (C : Int) ≤ (C : Int) + (q : Int) := by omega
              have hq4 : C ≤ C + q := by omega
              have hq3 : ((C : Int) + (q : Int) - (C : Int)) = (q : Int) := by omega
              go_wp2_with fail
              refine (refHas_any _ _ _ _ _ _ rfl).mono ?_; rintro e w' ⟨rfl, hb⟩; obtain ⟨os1, d1, rfl⟩ := hb.more; clear hb
              go_wp2_with (at_builtin; refine wpList_append_own _ rfl _ _ _ rfl _ 34 i0 (VV 0 0 0 ⟨#[]⟩ false 0) 6 56 Try.underlying22 hi0 hz0 hz1 hz2 rfl (by decide) _ _ _ rfl (own_ext hacc.own (by repeat (first | with_reducible exact Ext.refl _ | with_reducible exact hX | with_reducible exact ext_d _ _ _ _ | with_reducible exact ext_app _ _ _ _ _ | ((with_reducible refine ext_suffix ⟨_, ?_⟩); (try simp only [Array.append_assoc]); rfl) | with_reducible apply Ext.drew | with_reducible apply Ext.alloc | with_reducible apply Ext.more_))) _ 1 1 (Val.cells (badV 6)) rfl rfl (new_cells_at _ _ _ (by simp) rfl _) (cells_one _) (by simp only [maxLen]; omega) (by omega) (by have := hacc.lt; simp; omega) ?_; intro v3 w3 ho3 hg3 _; obtain ⟨A2, cap2, rfl, hrow3, hex3, hacc2⟩ := hacc.step (by repeat (first | with_reducible exact Ext.refl _ | with_reducible exact hX | with_reducible exact ext_d _ _ _ _ | with_reducible exact ext_app _ _ _ _ _ | ((with_reducible refine ext_suffix ⟨_, ?_⟩); (try simp only [Array.append_assoc]); rfl) | with_reducible apply Ext.drew | with_reducible apply Ext.alloc | with_reducible apply Ext.more_)) hg3 ho3; have c2 := cell_of_row _ _ 2 _ _ _ hrow3; have f2 := frozen_of_row _ _ 2 _ _ hrow3; clear hrow3 hex3 hg3 ho3)
              refine ⟨⟨C + q + 1, cap2, A2, by omega, by go_num, ?_⟩, by simp [intOf]; omega⟩; rw [show r * T + (C + q + 1) = r * T + (C + q) + 1 by omega, vals_succ _ T r (C + q) hjt, HX.out]; exact hacc2
        · obtain rfl : j = T := by omega
          go_wp2
          refine ⟨⟨r + 1, cp, D, by omega, by go_num, by rw [Nat.succ_mul]; exact hacc⟩, by simp [intOf]; omega⟩
    · obtain rfl : r = R := by omega
      have q0 : wr.cell? ⟨w.heap.size + 1 + 1, 0, none⟩ = some (.int .i64 0) := hacc.ext.cell_some (by simp [go_sem]); have q1 : wr.cell? ⟨w.heap.size + 1 + 1, 1, none⟩ = some (.int .i64 0) := hacc.ext.cell_some (by simp [go_sem]); have q2 : wr.cell? ⟨w.heap.size + 1 + 1, 2, none⟩ = some (.slice none 0 0) := hacc.ext.cell_some (by simp [go_sem]); have q3 : wr.frozen? ⟨w.heap.size + 1 + 1, 0, none⟩ = false := (hacc.ext.frozen (p := ⟨w.heap.size + 1 + 1, 0, none⟩) (by simp)).trans (by simp [go_sem]); have q4 : wr.frozen? ⟨w.heap.size + 1 + 1, 1, none⟩ = false := (hacc.ext.frozen (p := ⟨w.heap.size + 1 + 1, 1, none⟩) (by simp)).trans (by simp [go_sem]); have q5 : wr.frozen? ⟨w.heap.size + 1 + 1, 2, none⟩ = false := (hacc.ext.frozen (p := ⟨w.heap.size + 1 + 1, 2, none⟩) (by simp)).trans (by simp [go_sem]); have c0 := cell_of_row _ _ 0 _ _ _ hacc.row; have c1 := cell_of_row _ _ 1 _ _ _ hacc.row; have c2 := cell_of_row _ _ 2 _ _ _ hacc.row
      go_wp2
      obtain ⟨hrd, hcp⟩ := hacc.rd
      refine bodyPost_ret (v := .tuple #[AV r T (.slice D (r * T) cp), .bool true]) (by simp [results, Try.results38, go_sem, q0, q1, q2]; done) rfl ⟨D, cp, rfl, ?_, hcp, ?_⟩
      · exact Rd.mono (((hrd.set_far _ (by simp)).set_far _ (by simp)).set_far _ (by simp)) (by omega)
      · exact Ext.set (Ext.set (Ext.set (Ext.trans (by repeat (first | with_reducible exact Ext.refl _ | with_reducible exact hX | with_reducible exact ext_d _ _ _ _ | with_reducible exact ext_app _ _ _ _ _ | ((with_reducible refine ext_suffix ⟨_, ?_⟩); (try simp only [Array.append_assoc]); rfl) | with_reducible apply Ext.drew | with_reducible apply Ext.alloc | with_reducible apply Ext.more_)) hacc.ext) _ (by first | (simp; done) | (simp; omega) | omega)) _ (by first | (simp; done) | (simp; omega) | omega)) _ (by first | (simp; done) | (simp; omega) | omega)
set_option maxHeartbeats 2000000 in
theorem refBeside_lt (R C R' C' : Nat) (A B : Option Addr) (n cap n' cap' : Nat) (l l' : List Val) (w : World) (h : ArrIn w A n cap l) (h' : ArrIn w B n' cap' l') (hr : rightA R C l = true) (hr' : rightA R' C' l' = true) (hM : R < R') (hf : R' * (C + C') ≤ 4096) :
    Calls Try.prog 38 #[AV R C (.slice A n cap), AV R' C' (.slice B n' cap')] w fun e w' => ∃ D c, e = .returned (.tuple #[AV R' (C + C' : Nat) (.slice D (R' * (C + C')) c), .bool true]) ∧ SlV w.heap.size w' D (vals (fun i j => if j < C then orNoneV R C l i j else orNoneV R' C' l' i ((j : Int) - (C : Int))) (C + C') (R' * (C + C'))) ∧ R' * (C + C') ≤ c ∧ Ext w w' := by
  obtain ⟨i0, hi0, hz0, hz1, hz2⟩ := info_parts info_val
  obtain ⟨r1, r2, r3, r4, r5, r6⟩ := right_bd hr
  obtain ⟨s1, s2, s3, s4, s5, s6⟩ := right_bd hr'
  have HN := Lib.hid (show n = R * C by have := h.len; omega)
  have HN' := Lib.hid (show n' = R' * C' by have := h'.len; omega)
  have hN : n ≤ 4096 := by have := HN.out; omega
  have hN' : n' ≤ 4096 := by have := HN'.out; omega
  clear r4 s4
  have hcc : (C : Int) + (C' : Int) = ((C + C' : Nat) : Int) := by omega
  have hw : IntKind.i64.wrap ((R' : Int) * ((C + C' : Nat) : Int)) = ((R' * (C + C') : Nat) : Int) := by rw [IntKind.wrap_i64, Int.natCast_mul]; rw [← Int.natCast_mul]; omega
  generalize hT : C + C' = T at *
  have HT := Lib.hid hT
  have hC1 : C ≤ T := by omega
  clear hT
  have hf' : ¬ 4096 < R' * T := by omega
  have hg : ∃ G : Nat → Nat → Val, Hid ((fun (i j : Nat) => if j < C then orNoneV R C l i j else orNoneV R' C' l' i ((j : Int) - (C : Int))) = G) := ⟨_, rfl⟩
  obtain ⟨G, HG⟩ := hg
  rw [HG.out]
  go_enter Try.func38, Try.ntmps38
  go_wp2
  have hacc0 := Acc.start (((w.alloc (Obj.cells #[.int .i64 R, .int .i64 C, .slice A n cap] 25)).alloc (Obj.cells #[.int .i64 R', .int .i64 C', .slice B n' cap'] 25)).alloc (Obj.cells #[.int .i64 0, .int .i64 0, .slice none 0 0] 25)) R' T
  go_loopw [8] (fun i wr => ∃ (r cp : Nat) (D : Option Addr), r ≤ R' ∧ i = .int .i64 r ∧ Acc (((w.alloc (Obj.cells #[.int .i64 R, .int .i64 C, .slice A n cap] 25)).alloc (Obj.cells #[.int .i64 R', .int .i64 C', .slice B n' cap'] 25)).alloc (Obj.cells #[.int .i64 0, .int .i64 0, .slice none 0 0] 25)) (w.heap.size + 1 + 1 + 1) R' T D cp (r * T) (vals G T (r * T)) wr) (fun i _ => R' - (intOf i).toNat)
  case atStart => exact ⟨0, 0, none, Nat.zero_le _, rfl, by simpa [vals] using hacc0⟩
  case round =>
    clear hacc0
    obtain ⟨r, cp, D, hrr, rfl, hacc⟩ := hrel
    have hlt0 := hacc.lt
    by_cases hlt : r < R'
    · go_wp2
      clear hlt0
      obtain ⟨wo, rfl⟩ : ∃ wo : World, wo = wr := ⟨_, rfl⟩
      go_loopw [9] (fun i wr => ∃ (j cp : Nat) (D : Option Addr), j ≤ T ∧ i = .int .i64 j ∧ Acc (((w.alloc (Obj.cells #[.int .i64 R, .int .i64 C, .slice A n cap] 25)).alloc (Obj.cells #[.int .i64 R', .int .i64 C', .slice B n' cap'] 25)).alloc (Obj.cells #[.int .i64 0, .int .i64 0, .slice none 0 0] 25)) (w.heap.size + 1 + 1 + 1) R' T D cp (r * T + j) (vals G T (r * T + j)) wr) (fun i _ => T - (intOf i).toNat)
      case atStart => exact ⟨0, cp, D, Nat.zero_le _, rfl, by simpa using hacc⟩
      case round =>
        clear hacc
        obtain ⟨j, cp, D, hj, rfl, hacc⟩ := hrel
        have hlt0 := hacc.lt
        have p0 : wr.cell? ⟨w.heap.size, 0, none⟩ = some (.int .i64 R) := hacc.ext.cell_some (by simp [go_sem])
        have p1 : wr.cell? ⟨w.heap.size, 1, none⟩ = some (.int .i64 C) := hacc.ext.cell_some (by simp [go_sem])
        have p2 : wr.cell? ⟨w.heap.size, 2, none⟩ = some (.slice A n cap) := hacc.ext.cell_some (by simp [go_sem])
        have u0 : wr.cell? ⟨w.heap.size + 1, 0, none⟩ = some (.int .i64 R') := hacc.ext.cell_some (by simp [go_sem])
        have u1 : wr.cell? ⟨w.heap.size + 1, 1, none⟩ = some (.int .i64 C') := hacc.ext.cell_some (by simp [go_sem])
        have u2 : wr.cell? ⟨w.heap.size + 1, 2, none⟩ = some (.slice B n' cap') := hacc.ext.cell_some (by simp [go_sem])
        have z0 : w.heap.size < wr.heap.size := by omega
        have z1 : w.heap.size + 1 < wr.heap.size := by omega
        have z2 : w.heap.size + 1 + 1 < wr.heap.size := by omega
        have c1 := cell_of_row _ _ 1 _ _ _ hacc.row
        have c2' := cell_of_row _ _ 2 _ _ _ hacc.row
        by_cases hjt : j < T
        · have hk : r * T + j < 4096 := by have := cell_prod R' hlt hjt hf; omega
          have hx : (if j < C then orNoneV R C l r j else orNoneV R' C' l' r ((j : Int) - (C : Int))) = G r j := by rw [← HG.out]
          generalize hxx : G r j = x at hx
          have HX := Lib.hid hxx
          clear hxx
          by_cases hjc : j < C
          · rw [if_pos hjc] at hx
            by_cases hri : r < R
            · have hh : hasB R C r j = true := hasB_iff.2 (by omega)
              rw [orNone_in hri hjc] at hx
              have HXX := Lib.hid hx
              clear hx
              go_wp2_with fail
              refine (refHas_any _ _ _ _ _ _ rfl).mono ?_; rintro e w' ⟨rfl, hb⟩; obtain ⟨os1, d1, rfl⟩ := hb.more; clear hb
              go_wp2_with fail
              refine (refGet_any R C r j A n cap l _ (h.ext (Ext.trans (by repeat (first | with_reducible exact Ext.refl _ | with_reducible exact hX | with_reducible exact ext_d _ _ _ _ | with_reducible exact ext_app _ _ _ _ _ | ((with_reducible refine ext_suffix ⟨_, ?_⟩); (try simp only [Array.append_assoc]); rfl) | with_reducible apply Ext.drew | with_reducible apply Ext.alloc | with_reducible apply Ext.more_)) (hacc.ext.trans (by repeat (first | with_reducible exact Ext.refl _ | with_reducible exact hX | with_reducible exact ext_d _ _ _ _ | with_reducible exact ext_app _ _ _ _ _ | ((with_reducible refine ext_suffix ⟨_, ?_⟩); (try simp only [Array.append_assoc]); rfl) | with_reducible apply Ext.drew | with_reducible apply Ext.alloc | with_reducible apply Ext.more_))))) HN.out hN hri hjc x HXX.out).mono ?_; rintro e w' ⟨rfl, hb⟩; obtain ⟨os2, d2, rfl⟩ := hb.more; clear hb
              go_wp2_with (at_builtin; refine wpList_append_own _ rfl _ _ _ rfl _ 34 i0 (VV 0 0 0 ⟨#[]⟩ false 0) 6 56 Try.underlying22 hi0 hz0 hz1 hz2 rfl (by decide) _ _ _ rfl (own_ext hacc.own (by repeat (first | with_reducible exact Ext.refl _ | with_reducible exact hX | with_reducible exact ext_d _ _ _ _ | with_reducible exact ext_app _ _ _ _ _ | ((with_reducible refine ext_suffix ⟨_, ?_⟩); (try simp only [Array.append_assoc]); rfl) | with_reducible apply Ext.drew | with_reducible apply Ext.alloc | with_reducible apply Ext.more_))) _ 1 1 (Val.cells x) rfl rfl (new_cells_at _ _ _ (by simp) rfl _) (cells_one _) (by simp only [maxLen]; omega) (by omega) (by have := hacc.lt; simp; omega) ?_; intro v3 w3 ho3 hg3 _; obtain ⟨A2, cap2, rfl, hrow3, hex3, hacc2⟩ := hacc.step (by repeat (first | with_reducible exact Ext.refl _ | with_reducible exact hX | with_reducible exact ext_d _ _ _ _ | with_reducible exact ext_app _ _ _ _ _ | ((with_reducible refine ext_suffix ⟨_, ?_⟩); (try simp only [Array.append_assoc]); rfl) | with_reducible apply Ext.drew | with_reducible apply Ext.alloc | with_reducible apply Ext.more_)) hg3 ho3; have c2 := cell_of_row _ _ 2 _ _ _ hrow3; have f2 := frozen_of_row _ _ 2 _ _ hrow3; clear hrow3 hex3 hg3 ho3)
              refine ⟨⟨j + 1, cap2, A2, by omega, by go_num, ?_⟩, by simp [intOf]; omega⟩; rw [show r * T + (j + 1) = r * T + j + 1 by omega, vals_succ _ T r j hjt, HX.out]; exact hacc2
            · first
              | exact absurd hlt hri
              | (have hh : hasB R C r j = false := hasB_no (by omega)
                 rw [orNone_out hh] at hx
                 obtain rfl : x = badV 6 := hx.symm
                 clear hx
                 go_wp2_with fail
                 refine (refHas_any _ _ _ _ _ _ rfl).mono ?_; rintro e w' ⟨rfl, hb⟩; obtain ⟨os1, d1, rfl⟩ := hb.more; clear hb
                 go_wp2_with (at_builtin; refine wpList_append_own _ rfl _ _ _ rfl _ 34 i0 (VV 0 0 0 ⟨#[]⟩ false 0) 6 56 Try.underlying22 hi0 hz0 hz1 hz2 rfl (by decide) _ _ _ rfl (own_ext hacc.own (by repeat (first | with_reducible exact Ext.refl _ | with_reducible exact hX | with_reducible exact ext_d _ _ _ _ | with_reducible exact ext_app _ _ _ _ _ | ((with_reducible refine ext_suffix ⟨_, ?_⟩); (try simp only [Array.append_assoc]); rfl) | with_reducible apply Ext.drew | with_reducible apply Ext.alloc | with_reducible apply Ext.more_))) _ 1 1 (Val.cells (badV 6)) rfl rfl (new_cells_at _ _ _ (by simp) rfl _) (cells_one _) (by simp only [maxLen]; omega) (by omega) (by have := hacc.lt; simp; omega) ?_; intro v3 w3 ho3 hg3 _; obtain ⟨A2, cap2, rfl, hrow3, hex3, hacc2⟩ := hacc.step (by repeat (first | with_reducible exact Ext.refl _ | with_reducible exact hX | with_reducible exact ext_d _ _ _ _ | with_reducible exact ext_app _ _ _ _ _ | ((with_reducible refine ext_suffix ⟨_, ?_⟩); (try simp only [Array.append_assoc]); rfl) | with_reducible apply Ext.drew | with_reducible apply Ext.alloc | with_reducible apply Ext.more_)) hg3 ho3; have c2 := cell_of_row _ _ 2 _ _ _ hrow3; have f2 := frozen_of_row _ _ 2 _ _ hrow3; clear hrow3 hex3 hg3 ho3)
                 refine ⟨⟨j + 1, cap2, A2, by omega, by go_num, ?_⟩, by simp [intOf]; omega⟩; rw [show r * T + (j + 1) = r * T + j + 1 by omega, vals_succ _ T r j hjt, HX.out]; exact hacc2)
          · rw [if_neg hjc] at hx
            obtain ⟨q, rfl⟩ : ∃ q, j = C + q := ⟨j - C, by omega⟩
            have hq : (((C + q : Nat) : Int) - (C : Int)) = (q : Int) := by omega
            rw [hq] at hx
            clear hq
            by_cases hri : r < R'
            · have hqc : q < C' := by have := HT.out; omega
              have hh : hasB R' C' r q = true := hasB_iff.2 (by omega)
              rw [orNone_in hri hqc] at hx
              have HXX := Lib.hid hx
              clear hx
              have hq2 : ¬ ((C : Int) + (q : Int) < (C : Int)) := by omega
              have hq1 : (C : Int) ≤ (C : Int) + (q : Int) := by omega
              have hq4 : C ≤ C + q := by omega
              have hq3 : ((C : Int) + (q : Int) - (C : Int)) = (q : Int) := by omega
              go_wp2_with fail
              refine (refHas_any _ _ _ _ _ _ rfl).mono ?_; rintro e w' ⟨rfl, hb⟩; obtain ⟨os1, d1, rfl⟩ := hb.more; clear hb
              go_wp2_with fail
              refine (refGet_any R' C' r q B n' cap' l' _ (h'.ext (Ext.trans (by repeat (first | with_reducible exact Ext.refl _ | with_reducible exact hX | with_reducible exact ext_d _ _ _ _ | with_reducible exact ext_app _ _ _ _ _ | ((with_reducible refine ext_suffix ⟨_, ?_⟩); (try simp only [Array.append_assoc]); rfl) | with_reducible apply Ext.drew | with_reducible apply Ext.alloc | with_reducible apply Ext.more_)) (hacc.ext.trans (by repeat (first | with_reducible exact Ext.refl _ | with_reducible exact hX | with_reducible exact ext_d _ _ _ _ | with_reducible exact ext_app _ _ _ _ _ | ((with_reducible refine ext_suffix ⟨_, ?_⟩); (try simp only [Array.append_assoc]); rfl) | with_reducible apply Ext.drew | with_reducible apply Ext.alloc | with_reducible apply Ext.more_))))) HN'.out hN' hri hqc x HXX.out).mono ?_; rintro e w' ⟨rfl, hb⟩; obtain ⟨os2, d2, rfl⟩ := hb.more; clear hb
              go_wp2_with (at_builtin; refine wpList_append_own _ rfl _ _ _ rfl _ 34 i0 (VV 0 0 0 ⟨#[]⟩ false 0) 6 56 Try.underlying22 hi0 hz0 hz1 hz2 rfl (by decide) _ _ _ rfl (own_ext hacc.own (by repeat (first | with_reducible exact Ext.refl _ | with_reducible exact hX | with_reducible exact ext_d _ _ _ _ | with_reducible exact ext_app _ _ _ _ _ | ((with_reducible refine ext_suffix ⟨_, ?_⟩); (try simp only [Array.append_assoc]); rfl) | with_reducible apply Ext.drew | with_reducible apply Ext.alloc | with_reducible apply Ext.more_))) _ 1 1 (Val.cells x) rfl rfl (new_cells_at _ _ _ (by simp) rfl _) (cells_one _) (by simp only [maxLen]; omega) (by omega) (by have := hacc.lt; simp; omega) ?_; intro v3 w3 ho3 hg3 _; obtain ⟨A2, cap2, rfl, hrow3, hex3, hacc2⟩ := hacc.step (by repeat (first | with_reducible exact Ext.refl _ | with_reducible exact hX | with_reducible exact ext_d _ _ _ _ | with_reducible exact ext_app _ _ _ _ _ | ((with_reducible refine ext_suffix ⟨_, ?_⟩); (try simp only [Array.append_assoc]); rfl) | with_reducible apply Ext.drew | with_reducible apply Ext.alloc | with_reducible apply Ext.more_)) hg3 ho3; have c2 := cell_of_row _ _ 2 _ _ _ hrow3; have f2 := frozen_of_row _ _ 2 _ _ hrow3; clear hrow3 hex3 hg3 ho3)
              refine ⟨⟨C + q + 1, cap2, A2, by omega, by go_num, ?_⟩, by simp [intOf]; omega⟩; rw [show r * T + (C + q + 1) = r * T + (C + q) + 1 by omega, vals_succ _ T r (C + q) hjt, HX.out]; exact hacc2
            · exact absurd hlt hri
        · obtain rfl : j = T := by omega
          go_wp2
          refine ⟨⟨r + 1, cp, D, by omega, by go_num, by rw [Nat.succ_mul]; exact hacc⟩, by simp [intOf]; omega⟩
    · obtain rfl : r = R' := by omega
      have q0 : wr.cell? ⟨w.heap.size + 1 + 1, 0, none⟩ = some (.int .i64 0) := hacc.ext.cell_some (by simp [go_sem]); have q1 : wr.cell? ⟨w.heap.size + 1 + 1, 1, none⟩ = some (.int .i64 0) := hacc.ext.cell_some (by simp [go_sem]); have q2 : wr.cell? ⟨w.heap.size + 1 + 1, 2, none⟩ = some (.slice none 0 0) := hacc.ext.cell_some (by simp [go_sem]); have q3 : wr.frozen? ⟨w.heap.size + 1 + 1, 0, none⟩ = false := (hacc.ext.frozen (p := ⟨w.heap.size + 1 + 1, 0, none⟩) (by simp)).trans (by simp [go_sem]); have q4 : wr.frozen? ⟨w.heap.size + 1 + 1, 1, none⟩ = false := (hacc.ext.frozen (p := ⟨w.heap.size + 1 + 1, 1, none⟩) (by simp)).trans (by simp [go_sem]); have q5 : wr.frozen? ⟨w.heap.size + 1 + 1, 2, none⟩ = false := (hacc.ext.frozen (p := ⟨w.heap.size + 1 + 1, 2, none⟩) (by simp)).trans (by simp [go_sem]); have c0 := cell_of_row _ _ 0 _ _ _ hacc.row; have c1 := cell_of_row _ _ 1 _ _ _ hacc.row; have c2 := cell_of_row _ _ 2 _ _ _ hacc.row
      go_wp2
      obtain ⟨hrd, hcp⟩ := hacc.rd
      refine bodyPost_ret (v := .tuple #[AV r T (.slice D (r * T) cp), .bool true]) (by simp [results, Try.results38, go_sem, q0, q1, q2]; done) rfl ⟨D, cp, rfl, ?_, hcp, ?_⟩
      · exact Rd.mono (((hrd.set_far _ (by simp)).set_far _ (by simp)).set_far _ (by simp)) (by omega)
      · exact Ext.set (Ext.set (Ext.set (Ext.trans (by repeat (first | with_reducible exact Ext.refl _ | with_reducible exact hX | with_reducible exact ext_d _ _ _ _ | with_reducible exact ext_app _ _ _ _ _ | ((with_reducible refine ext_suffix ⟨_, ?_⟩); (try simp only [Array.append_assoc]); rfl) | with_reducible apply Ext.drew | with_reducible apply Ext.alloc | with_reducible apply Ext.more_)) hacc.ext) _ (by first | (simp; done) | (simp; omega) | omega)) _ (by first | (simp; done) | (simp; omega) | omega)) _ (by first | (simp; done) | (simp; omega) | omega)
set_option maxHeartbeats 800000 in
theorem refBeside_wide (R C R' C' : Nat) (A B : Option Addr) (n cap n' cap' : Nat) (l l' : List Val) (w : World) (hr : rightA R C l = true) (hr' : rightA R' C' l' = true) (hf : ¬ max R R' * (C + C') ≤ 4096) :
    Calls Try.prog 38 #[AV R C (.slice A n cap), AV R' C' (.slice B n' cap')] w fun e w' => e = .returned (.tuple #[AV 0 0 (.slice none 0 0), .bool false]) ∧ Ext w w' := by
  obtain ⟨r1, r2, r3, r4, r5, r6⟩ := right_bd hr
  obtain ⟨s1, s2, s3, s4, s5, s6⟩ := right_bd hr'
  clear r4 s4
  have hcc : (C : Int) + (C' : Int) = ((C + C' : Nat) : Int) := by omega
  have hb : C + C' ≤ 8192 := by omega
  generalize C + C' = T at *
  have hw : ∀ M : Nat, M ≤ 4096 → IntKind.i64.wrap ((M : Int) * (T : Int)) = ((M * T : Nat) : Int) := fun M hM => by
    have : M * T ≤ 4096 * 8192 := Nat.mul_le_mul hM hb
    rw [← Int.natCast_mul, IntKind.wrap_i64]; omega
  by_cases hM : R < R'
  · rw [Nat.max_eq_right (Nat.le_of_lt hM)] at hf
    have hw' := hw R' s5
    have hf' : 4096 < R' * T := by omega
    have hf2 : (4096 : Int) < (R' : Int) * (T : Int) := by rw [← Int.natCast_mul]; omega
    clear hw hf
    go_enter Try.func38, Try.ntmps38
    go_wp2
    exact bodyPost_ret (v := .tuple #[AV 0 0 (.slice none 0 0), .bool false]) (by simp [results, Try.results38, go_sem]; done) rfl ⟨rfl, by repeat (first | with_reducible exact Ext.refl _ | with_reducible exact hX | with_reducible exact ext_d _ _ _ _ | with_reducible exact ext_app _ _ _ _ _ | ((with_reducible refine ext_suffix ⟨_, ?_⟩); (try simp only [Array.append_assoc]); rfl) | with_reducible apply Ext.drew | with_reducible apply Ext.alloc | with_reducible apply Ext.more_)⟩
  · rw [Nat.max_eq_left (by omega)] at hf
    have hw' := hw R r5
    have hf' : 4096 < R * T := by omega
    have hf2 : (4096 : Int) < (R : Int) * (T : Int) := by rw [← Int.natCast_mul]; omega
    clear hw hf
    go_enter Try.func38, Try.ntmps38
    go_wp2
    exact bodyPost_ret (v := .tuple #[AV 0 0 (.slice none 0 0), .bool false]) (by simp [results, Try.results38, go_sem]; done) rfl ⟨rfl, by repeat (first | with_reducible exact Ext.refl _ | with_reducible exact hX | with_reducible exact ext_d _ _ _ _ | with_reducible exact ext_app _ _ _ _ _ | ((with_reducible refine ext_suffix ⟨_, ?_⟩); (try simp only [Array.append_assoc]); rfl) | with_reducible apply Ext.drew | with_reducible apply Ext.alloc | with_reducible apply Ext.more_)⟩
theorem refBeside_c : JoinC 38 besideO := by
  intro a b A B n cap n' cap' w h h' ha hb x k hx hk
  obtain ⟨a1, a2, a3, a4, a5⟩ := rightA_nat.1 ha
  obtain ⟨b1, b2, b3, b4, b5⟩ := rightA_nat.1 hb
  by_cases hf : max a.R b.R * (a.C + b.C) ≤ 4096
  · simp only [besideO, if_pos hf, orZ, Option.getD_some, Option.isSome_some] at hx hk
    subst hx hk
    have key : Calls Try.prog 38 #[AV a.R a.C (.slice A n cap), AV b.R b.C (.slice B n' cap')] w fun e w' => ∃ D c, e = .returned (.tuple #[AV (max a.R b.R : Nat) (a.C + b.C : Nat) (.slice D (max a.R b.R * (a.C + b.C)) c), .bool true]) ∧ SlV w.heap.size w' D (besideL a.R a.C a.l b.R b.C b.l) ∧ max a.R b.R * (a.C + b.C) ≤ c ∧ Ext w w' := by
      unfold besideL
      by_cases hM : a.R < b.R
      · rw [Nat.max_eq_right (Nat.le_of_lt hM)] at hf ⊢
        exact refBeside_lt a.R a.C b.R b.C A B n cap n' cap' a.l b.l w h h' ha hb hM hf
      · rw [Nat.max_eq_left (by omega)] at hf ⊢
        exact refBeside_ge a.R a.C b.R b.C A B n cap n' cap' a.l b.l w h h' ha hb hM hf
    refine key.mono ?_
    rintro e w' ⟨D, c, rfl, hs, hc, hX⟩
    exact ⟨D, _, c, rfl, ⟨Rd.mono hs (Nat.zero_le _), besideL_length _ _ _ _ _ _, hc, by omega, beside_all a4 b4 h.ok h'.ok (badV_ok 6 I64_6)⟩, hs, hX⟩
  · simp only [besideO, if_neg hf, orZ, Option.getD_none, Option.isSome_none] at hx hk
    subst hx hk
    refine (refBeside_wide a.R a.C b.R b.C A B n cap n' cap' a.l b.l w ha hb hf).mono ?_
    rintro e w' ⟨rfl, hX⟩
    exact ⟨none, 0, 0, rfl, ArrIn.none_ _, SlV.nil _ _ _, hX⟩
end Go.Proofs.Ytdhdphgecoplbaa
