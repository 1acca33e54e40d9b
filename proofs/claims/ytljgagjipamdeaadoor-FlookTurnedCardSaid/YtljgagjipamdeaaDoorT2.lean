/- What the rows' proofs lean on: the contracts of the functions that they reach, and plain facts (part T2). -/
import Derived.WalkKit
import Derived.WalkLawsBesides
import Derived.WalkSpells
import Derived.Outline
import Derived.Below
import Derived.Deep.RegionHeld3
import Derived.Deep.DeepCutAuto
import Derived.Deep.AppendLies
import Derived.Maps.AppendAt
import Derived.Lib.Hide
import Derived.OrdersHeld
import Derived.Test.YtljgagjipamdeaaDoorProg
import Derived.Shelf.Small.Strs
import Derived.Shelf.Strconv.Itoa0
import Derived.Shelf.Strconv.Itoa1
import Derived.Shelf.LaysM
import Derived.Shelf.Strconv.Itoa2
import Derived.Shelf.Bits.Mul64
import Derived.Lib.ItoaMem
import Derived.Lib.OthersKept
import Derived.Deep.CutBlock
import Derived.Laws.Bits64b
import Derived.Lib.AppendZeros
import Derived.Lib.Bytealg
import Derived.Laws.RangeAny
import Derived.Maps.OwnSet
import Derived.Maps.Own
import Derived.Laws.EntriesVeiled
import Derived.Lib.ConvBytes
import Derived.Lib.SlBytesRow
import Derived.Lib.SmallJoins
import Derived.Test.YtljgagjipamdeaaDoorT1
set_option linter.unusedSimpArgs false
set_option linter.unusedVariables false
set_option maxRecDepth 100000
namespace Go.Proofs.YtljgagjipamdeaaDoor
open Go.RowKit NM
set_option maxHeartbeats 1000000 in
theorem sign_any (m ex : Int) (w : World) :
    Calls Tryd.prog 85 #[NV m ex] w fun e w' => e = .returned (.int .i64 m.sign) ∧ Ext w w' := by
  rcases Int.lt_trichotomy m 0 with h | h | h
  · rw [Int.sign_eq_neg_one_of_neg h]
    go_enter Tryd.func85, Tryd.ntmps85
    go_wp2
    go_ret
    exact ⟨rfl, by with_reducible repeat (first | exact Ext.refl _ | apply Ext.drew | apply Ext.alloc | apply Ext.more_)⟩
  · subst h
    go_enter Tryd.func85, Tryd.ntmps85
    go_wp2
    go_ret
    exact ⟨rfl, by with_reducible repeat (first | exact Ext.refl _ | apply Ext.drew | apply Ext.alloc | apply Ext.more_)⟩
  · rw [Int.sign_eq_one_of_pos h]
    have h' : ¬ m < 0 := by omega
    go_enter Tryd.func85, Tryd.ntmps85
    go_wp2
    go_ret
    exact ⟨rfl, by with_reducible repeat (first | exact Ext.refl _ | apply Ext.drew | apply Ext.alloc | apply Ext.more_)⟩
def cmpN (x y : Nat) : Int := if x < y then -1 else if y < x then 1 else 0
theorem cmp_top {x y ka kb : Nat} (hx : x ≠ 0) (hy : y ≠ 0) (h : nd x + ka < nd y + kb) : x * T ka < y * T kb := by
  have h1 := lt_T_nd (x * T ka)
  rw [nd_mul_T ka hx] at h1
  have h2 := T_le_of_nd (Nat.mul_ne_zero hy (by have := T_pos kb; omega) : y * T kb ≠ 0)
  rw [nd_mul_T kb hy] at h2
  have h3 : T (nd x + ka) ≤ T (nd y + kb - 1) := T_mono (by omega)
  omega
theorem cmp_same {x y ka kb : Nat} (hx : nd x ≤ 15) (hy : nd y ≤ 15) (h : nd x + ka = nd y + kb) : cmpN (x * T ka) (y * T kb) = cmpN (x * T (15 - nd x)) (y * T (15 - nd y)) := by
  have e1 : x * T (15 - nd x) * T (nd x + ka) = x * T ka * T 15 := by
    rw [Nat.mul_assoc, ← T_add, Nat.mul_assoc, ← T_add]; congr 2; omega
  have e2 : y * T (15 - nd y) * T (nd x + ka) = y * T kb * T 15 := by
    rw [Nat.mul_assoc, ← T_add, Nat.mul_assoc, ← T_add]; congr 2; omega
  have p1 := T_pos (nd x + ka)
  have p2 := T_pos 15
  have i1 : x * T ka < y * T kb ↔ x * T (15 - nd x) < y * T (15 - nd y) := by
    rw [← Nat.mul_lt_mul_right p2, ← e1, ← e2, Nat.mul_lt_mul_right p1]
  have i2 : y * T kb < x * T ka ↔ y * T (15 - nd y) < x * T (15 - nd x) := by
    rw [← Nat.mul_lt_mul_right p2, ← e1, ← e2, Nat.mul_lt_mul_right p1]
  unfold cmpN
  rw [ite_iff _ _ i1, ite_iff _ _ i2]
theorem count_nat (n : Nat) (w : World) (h : n < 18446744073709551616) (h0 : n ≠ 0) :
    Calls Tryd.prog 67 #[.int .u64 (n : Int)] w fun e w' => e = .returned (.int .i64 ((nd n : Nat) : Int)) ∧ w = w' := by
  have := count_any n w (by omega) (by omega)
  rw [show countI (n : Int) = ((nd n : Nat) : Int) by unfold countI; rw [Int.toNat_natCast, cnt_nd h0]] at this
  exact this
set_option maxHeartbeats 4000000 in
theorem cmpSize_any (ma ea mb eb : Int) (ka kb : Nat) (w : World) (h1 : Rt ma ea) (h2 : Rt mb eb) (h0 : ma = 0 ↔ mb = 0) (hk : ea - (ka : Int) = eb - (kb : Int)) :
    Calls Tryd.prog 86 #[NV ma ea, NV mb eb] w fun e w' => e = .returned (.int .i64 (cmpN (ma.natAbs * T ka) (mb.natAbs * T kb))) ∧ Ext w w' := by
  by_cases hz : ma = 0
  · have hz' := h0.1 hz
    rw [hz, hz', show (0 : Int).natAbs = 0 from rfl, Nat.zero_mul, Nat.zero_mul]
    go_enter Tryd.func86, Tryd.ntmps86
    go_wp2
    go_ret
    exact ⟨rfl, by with_reducible repeat (first | exact Ext.refl _ | apply Ext.drew | apply Ext.alloc | apply Ext.more_)⟩
  · have hz' : mb ≠ 0 := fun h => hz (h0.2 h)
    have e0 : (ma == 0) = false := by simp [hz]
    obtain ⟨b1, b2, b3⟩ := Rt_bd h1
    obtain ⟨b4, b5, b6⟩ := Rt_bd h2
    have hma : I64 ma := by unfold I64; omega
    have hmb : I64 mb := by unfold I64; omega
    have hsa := fun W => size_nat ma W hma
    have hsb := fun W => size_nat mb W hmb
    have hca := fun W => count_nat ma.natAbs W (by omega) (by omega)
    have hcb := fun W => count_nat mb.natAbs W (by omega) (by omega)
    have hT15 : T 15 = 1000000000000000 := by decide
    have n1 : nd ma.natAbs ≤ 15 := (nd_le_iff _ _).2 (by omega)
    have n2 : nd mb.natAbs ≤ 15 := (nd_le_iff _ _).2 (by omega)
    have hpa := fun W => power_any (15 - nd ma.natAbs) W (by omega)
    have hpb := fun W => power_any (15 - nd mb.natAbs) W (by omega)
    have hna : ma.natAbs ≠ 0 := by omega
    have hnb : mb.natAbs ≠ 0 := by omega
    have l1 : ma.natAbs * T (15 - nd ma.natAbs) < 1000000000000000 := by
      have := Nat.mul_lt_mul_of_pos_right (lt_T_nd ma.natAbs) (T_pos (15 - nd ma.natAbs))
      rw [← T_add, show nd ma.natAbs + (15 - nd ma.natAbs) = 15 by omega, hT15] at this; exact this
    have l2 : mb.natAbs * T (15 - nd mb.natAbs) < 1000000000000000 := by
      have := Nat.mul_lt_mul_of_pos_right (lt_T_nd mb.natAbs) (T_pos (15 - nd mb.natAbs))
      rw [← T_add, show nd mb.natAbs + (15 - nd mb.natAbs) = 15 by omega, hT15] at this; exact this
    have ct1 := cmp_top (x := ma.natAbs) (y := mb.natAbs) (ka := ka) (kb := kb) hna hnb
    have ct2 := cmp_top (x := mb.natAbs) (y := ma.natAbs) (ka := kb) (kb := ka) hnb hna
    have ct3 := cmp_same (x := ma.natAbs) (y := mb.natAbs) (ka := ka) (kb := kb) n1 n2
    clear h1 h2 h0 hz hz' hna hnb hT15
    generalize ma.natAbs = Na at *
    generalize mb.natAbs = Nb at *
    have ca : (15 : Int) - (nd Na : Int) = ((15 - nd Na : Nat) : Int) := by omega
    have cb : (15 : Int) - (nd Nb : Int) = ((15 - nd Nb : Nat) : Int) := by omega
    generalize hda : nd Na = da at *
    generalize hdb : nd Nb = db at *
    clear hda hdb
    rcases Int.lt_trichotomy ((da : Int) + ea) ((db : Int) + eb) with ht | ht | ht
    · have hR : cmpN (Na * T ka) (Nb * T kb) = -1 := by unfold cmpN; rw [if_pos (ct1 (by omega))]
      rw [hR]
      have e1 : ((da : Int) + ea == (db : Int) + eb) = false := by simp; omega
      clear ct1 ct2 ct3 hk
      go_enter Tryd.func86, Tryd.ntmps86
      go_wp2
      refine wp_plan (S := Ext _) [(0, 0), (1, 0), (3, 0), (4, 0), (2, 1), (5, 1), (6, 0), (7, 0)] [] (by kernel_rfl) (by kernel_rfl) (by kernel_rfl) (fun _ _ d _ _ h => by cases d <;> exact h) (Ext.drew (Ext.refl _)) ?_
      iterate 4 ((refine wpPl_read (v := ?_) rfl ?_ (fun _ h => ?_) ?_; rotate_left 1; rfl; (obtain ⟨_, _, rfl⟩ := h.more; go_simp; try rfl)); try simp only [Act.put, zqA, zqB, zqC])
      (refine wpPl_eff rfl ?_ (fun K hK => ?_); rfl; go_simp; (go_at_call 66; (with_reducible refine (hsa _).mono ?_); rintro e w' ⟨rfl, rfl⟩); refine hK _ _ ?_ ?_; (repeat (first | (with_reducible (first | exact Ext.refl _ | exact ext_d _ _ _ _ | exact ext_app _ _ _ _ _ | exact ext_app2 _ _ _ _ _ _ | exact ext_app3 _ _ _ _ _ _ _ | exact ext_app4 _ _ _ _ _ _ _ _ | exact ext_app5 _ _ _ _ _ _ _ _ _)) | ((with_reducible refine ext_suffix ⟨_, ?_⟩); (try simp only [Array.append_assoc]); rfl) | (with_reducible (first | apply Ext.drew | apply Ext.alloc | apply Ext.more_)) | apply Ext.drew | apply Ext.alloc | apply Ext.more_)))
      try simp only [Act.put, zqA, zqB, zqC]
      (refine wpPl_eff rfl ?_ (fun K hK => ?_); rfl; go_simp; (go_at_call 66; (with_reducible refine (hsb _).mono ?_); rintro e w' ⟨rfl, rfl⟩); refine hK _ _ ?_ ?_; (repeat (first | (with_reducible (first | exact Ext.refl _ | exact ext_d _ _ _ _ | exact ext_app _ _ _ _ _ | exact ext_app2 _ _ _ _ _ _ | exact ext_app3 _ _ _ _ _ _ _ | exact ext_app4 _ _ _ _ _ _ _ _ | exact ext_app5 _ _ _ _ _ _ _ _ _)) | ((with_reducible refine ext_suffix ⟨_, ?_⟩); (try simp only [Array.append_assoc]); rfl) | (with_reducible (first | apply Ext.drew | apply Ext.alloc | apply Ext.more_)) | apply Ext.drew | apply Ext.alloc | apply Ext.more_)))
      try simp only [Act.put, zqA, zqB, zqC]
      iterate 2 ((refine wpPl_read (v := ?_) rfl ?_ (fun _ h => ?_) ?_; rotate_left 1; rfl; (obtain ⟨_, _, rfl⟩ := h.more; go_simp; try rfl)); try simp only [Act.put, zqA, zqB, zqC])
      refine wpPl_nil ?_
      go_wp2_with (first | (go_at_call_of 67 (Value.int IntKind.u64 (Na : Int)); (with_reducible refine (hca _).mono ?_); rintro e w' ⟨rfl, rfl⟩) | (go_at_call 67; (with_reducible refine (hcb _).mono ?_); rintro e w' ⟨rfl, rfl⟩))
      refine wp_plan (S := Ext _) [(0, 0), (1, 0), (2, 0), (3, 0), (4, 0), (5, 0), (6, 0), (7, 0), (8, 0), (9, 0)] [] (by kernel_rfl) (by kernel_rfl) (by kernel_rfl) (fun _ _ d _ _ h => by cases d <;> exact h) (Ext.drew (Ext.refl _)) ?_
      iterate 10 ((refine wpPl_read (v := ?_) rfl ?_ (fun _ h => ?_) ?_; rotate_left 1; rfl; (obtain ⟨_, _, rfl⟩ := h.more; go_simp; try rfl)); try simp only [Act.put, zqA, zqB, zqC])
      refine wpPl_nil ?_
      go_wp2
      go_ret
      exact ⟨rfl, by with_reducible repeat (first | exact Ext.refl _ | apply Ext.drew | apply Ext.alloc | apply Ext.more_)⟩
    · have hR := ct3 (by omega)
      rw [hR]
      have e1 : ((da : Int) + ea == (db : Int) + eb) = true := by simp; omega
      clear ct1 ct2 ct3 hk hR
      generalize T (15 - da) = Ta at *
      generalize T (15 - db) = Tb at *
      have m1 : (Na : Int) * (Ta : Int) = ((Na * Ta : Nat) : Int) := by rw [Int.natCast_mul]
      have m2 : (Nb : Int) * (Tb : Int) = ((Nb * Tb : Nat) : Int) := by rw [Int.natCast_mul]
      generalize Na * Ta = Pa at *
      generalize Nb * Tb = Pb at *
      have w1 : IntKind.u64.wrap (Pa : Int) = Pa := by rw [IntKind.wrap_u64]; omega
      have w2 : IntKind.u64.wrap (Pb : Int) = Pb := by rw [IntKind.wrap_u64]; omega
      rcases Nat.lt_trichotomy Pa Pb with hc | hc | hc
      · have hR : cmpN Pa Pb = -1 := by unfold cmpN; rw [if_pos hc]
        rw [hR]
        go_enter Tryd.func86, Tryd.ntmps86
        go_wp2
        refine wp_plan (S := Ext _) [(0, 0), (1, 0), (3, 0), (4, 0), (2, 1), (5, 1), (6, 0), (7, 0)] [] (by kernel_rfl) (by kernel_rfl) (by kernel_rfl) (fun _ _ d _ _ h => by cases d <;> exact h) (Ext.drew (Ext.refl _)) ?_
        iterate 4 ((refine wpPl_read (v := ?_) rfl ?_ (fun _ h => ?_) ?_; rotate_left 1; rfl; (obtain ⟨_, _, rfl⟩ := h.more; go_simp; try rfl)); try simp only [Act.put, zqA, zqB, zqC])
        (refine wpPl_eff rfl ?_ (fun K hK => ?_); rfl; go_simp; (go_at_call 66; (with_reducible refine (hsa _).mono ?_); rintro e w' ⟨rfl, rfl⟩); refine hK _ _ ?_ ?_; (repeat (first | (with_reducible (first | exact Ext.refl _ | exact ext_d _ _ _ _ | exact ext_app _ _ _ _ _ | exact ext_app2 _ _ _ _ _ _ | exact ext_app3 _ _ _ _ _ _ _ | exact ext_app4 _ _ _ _ _ _ _ _ | exact ext_app5 _ _ _ _ _ _ _ _ _)) | ((with_reducible refine ext_suffix ⟨_, ?_⟩); (try simp only [Array.append_assoc]); rfl) | (with_reducible (first | apply Ext.drew | apply Ext.alloc | apply Ext.more_)) | apply Ext.drew | apply Ext.alloc | apply Ext.more_)))
        try simp only [Act.put, zqA, zqB, zqC]
        (refine wpPl_eff rfl ?_ (fun K hK => ?_); rfl; go_simp; (go_at_call 66; (with_reducible refine (hsb _).mono ?_); rintro e w' ⟨rfl, rfl⟩); refine hK _ _ ?_ ?_; (repeat (first | (with_reducible (first | exact Ext.refl _ | exact ext_d _ _ _ _ | exact ext_app _ _ _ _ _ | exact ext_app2 _ _ _ _ _ _ | exact ext_app3 _ _ _ _ _ _ _ | exact ext_app4 _ _ _ _ _ _ _ _ | exact ext_app5 _ _ _ _ _ _ _ _ _)) | ((with_reducible refine ext_suffix ⟨_, ?_⟩); (try simp only [Array.append_assoc]); rfl) | (with_reducible (first | apply Ext.drew | apply Ext.alloc | apply Ext.more_)) | apply Ext.drew | apply Ext.alloc | apply Ext.more_)))
        try simp only [Act.put, zqA, zqB, zqC]
        iterate 2 ((refine wpPl_read (v := ?_) rfl ?_ (fun _ h => ?_) ?_; rotate_left 1; rfl; (obtain ⟨_, _, rfl⟩ := h.more; go_simp; try rfl)); try simp only [Act.put, zqA, zqB, zqC])
        refine wpPl_nil ?_
        go_wp2_with (first | (go_at_call_of 67 (Value.int IntKind.u64 (Na : Int)); (with_reducible refine (hca _).mono ?_); rintro e w' ⟨rfl, rfl⟩) | (go_at_call 67; (with_reducible refine (hcb _).mono ?_); rintro e w' ⟨rfl, rfl⟩))
        refine wp_plan (S := Ext _) [(0, 0), (1, 0), (2, 0), (3, 0), (4, 0), (5, 0), (6, 0), (7, 0), (8, 0), (9, 0)] [] (by kernel_rfl) (by kernel_rfl) (by kernel_rfl) (fun _ _ d _ _ h => by cases d <;> exact h) (Ext.drew (Ext.refl _)) ?_
        iterate 10 ((refine wpPl_read (v := ?_) rfl ?_ (fun _ h => ?_) ?_; rotate_left 1; rfl; (obtain ⟨_, _, rfl⟩ := h.more; go_simp; try rfl)); try simp only [Act.put, zqA, zqB, zqC])
        refine wpPl_nil ?_
        go_wp2_with (first | (go_at_call 70; (with_reducible refine (hpa _).mono ?_); rintro e w' ⟨rfl, rfl⟩) | (go_at_call 70; (with_reducible refine (hpb _).mono ?_); rintro e w' ⟨rfl, rfl⟩))
        go_ret
        exact ⟨rfl, by with_reducible repeat (first | exact Ext.refl _ | apply Ext.drew | apply Ext.alloc | apply Ext.more_)⟩
      · have hR : cmpN Pa Pb = 0 := by unfold cmpN; rw [if_neg (by omega), if_neg (by omega)]
        rw [hR]
        go_enter Tryd.func86, Tryd.ntmps86
        go_wp2
        refine wp_plan (S := Ext _) [(0, 0), (1, 0), (3, 0), (4, 0), (2, 1), (5, 1), (6, 0), (7, 0)] [] (by kernel_rfl) (by kernel_rfl) (by kernel_rfl) (fun _ _ d _ _ h => by cases d <;> exact h) (Ext.drew (Ext.refl _)) ?_
        iterate 4 ((refine wpPl_read (v := ?_) rfl ?_ (fun _ h => ?_) ?_; rotate_left 1; rfl; (obtain ⟨_, _, rfl⟩ := h.more; go_simp; try rfl)); try simp only [Act.put, zqA, zqB, zqC])
        (refine wpPl_eff rfl ?_ (fun K hK => ?_); rfl; go_simp; (go_at_call 66; (with_reducible refine (hsa _).mono ?_); rintro e w' ⟨rfl, rfl⟩); refine hK _ _ ?_ ?_; (repeat (first | (with_reducible (first | exact Ext.refl _ | exact ext_d _ _ _ _ | exact ext_app _ _ _ _ _ | exact ext_app2 _ _ _ _ _ _ | exact ext_app3 _ _ _ _ _ _ _ | exact ext_app4 _ _ _ _ _ _ _ _ | exact ext_app5 _ _ _ _ _ _ _ _ _)) | ((with_reducible refine ext_suffix ⟨_, ?_⟩); (try simp only [Array.append_assoc]); rfl) | (with_reducible (first | apply Ext.drew | apply Ext.alloc | apply Ext.more_)) | apply Ext.drew | apply Ext.alloc | apply Ext.more_)))
        try simp only [Act.put, zqA, zqB, zqC]
        (refine wpPl_eff rfl ?_ (fun K hK => ?_); rfl; go_simp; (go_at_call 66; (with_reducible refine (hsb _).mono ?_); rintro e w' ⟨rfl, rfl⟩); refine hK _ _ ?_ ?_; (repeat (first | (with_reducible (first | exact Ext.refl _ | exact ext_d _ _ _ _ | exact ext_app _ _ _ _ _ | exact ext_app2 _ _ _ _ _ _ | exact ext_app3 _ _ _ _ _ _ _ | exact ext_app4 _ _ _ _ _ _ _ _ | exact ext_app5 _ _ _ _ _ _ _ _ _)) | ((with_reducible refine ext_suffix ⟨_, ?_⟩); (try simp only [Array.append_assoc]); rfl) | (with_reducible (first | apply Ext.drew | apply Ext.alloc | apply Ext.more_)) | apply Ext.drew | apply Ext.alloc | apply Ext.more_)))
        try simp only [Act.put, zqA, zqB, zqC]
        iterate 2 ((refine wpPl_read (v := ?_) rfl ?_ (fun _ h => ?_) ?_; rotate_left 1; rfl; (obtain ⟨_, _, rfl⟩ := h.more; go_simp; try rfl)); try simp only [Act.put, zqA, zqB, zqC])
        refine wpPl_nil ?_
        go_wp2_with (first | (go_at_call_of 67 (Value.int IntKind.u64 (Na : Int)); (with_reducible refine (hca _).mono ?_); rintro e w' ⟨rfl, rfl⟩) | (go_at_call 67; (with_reducible refine (hcb _).mono ?_); rintro e w' ⟨rfl, rfl⟩))
        refine wp_plan (S := Ext _) [(0, 0), (1, 0), (2, 0), (3, 0), (4, 0), (5, 0), (6, 0), (7, 0), (8, 0), (9, 0)] [] (by kernel_rfl) (by kernel_rfl) (by kernel_rfl) (fun _ _ d _ _ h => by cases d <;> exact h) (Ext.drew (Ext.refl _)) ?_
        iterate 10 ((refine wpPl_read (v := ?_) rfl ?_ (fun _ h => ?_) ?_; rotate_left 1; rfl; (obtain ⟨_, _, rfl⟩ := h.more; go_simp; try rfl)); try simp only [Act.put, zqA, zqB, zqC])
        refine wpPl_nil ?_
        go_wp2_with (first | (go_at_call 70; (with_reducible refine (hpa _).mono ?_); rintro e w' ⟨rfl, rfl⟩) | (go_at_call 70; (with_reducible refine (hpb _).mono ?_); rintro e w' ⟨rfl, rfl⟩))
        go_ret
        exact ⟨rfl, by with_reducible repeat (first | exact Ext.refl _ | apply Ext.drew | apply Ext.alloc | apply Ext.more_)⟩
      · have hR : cmpN Pa Pb = 1 := by unfold cmpN; rw [if_neg (by omega), if_pos (by omega)]
        rw [hR]
        have hc' : ¬ Pa < Pb := by omega
        go_enter Tryd.func86, Tryd.ntmps86
        go_wp2
        refine wp_plan (S := Ext _) [(0, 0), (1, 0), (3, 0), (4, 0), (2, 1), (5, 1), (6, 0), (7, 0)] [] (by kernel_rfl) (by kernel_rfl) (by kernel_rfl) (fun _ _ d _ _ h => by cases d <;> exact h) (Ext.drew (Ext.refl _)) ?_
        iterate 4 ((refine wpPl_read (v := ?_) rfl ?_ (fun _ h => ?_) ?_; rotate_left 1; rfl; (obtain ⟨_, _, rfl⟩ := h.more; go_simp; try rfl)); try simp only [Act.put, zqA, zqB, zqC])
        (refine wpPl_eff rfl ?_ (fun K hK => ?_); rfl; go_simp; (go_at_call 66; (with_reducible refine (hsa _).mono ?_); rintro e w' ⟨rfl, rfl⟩); refine hK _ _ ?_ ?_; (repeat (first | (with_reducible (first | exact Ext.refl _ | exact ext_d _ _ _ _ | exact ext_app _ _ _ _ _ | exact ext_app2 _ _ _ _ _ _ | exact ext_app3 _ _ _ _ _ _ _ | exact ext_app4 _ _ _ _ _ _ _ _ | exact ext_app5 _ _ _ _ _ _ _ _ _)) | ((with_reducible refine ext_suffix ⟨_, ?_⟩); (try simp only [Array.append_assoc]); rfl) | (with_reducible (first | apply Ext.drew | apply Ext.alloc | apply Ext.more_)) | apply Ext.drew | apply Ext.alloc | apply Ext.more_)))
        try simp only [Act.put, zqA, zqB, zqC]
        (refine wpPl_eff rfl ?_ (fun K hK => ?_); rfl; go_simp; (go_at_call 66; (with_reducible refine (hsb _).mono ?_); rintro e w' ⟨rfl, rfl⟩); refine hK _ _ ?_ ?_; (repeat (first | (with_reducible (first | exact Ext.refl _ | exact ext_d _ _ _ _ | exact ext_app _ _ _ _ _ | exact ext_app2 _ _ _ _ _ _ | exact ext_app3 _ _ _ _ _ _ _ | exact ext_app4 _ _ _ _ _ _ _ _ | exact ext_app5 _ _ _ _ _ _ _ _ _)) | ((with_reducible refine ext_suffix ⟨_, ?_⟩); (try simp only [Array.append_assoc]); rfl) | (with_reducible (first | apply Ext.drew | apply Ext.alloc | apply Ext.more_)) | apply Ext.drew | apply Ext.alloc | apply Ext.more_)))
        try simp only [Act.put, zqA, zqB, zqC]
        iterate 2 ((refine wpPl_read (v := ?_) rfl ?_ (fun _ h => ?_) ?_; rotate_left 1; rfl; (obtain ⟨_, _, rfl⟩ := h.more; go_simp; try rfl)); try simp only [Act.put, zqA, zqB, zqC])
        refine wpPl_nil ?_
        go_wp2_with (first | (go_at_call_of 67 (Value.int IntKind.u64 (Na : Int)); (with_reducible refine (hca _).mono ?_); rintro e w' ⟨rfl, rfl⟩) | (go_at_call 67; (with_reducible refine (hcb _).mono ?_); rintro e w' ⟨rfl, rfl⟩))
        refine wp_plan (S := Ext _) [(0, 0), (1, 0), (2, 0), (3, 0), (4, 0), (5, 0), (6, 0), (7, 0), (8, 0), (9, 0)] [] (by kernel_rfl) (by kernel_rfl) (by kernel_rfl) (fun _ _ d _ _ h => by cases d <;> exact h) (Ext.drew (Ext.refl _)) ?_
        iterate 10 ((refine wpPl_read (v := ?_) rfl ?_ (fun _ h => ?_) ?_; rotate_left 1; rfl; (obtain ⟨_, _, rfl⟩ := h.more; go_simp; try rfl)); try simp only [Act.put, zqA, zqB, zqC])
        refine wpPl_nil ?_
        go_wp2_with (first | (go_at_call 70; (with_reducible refine (hpa _).mono ?_); rintro e w' ⟨rfl, rfl⟩) | (go_at_call 70; (with_reducible refine (hpb _).mono ?_); rintro e w' ⟨rfl, rfl⟩))
        go_ret
        exact ⟨rfl, by with_reducible repeat (first | exact Ext.refl _ | apply Ext.drew | apply Ext.alloc | apply Ext.more_)⟩
    · have hR : cmpN (Na * T ka) (Nb * T kb) = 1 := by
        have := ct2 (by omega)
        unfold cmpN; rw [if_neg (by omega), if_pos this]
      rw [hR]
      have e1 : ((da : Int) + ea == (db : Int) + eb) = false := by simp; omega
      have e2 : ¬ ((da : Int) + ea < (db : Int) + eb) := by omega
      clear ct1 ct2 ct3 hk
      go_enter Tryd.func86, Tryd.ntmps86
      go_wp2
      refine wp_plan (S := Ext _) [(0, 0), (1, 0), (3, 0), (4, 0), (2, 1), (5, 1), (6, 0), (7, 0)] [] (by kernel_rfl) (by kernel_rfl) (by kernel_rfl) (fun _ _ d _ _ h => by cases d <;> exact h) (Ext.drew (Ext.refl _)) ?_
      iterate 4 ((refine wpPl_read (v := ?_) rfl ?_ (fun _ h => ?_) ?_; rotate_left 1; rfl; (obtain ⟨_, _, rfl⟩ := h.more; go_simp; try rfl)); try simp only [Act.put, zqA, zqB, zqC])
      (refine wpPl_eff rfl ?_ (fun K hK => ?_); rfl; go_simp; (go_at_call 66; (with_reducible refine (hsa _).mono ?_); rintro e w' ⟨rfl, rfl⟩); refine hK _ _ ?_ ?_; (repeat (first | (with_reducible (first | exact Ext.refl _ | exact ext_d _ _ _ _ | exact ext_app _ _ _ _ _ | exact ext_app2 _ _ _ _ _ _ | exact ext_app3 _ _ _ _ _ _ _ | exact ext_app4 _ _ _ _ _ _ _ _ | exact ext_app5 _ _ _ _ _ _ _ _ _)) | ((with_reducible refine ext_suffix ⟨_, ?_⟩); (try simp only [Array.append_assoc]); rfl) | (with_reducible (first | apply Ext.drew | apply Ext.alloc | apply Ext.more_)) | apply Ext.drew | apply Ext.alloc | apply Ext.more_)))
      try simp only [Act.put, zqA, zqB, zqC]
      (refine wpPl_eff rfl ?_ (fun K hK => ?_); rfl; go_simp; (go_at_call 66; (with_reducible refine (hsb _).mono ?_); rintro e w' ⟨rfl, rfl⟩); refine hK _ _ ?_ ?_; (repeat (first | (with_reducible (first | exact Ext.refl _ | exact ext_d _ _ _ _ | exact ext_app _ _ _ _ _ | exact ext_app2 _ _ _ _ _ _ | exact ext_app3 _ _ _ _ _ _ _ | exact ext_app4 _ _ _ _ _ _ _ _ | exact ext_app5 _ _ _ _ _ _ _ _ _)) | ((with_reducible refine ext_suffix ⟨_, ?_⟩); (try simp only [Array.append_assoc]); rfl) | (with_reducible (first | apply Ext.drew | apply Ext.alloc | apply Ext.more_)) | apply Ext.drew | apply Ext.alloc | apply Ext.more_)))
      try simp only [Act.put, zqA, zqB, zqC]
      iterate 2 ((refine wpPl_read (v := ?_) rfl ?_ (fun _ h => ?_) ?_; rotate_left 1; rfl; (obtain ⟨_, _, rfl⟩ := h.more; go_simp; try rfl)); try simp only [Act.put, zqA, zqB, zqC])
      refine wpPl_nil ?_
      go_wp2_with (first | (go_at_call_of 67 (Value.int IntKind.u64 (Na : Int)); (with_reducible refine (hca _).mono ?_); rintro e w' ⟨rfl, rfl⟩) | (go_at_call 67; (with_reducible refine (hcb _).mono ?_); rintro e w' ⟨rfl, rfl⟩))
      refine wp_plan (S := Ext _) [(0, 0), (1, 0), (2, 0), (3, 0), (4, 0), (5, 0), (6, 0), (7, 0), (8, 0), (9, 0)] [] (by kernel_rfl) (by kernel_rfl) (by kernel_rfl) (fun _ _ d _ _ h => by cases d <;> exact h) (Ext.drew (Ext.refl _)) ?_
      iterate 10 ((refine wpPl_read (v := ?_) rfl ?_ (fun _ h => ?_) ?_; rotate_left 1; rfl; (obtain ⟨_, _, rfl⟩ := h.more; go_simp; try rfl)); try simp only [Act.put, zqA, zqB, zqC])
      refine wpPl_nil ?_
      go_wp2
      go_ret
      exact ⟨rfl, by with_reducible repeat (first | exact Ext.refl _ | apply Ext.drew | apply Ext.alloc | apply Ext.more_)⟩
theorem cmp_sign (A B : Int) : (A - B).sign = if A.sign = B.sign then A.sign * cmpN A.natAbs B.natAbs else if A.sign < B.sign then -1 else 1 := by
  have hp : ∀ x : Int, 0 < x → x.sign = 1 := fun x h => Int.sign_eq_one_of_pos h
  have hn : ∀ x : Int, x < 0 → x.sign = -1 := fun x h => Int.sign_eq_neg_one_of_neg h
  have hz : (0 : Int).sign = 0 := rfl
  rcases Int.lt_trichotomy A 0 with a | a | a <;> rcases Int.lt_trichotomy B 0 with b | b | b
  · rw [hn A a, hn B b, if_pos rfl]
    unfold cmpN
    rcases Int.lt_trichotomy A B with c | c | c
    · rw [hn _ (by omega), if_neg (by omega), if_pos (by omega)]; rfl
    · rw [c, Int.sub_self, if_neg (by omega), if_neg (by omega)]; rfl
    · rw [hp _ (by omega), if_pos (by omega)]; rfl
  · rw [hn A a, b, hz, hn _ (by omega)]; rfl
  · rw [hn A a, hp B b, hn _ (by omega)]; rfl
  · rw [hn B b, a, hz, hp _ (by omega)]; rfl
  · rw [a, b]; rfl
  · rw [hp B b, a, hz, hn _ (by omega)]; rfl
  · rw [hp A a, hn B b, hp _ (by omega)]; rfl
  · rw [hp A a, b, hz, hp _ (by omega)]; rfl
  · rw [hp A a, hp B b, if_pos rfl]
    unfold cmpN
    rcases Int.lt_trichotomy A B with c | c | c
    · rw [hn _ (by omega), if_pos (by omega)]; rfl
    · rw [c, Int.sub_self, if_neg (by omega), if_neg (by omega)]; rfl
    · rw [hp _ (by omega), if_neg (by omega), if_pos (by omega)]; rfl
theorem sign_T (m : Int) (k : Nat) : (m * (T k : Nat)).sign = m.sign := by
  have h : ((T k : Nat) : Int).sign = 1 := Int.sign_eq_one_of_pos (by have := T_pos k; omega)
  rw [Int.sign_mul, h, Int.mul_one]
theorem cmp_sum (ma ea mb eb : Int) : (sumI ma ea (-mb) eb).sign = if ma.sign = mb.sign then ma.sign * cmpN (ma.natAbs * T (ea - min ea eb).toNat) (mb.natAbs * T (eb - min ea eb).toNat) else if ma.sign < mb.sign then -1 else 1 := by
  unfold sumI
  rw [Int.neg_mul, ← Int.sub_eq_add_neg, cmp_sign, sign_T, sign_T, Int.natAbs_mul, Int.natAbs_mul, Int.natAbs_natCast, Int.natAbs_natCast]
theorem sign_bd (m : Int) : -1 ≤ m.sign ∧ m.sign ≤ 1 := by
  rcases Int.lt_trichotomy m 0 with a | a | a
  · rw [Int.sign_eq_neg_one_of_neg a]; omega
  · rw [a]; decide
  · rw [Int.sign_eq_one_of_pos a]; omega
theorem cmpN_bd (x y : Nat) : -1 ≤ cmpN x y ∧ cmpN x y ≤ 1 := by unfold cmpN; split <;> (try split) <;> omega
set_option maxHeartbeats 4000000 in
theorem cmp_yes (ma ea mb eb : Int) (w : World) (h1 : Rt ma ea) (h2 : Rt mb eb) :
    Calls Tryd.prog 77 #[NV ma ea, NV mb eb] w fun e w' => e = .returned (.int .i64 (sumI ma ea (-mb) eb).sign) ∧ Ext w w' := by
  obtain ⟨b1, b2, b3⟩ := Rt_bd h1
  obtain ⟨b4, b5, b6⟩ := Rt_bd h2
  have hma : I64 ma := by unfold I64; omega
  have hmb : I64 mb := by unfold I64; omega
  have r1 := rtB_yes h1
  have r2 := rtB_yes h2
  have hsa := fun W => sign_any ma ea W
  have hsb := fun W => sign_any mb eb W
  have s1 := sign_bd ma
  have s2 := sign_bd mb
  rw [cmp_sum]
  by_cases hs : ma.sign = mb.sign
  · have hcs := fun W => cmpSize_any ma ea mb eb (ea - min ea eb).toNat (eb - min ea eb).toNat W h1 h2 (by rw [← Int.sign_eq_zero_iff_zero, ← Int.sign_eq_zero_iff_zero (a := mb), hs]) (by omega)
    rw [if_pos hs]
    have s3 := cmpN_bd (ma.natAbs * T (ea - min ea eb).toNat) (mb.natAbs * T (eb - min ea eb).toNat)
    generalize cmpN (ma.natAbs * T (ea - min ea eb).toNat) (mb.natAbs * T (eb - min ea eb).toNat) = C at *
    rw [← hs] at hsb
    clear s2 hs h1 h2
    generalize ma.sign = sa at *
    have w1 : IntKind.i64.wrap (sa * C) = sa * C := by
      have h6 : sa = -1 ∨ sa = 0 ∨ sa = 1 := by omega
      rcases h6 with h | h | h <;> rw [h] <;> exact i64w (by omega) (by omega)
    have w2 : wrap64 (sa * C) = sa * C := by
      have h6 : sa = -1 ∨ sa = 0 ∨ sa = 1 := by omega
      rcases h6 with h | h | h <;> rw [h] <;> exact IntWalk.wrap64_in _ (by omega)
    go_enter Tryd.func77, Tryd.ntmps77
    go_wp2_with (go_at_call 46; (with_reducible refine (right_rt _ _ _ (by assumption)).mono ?_); rintro e w' ⟨rfl, hbr⟩; obtain ⟨osr, dr, rfl⟩ := hbr.more)
    refine wp_plan (S := Ext _) [(0, 0), (2, 0), (1, 1), (3, 1), (4, 0), (5, 0)] [] (by kernel_rfl) (by kernel_rfl) (by kernel_rfl) (fun _ _ d _ _ h => by cases d <;> exact h) (Ext.drew (Ext.refl _)) ?_
    iterate 2 ((refine wpPl_read (v := ?_) rfl ?_ (fun _ h => ?_) ?_; rotate_left 1; rfl; (obtain ⟨_, _, rfl⟩ := h.more; go_simp; try rfl)); try simp only [Act.put, zqA, zqB, zqC])
    (refine wpPl_eff rfl ?_ (fun K hK => ?_); rfl; go_simp; (go_at_call 85; (with_reducible refine (hsa _).mono ?_); rintro e w' ⟨rfl, hx⟩; obtain ⟨os1, d1, rfl⟩ := hx.more); refine hK _ _ ?_ ?_; (repeat (first | (with_reducible (first | exact Ext.refl _ | exact ext_d _ _ _ _ | exact ext_app _ _ _ _ _ | exact ext_app2 _ _ _ _ _ _ | exact ext_app3 _ _ _ _ _ _ _ | exact ext_app4 _ _ _ _ _ _ _ _ | exact ext_app5 _ _ _ _ _ _ _ _ _)) | ((with_reducible refine ext_suffix ⟨_, ?_⟩); (try simp only [Array.append_assoc]); rfl) | (with_reducible (first | apply Ext.drew | apply Ext.alloc | apply Ext.more_)) | apply Ext.drew | apply Ext.alloc | apply Ext.more_)))
    try simp only [Act.put, zqA, zqB, zqC]
    (refine wpPl_eff rfl ?_ (fun K hK => ?_); rfl; go_simp; (go_at_call 85; (with_reducible refine (hsb _).mono ?_); rintro e w' ⟨rfl, hx⟩; obtain ⟨os2, d2, rfl⟩ := hx.more); refine hK _ _ ?_ ?_; (repeat (first | (with_reducible (first | exact Ext.refl _ | exact ext_d _ _ _ _ | exact ext_app _ _ _ _ _ | exact ext_app2 _ _ _ _ _ _ | exact ext_app3 _ _ _ _ _ _ _ | exact ext_app4 _ _ _ _ _ _ _ _ | exact ext_app5 _ _ _ _ _ _ _ _ _)) | ((with_reducible refine ext_suffix ⟨_, ?_⟩); (try simp only [Array.append_assoc]); rfl) | (with_reducible (first | apply Ext.drew | apply Ext.alloc | apply Ext.more_)) | apply Ext.drew | apply Ext.alloc | apply Ext.more_)))
    try simp only [Act.put, zqA, zqB, zqC]
    iterate 2 ((refine wpPl_read (v := ?_) rfl ?_ (fun _ h => ?_) ?_; rotate_left 1; rfl; (obtain ⟨_, _, rfl⟩ := h.more; go_simp; try rfl)); try simp only [Act.put, zqA, zqB, zqC])
    refine wpPl_nil ?_
    go_wp2
    refine wp_plan (S := Ext _) [(0, 0), (2, 0), (3, 0), (1, 1), (4, 1), (5, 0), (6, 0)] [] (by kernel_rfl) (by kernel_rfl) (by kernel_rfl) (fun _ _ d _ _ h => by cases d <;> exact h) (Ext.drew (Ext.refl _)) ?_
    iterate 3 ((refine wpPl_read (v := ?_) rfl ?_ (fun _ h => ?_) ?_; rotate_left 1; rfl; (obtain ⟨_, _, rfl⟩ := h.more; go_simp; try rfl)); try simp only [Act.put, zqA, zqB, zqC])
    (refine wpPl_eff rfl ?_ (fun K hK => ?_); rfl; go_simp; (go_at_call 85; (with_reducible refine (hsa _).mono ?_); rintro e w' ⟨rfl, hx⟩; obtain ⟨os1, d1, rfl⟩ := hx.more); refine hK _ _ ?_ ?_; (repeat (first | (with_reducible (first | exact Ext.refl _ | exact ext_d _ _ _ _ | exact ext_app _ _ _ _ _ | exact ext_app2 _ _ _ _ _ _ | exact ext_app3 _ _ _ _ _ _ _ | exact ext_app4 _ _ _ _ _ _ _ _ | exact ext_app5 _ _ _ _ _ _ _ _ _)) | ((with_reducible refine ext_suffix ⟨_, ?_⟩); (try simp only [Array.append_assoc]); rfl) | (with_reducible (first | apply Ext.drew | apply Ext.alloc | apply Ext.more_)) | apply Ext.drew | apply Ext.alloc | apply Ext.more_)))
    try simp only [Act.put, zqA, zqB, zqC]
    (refine wpPl_eff rfl ?_ (fun K hK => ?_); rfl; go_simp; (go_at_call 86; (with_reducible refine (hcs _).mono ?_); rintro e w' ⟨rfl, hx⟩; obtain ⟨os2, d2, rfl⟩ := hx.more); refine hK _ _ ?_ ?_; (repeat (first | (with_reducible (first | exact Ext.refl _ | exact ext_d _ _ _ _ | exact ext_app _ _ _ _ _ | exact ext_app2 _ _ _ _ _ _ | exact ext_app3 _ _ _ _ _ _ _ | exact ext_app4 _ _ _ _ _ _ _ _ | exact ext_app5 _ _ _ _ _ _ _ _ _)) | ((with_reducible refine ext_suffix ⟨_, ?_⟩); (try simp only [Array.append_assoc]); rfl) | (with_reducible (first | apply Ext.drew | apply Ext.alloc | apply Ext.more_)) | apply Ext.drew | apply Ext.alloc | apply Ext.more_)))
    try simp only [Act.put, zqA, zqB, zqC]
    iterate 2 ((refine wpPl_read (v := ?_) rfl ?_ (fun _ h => ?_) ?_; rotate_left 1; rfl; (obtain ⟨_, _, rfl⟩ := h.more; go_simp; try rfl)); try simp only [Act.put, zqA, zqB, zqC])
    refine wpPl_nil ?_
    go_wp2
    go_ret
    exact ⟨rfl, by with_reducible repeat (first | exact Ext.refl _ | apply Ext.drew | apply Ext.alloc | apply Ext.more_)⟩
  · rw [if_neg hs]
    have e1 : (ma.sign == mb.sign) = false := by simp [hs]
    generalize ma.sign = sa at *
    generalize mb.sign = sb at *
    by_cases hl : sa < sb
    · rw [if_pos hl]
      clear h1 h2 hs
      go_enter Tryd.func77, Tryd.ntmps77
      go_wp2_with (go_at_call 46; (with_reducible refine (right_rt _ _ _ (by assumption)).mono ?_); rintro e w' ⟨rfl, hbr⟩; obtain ⟨osr, dr, rfl⟩ := hbr.more)
      refine wp_plan (S := Ext _) [(0, 0), (2, 0), (1, 1), (3, 1), (4, 0), (5, 0)] [] (by kernel_rfl) (by kernel_rfl) (by kernel_rfl) (fun _ _ d _ _ h => by cases d <;> exact h) (Ext.drew (Ext.refl _)) ?_
      iterate 2 ((refine wpPl_read (v := ?_) rfl ?_ (fun _ h => ?_) ?_; rotate_left 1; rfl; (obtain ⟨_, _, rfl⟩ := h.more; go_simp; try rfl)); try simp only [Act.put, zqA, zqB, zqC])
      (refine wpPl_eff rfl ?_ (fun K hK => ?_); rfl; go_simp; (go_at_call 85; (with_reducible refine (hsa _).mono ?_); rintro e w' ⟨rfl, hx⟩; obtain ⟨os1, d1, rfl⟩ := hx.more); refine hK _ _ ?_ ?_; (repeat (first | (with_reducible (first | exact Ext.refl _ | exact ext_d _ _ _ _ | exact ext_app _ _ _ _ _ | exact ext_app2 _ _ _ _ _ _ | exact ext_app3 _ _ _ _ _ _ _ | exact ext_app4 _ _ _ _ _ _ _ _ | exact ext_app5 _ _ _ _ _ _ _ _ _)) | ((with_reducible refine ext_suffix ⟨_, ?_⟩); (try simp only [Array.append_assoc]); rfl) | (with_reducible (first | apply Ext.drew | apply Ext.alloc | apply Ext.more_)) | apply Ext.drew | apply Ext.alloc | apply Ext.more_)))
      try simp only [Act.put, zqA, zqB, zqC]
      (refine wpPl_eff rfl ?_ (fun K hK => ?_); rfl; go_simp; (go_at_call 85; (with_reducible refine (hsb _).mono ?_); rintro e w' ⟨rfl, hx⟩; obtain ⟨os2, d2, rfl⟩ := hx.more); refine hK _ _ ?_ ?_; (repeat (first | (with_reducible (first | exact Ext.refl _ | exact ext_d _ _ _ _ | exact ext_app _ _ _ _ _ | exact ext_app2 _ _ _ _ _ _ | exact ext_app3 _ _ _ _ _ _ _ | exact ext_app4 _ _ _ _ _ _ _ _ | exact ext_app5 _ _ _ _ _ _ _ _ _)) | ((with_reducible refine ext_suffix ⟨_, ?_⟩); (try simp only [Array.append_assoc]); rfl) | (with_reducible (first | apply Ext.drew | apply Ext.alloc | apply Ext.more_)) | apply Ext.drew | apply Ext.alloc | apply Ext.more_)))
      try simp only [Act.put, zqA, zqB, zqC]
      iterate 2 ((refine wpPl_read (v := ?_) rfl ?_ (fun _ h => ?_) ?_; rotate_left 1; rfl; (obtain ⟨_, _, rfl⟩ := h.more; go_simp; try rfl)); try simp only [Act.put, zqA, zqB, zqC])
      refine wpPl_nil ?_
      go_wp2
      go_ret
      exact ⟨rfl, by with_reducible repeat (first | exact Ext.refl _ | apply Ext.drew | apply Ext.alloc | apply Ext.more_)⟩
    · rw [if_neg hl]
      clear h1 h2 hs
      go_enter Tryd.func77, Tryd.ntmps77
      go_wp2_with (go_at_call 46; (with_reducible refine (right_rt _ _ _ (by assumption)).mono ?_); rintro e w' ⟨rfl, hbr⟩; obtain ⟨osr, dr, rfl⟩ := hbr.more)
      refine wp_plan (S := Ext _) [(0, 0), (2, 0), (1, 1), (3, 1), (4, 0), (5, 0)] [] (by kernel_rfl) (by kernel_rfl) (by kernel_rfl) (fun _ _ d _ _ h => by cases d <;> exact h) (Ext.drew (Ext.refl _)) ?_
      iterate 2 ((refine wpPl_read (v := ?_) rfl ?_ (fun _ h => ?_) ?_; rotate_left 1; rfl; (obtain ⟨_, _, rfl⟩ := h.more; go_simp; try rfl)); try simp only [Act.put, zqA, zqB, zqC])
      (refine wpPl_eff rfl ?_ (fun K hK => ?_); rfl; go_simp; (go_at_call 85; (with_reducible refine (hsa _).mono ?_); rintro e w' ⟨rfl, hx⟩; obtain ⟨os1, d1, rfl⟩ := hx.more); refine hK _ _ ?_ ?_; (repeat (first | (with_reducible (first | exact Ext.refl _ | exact ext_d _ _ _ _ | exact ext_app _ _ _ _ _ | exact ext_app2 _ _ _ _ _ _ | exact ext_app3 _ _ _ _ _ _ _ | exact ext_app4 _ _ _ _ _ _ _ _ | exact ext_app5 _ _ _ _ _ _ _ _ _)) | ((with_reducible refine ext_suffix ⟨_, ?_⟩); (try simp only [Array.append_assoc]); rfl) | (with_reducible (first | apply Ext.drew | apply Ext.alloc | apply Ext.more_)) | apply Ext.drew | apply Ext.alloc | apply Ext.more_)))
      try simp only [Act.put, zqA, zqB, zqC]
      (refine wpPl_eff rfl ?_ (fun K hK => ?_); rfl; go_simp; (go_at_call 85; (with_reducible refine (hsb _).mono ?_); rintro e w' ⟨rfl, hx⟩; obtain ⟨os2, d2, rfl⟩ := hx.more); refine hK _ _ ?_ ?_; (repeat (first | (with_reducible (first | exact Ext.refl _ | exact ext_d _ _ _ _ | exact ext_app _ _ _ _ _ | exact ext_app2 _ _ _ _ _ _ | exact ext_app3 _ _ _ _ _ _ _ | exact ext_app4 _ _ _ _ _ _ _ _ | exact ext_app5 _ _ _ _ _ _ _ _ _)) | ((with_reducible refine ext_suffix ⟨_, ?_⟩); (try simp only [Array.append_assoc]); rfl) | (with_reducible (first | apply Ext.drew | apply Ext.alloc | apply Ext.more_)) | apply Ext.drew | apply Ext.alloc | apply Ext.more_)))
      try simp only [Act.put, zqA, zqB, zqC]
      iterate 2 ((refine wpPl_read (v := ?_) rfl ?_ (fun _ h => ?_) ?_; rotate_left 1; rfl; (obtain ⟨_, _, rfl⟩ := h.more; go_simp; try rfl)); try simp only [Act.put, zqA, zqB, zqC])
      refine wpPl_nil ?_
      go_wp2
      go_ret
      exact ⟨rfl, by with_reducible repeat (first | exact Ext.refl _ | apply Ext.drew | apply Ext.alloc | apply Ext.more_)⟩
set_option maxHeartbeats 2000000 in
theorem cmp_any (ma ea mb eb : Int) (w : World) (hma : I64 ma) (hmb : I64 mb) :
    Calls Tryd.prog 77 #[NV ma ea, NV mb eb] w fun e w' => e = .returned (.int .i64 (cmpS ma ea mb eb)) ∧ Ext w w' := by
  unfold cmpS
  by_cases h1 : Rt ma ea
  · have r1 := rtB_yes h1
    by_cases h2 : Rt mb eb
    · rw [if_pos ⟨h1, h2⟩]; exact cmp_yes ma ea mb eb w h1 h2
    · have r2 := rtB_no h2
      rw [if_neg (fun h => h2 h.2)]
      clear h1 h2
      go_enter Tryd.func77, Tryd.ntmps77
      go_wp2_with (go_at_call 46; (with_reducible refine (right_rt _ _ _ (by assumption)).mono ?_); rintro e w' ⟨rfl, hbr⟩; obtain ⟨osr, dr, rfl⟩ := hbr.more)
      go_ret
      exact ⟨rfl, by with_reducible repeat (first | exact Ext.refl _ | apply Ext.drew | apply Ext.alloc | apply Ext.more_)⟩
  · have r1 := rtB_no h1
    rw [if_neg (fun h => h1 h.1)]
    clear h1
    go_enter Tryd.func77, Tryd.ntmps77
    go_wp2_with (go_at_call 46; (with_reducible refine (right_rt _ _ _ (by assumption)).mono ?_); rintro e w' ⟨rfl, hbr⟩; obtain ⟨osr, dr, rfl⟩ := hbr.more)
    go_ret
    exact ⟨rfl, by with_reducible repeat (first | exact Ext.refl _ | apply Ext.drew | apply Ext.alloc | apply Ext.more_)⟩
end Go.Proofs.YtljgagjipamdeaaDoor
namespace Go.Proofs.YtljgagjipamdeaaDoor
open NM
theorem T_cast_mul (a b : Nat) : ((T (a + b) : Nat) : Int) = (T a : Nat) * (T b : Nat) := by rw [T_add, Int.natCast_mul]
theorem sum_sc {ma ea mb eb : Int} (h1 : -100 ≤ ea) (h2 : -100 ≤ eb) : sumI ma ea mb eb * (T (min ea eb + 100).toNat : Nat) = sc ma ea + sc mb eb := by
  unfold sumI sc
  rw [Int.add_mul, Int.mul_assoc, Int.mul_assoc, ← T_cast_mul, ← T_cast_mul]
  congr 3
  · congr 2; omega
  · congr 2; omega
theorem sc_neg (m e : Int) : sc (-m) e = - sc m e := by unfold sc; rw [Int.neg_mul]
theorem cmp_sc {ma ea mb eb : Int} (h1 : Rt ma ea) (h2 : Rt mb eb) : cmpS ma ea mb eb = (sc ma ea - sc mb eb).sign := by
  obtain ⟨_, b2, b3⟩ := Rt_bd h1
  obtain ⟨_, b5, b6⟩ := Rt_bd h2
  unfold cmpS
  rw [if_pos ⟨h1, h2⟩, ← sign_T _ (min ea eb + 100).toNat, sum_sc (by omega) (by omega), sc_neg, Int.sub_eq_add_neg]
end Go.Proofs.YtljgagjipamdeaaDoor
namespace Go.Proofs.YtljgagjipamdeaaDoor
open Go.RowKit NM
def tl (t : ByteArray) : List UInt8 := t.data.toList
theorem tl_size (a : ByteArray) : (tl a).length = a.size := rfl
theorem tl_eq {a : ByteArray} {l : List UInt8} (h : tl a = l) : a = ⟨l.toArray⟩ := bytes_eq h
end Go.Proofs.YtljgagjipamdeaaDoor
namespace Go.Proofs.YtljgagjipamdeaaDoor
open Go.RowKit NM
def upB (b : UInt8) : UInt8 := if 97 ≤ b ∧ b ≤ 122 then b - 32 else b
def foldB (s : ByteArray) : ByteArray := ⟨((tl s).map upB).toArray⟩
theorem tl_fold (s : ByteArray) : tl (foldB s) = (tl s).map upB := by unfold foldB; rfl
theorem foldB_size (s : ByteArray) : (foldB s).size = s.size := by rw [← tl_size, tl_fold, List.length_map, tl_size]
def cmpT (a b : ByteArray) : Int := Lib.compareBytes (tl (foldB a)) (tl (foldB b))
def sgI (a b : Int) : Int := if a < b then -1 else if b < a then 1 else 0
def sgB (a b : Bool) : Int := if a = b then 0 else if b then -1 else 1
def Val.only (k : Int) : Val := ⟨k, 0, 0, ⟨#[]⟩, false, 0⟩
/-- value.beside. -/
def besideV (v w : Val) : Val := if v.kind ≠ 0 then v else if w.kind = 1 ∨ w.kind = 2 ∨ w.kind = 3 then Val.only w.kind else v
def cmpK (a b : Val) : Int :=
  if a.kind ≠ b.kind then (if a.kind < b.kind then -1 else 1)
  else if a.kind = 1 then cmpS a.mant a.exp b.mant b.exp
  else if a.kind = 2 then cmpT a.text b.text
  else if a.kind = 3 then sgB a.truth b.truth
  else if a.kind = 4 then sgI a.fault b.fault
  else 0
/-- value.Compare. -/
def cmpV (a b : Val) : Int := cmpK (besideV a b) (besideV b a)
/-- A kind that may be, and nothing told beside it where there is nothing. -/
def Val.sane (x : Val) : Prop := 0 ≤ x.kind ∧ x.kind ≤ 4 ∧ (x.kind = 0 → x.fault = 0)
/-- Blank has nothing told. -/
def Val.tidy (x : Val) : Prop := x.sane ∧ (x.kind = 0 → x = Val.only 0)
theorem cmpV_same {a b : Val} (h : a.kind = b.kind) : cmpV a b = cmpK a b := by
  unfold cmpV
  have h1 : ∀ x y : Val, x.kind = y.kind → besideV x y = x := fun x y e => by
    unfold besideV
    by_cases h0 : x.kind = 0
    · rw [if_neg (show ¬ (x.kind ≠ 0) from fun h => h h0), if_neg (show ¬ (y.kind = 1 ∨ y.kind = 2 ∨ y.kind = 3) by omega)]
    · rw [if_pos h0]
  rw [h1 a b h, h1 b a h.symm]
/-- What a right value is. -/
theorem right_cases {x : Val} (h : valRight x = true) : x.tidy ∧ (x.kind = 1 → numRightB x.mant x.exp = true) ∧ (x.kind = 2 → x.text.size ≤ 255) ∧ (x.kind = 4 → 1 ≤ x.fault ∧ x.fault ≤ 9) := by
  unfold valRight at h
  by_cases h0 : x.kind = 0
  · rw [if_pos h0] at h
    have := of_decide_eq_true h
    subst this
    exact ⟨⟨⟨by decide, by decide, fun _ => rfl⟩, fun _ => rfl⟩, fun h => absurd h (by decide), fun h => absurd h (by decide), fun h => absurd h (by decide)⟩
  · rw [if_neg h0] at h
    by_cases h1 : x.kind = 1
    · rw [if_pos h1, Bool.and_eq_true] at h
      exact ⟨⟨⟨by omega, by omega, fun h => by omega⟩, fun h => by omega⟩, fun _ => h.1, fun h => by omega, fun h => by omega⟩
    · rw [if_neg h1] at h
      by_cases h2 : x.kind = 2
      · rw [if_pos h2] at h
        have := of_decide_eq_true h
        refine ⟨⟨⟨by omega, by omega, fun h => by omega⟩, fun h => by omega⟩, fun h => by omega, fun _ => ?_, fun h => by omega⟩
        unfold textV at this
        by_cases h5 : 255 < x.text.size
        · rw [if_pos h5] at this; rw [this] at h2; cases h2
        · omega
      · rw [if_neg h2] at h
        by_cases h3 : x.kind = 3
        · exact ⟨⟨⟨by omega, by omega, fun h => by omega⟩, fun h => by omega⟩, fun h => by omega, fun h => by omega, fun h => by omega⟩
        · rw [if_neg h3] at h
          by_cases h4 : x.kind = 4
          · rw [if_pos h4] at h
            have := of_decide_eq_true h
            refine ⟨⟨⟨by omega, by omega, fun h => by omega⟩, fun h => by omega⟩, fun h => by omega, fun h => by omega, fun _ => ?_⟩
            have hf : x.fault = badF x.fault := congrArg Val.fault this
            unfold badF at hf
            split at hf <;> omega
          · rw [if_neg h4] at h; cases h
end Go.Proofs.YtljgagjipamdeaaDoor
namespace Go.Proofs.YtljgagjipamdeaaDoor
open Go.RowKit NM
/-- Where num's reader stands. -/
structure St where
  st : Nat
  neg : Bool
  npow : Bool
  ds : List Nat
  beh : Nat
  pow : Nat
def isD (c : Nat) : Bool := decide (48 ≤ c ∧ c ≤ 57)
def digS (s : St) (c : Nat) : St :=
  if s.st ≤ 2 then { s with st := 2, ds := s.ds ++ [c - 48] }
  else if s.st ≤ 4 then { s with st := 4, beh := s.beh + 1, ds := s.ds ++ [c - 48] }
  else { s with st := 7, pow := if s.pow < 100000 then s.pow * 10 + (c - 48) else s.pow }
def takeS (s : St) (c : Nat) : Option St :=
  if isD c = true then some (digS s c)
  else if c = 45 ∧ s.st = 0 then some { s with neg := true, st := 1 }
  else if c = 46 ∧ s.st ≤ 2 then some { s with st := 3 }
  else if (c = 101 ∨ c = 69) ∧ (s.st = 2 ∨ s.st = 4) then some { s with st := 5 }
  else if (c = 45 ∨ c = 43) ∧ s.st = 5 then some { s with npow := decide (c = 45), st := 6 }
  else none
def runS : List Nat → St → Option St
  | [], s => some s
  | c :: l, s => (takeS s c).bind (runS l)
def endS (s : St) : Option (Int × Int) :=
  if s.st = 2 ∨ s.st = 4 ∨ s.st = 7 then rnd s.neg (val s.ds) false ((if s.npow then -(s.pow : Int) else s.pow) - s.beh) else none
def st0 : St := ⟨0, false, false, [], 0, 0⟩
def parM (l : List Nat) : Option (Int × Int) := (runS l st0).bind endS
theorem runS_append (a b : List Nat) : ∀ s, runS (a ++ b) s = (runS a s).bind (runS b) := by
  induction a with
  | nil => intro s; rfl
  | cons c l ih =>
    intro s
    show (takeS s c).bind (runS (l ++ b)) = ((takeS s c).bind (runS l)).bind (runS b)
    cases takeS s c with
    | none => rfl
    | some s' => exact ih s'
end Go.Proofs.YtljgagjipamdeaaDoor
namespace Go.Proofs.YtljgagjipamdeaaDoor
open Go.RowKit NM
theorem own_slice1 {w : World} {base : Nat} {e : TypeId} {v : Value} {n : Nat} {xs : List Value} (h : w.ownsRow base e 1 v n xs) : ∃ A L c, v = .slice A L c := by
  obtain ⟨_, h2⟩ := h
  rcases h2 with ⟨rfl, _⟩ | ⟨g, cap, cur, rfl, _⟩
  · exact ⟨_, _, _, rfl⟩
  · exact ⟨_, _, _, rfl⟩
/-- What a reader leaves as it was. -/
structure Fr (base : Nat) (w w' : World) : Prop where
  low : Below base w w'
  it : ∀ (b : Nat) (s : ByteArray) (pos : Nat), w.heap[b]? = some (Obj.stringIter s pos) → w'.heap[b]? = some (Obj.stringIter s pos)
theorem Fr.refl (base : Nat) (w : World) : Fr base w w := ⟨Below.refl _ _, fun _ _ _ h => h⟩
theorem Fr.trans {base : Nat} {a b c : World} (h : Fr base a b) (k : Fr base b c) : Fr base a c := ⟨Below.trans h.low k.low, fun i s pos hi => k.it i s pos (h.it i s pos hi)⟩
/-- A reader in block q. -/
structure RD (base q : Nat) (st : Nat) (neg npow : Bool) (ds : List Nat) (beh pow : Nat) (v : Value) (w : World) : Prop where
  row : w.heap[q]? = some (.cells #[.int .i64 (st : Int), .bool neg, .bool npow, v, .int .i64 (beh : Int), .int .i64 (pow : Int)] 104 (0, 0))
  own : w.ownsRow base 5 1 v ds.length (b8 ds)
  qb : base ≤ q
section
variable {base q st beh pow : Nat} {neg npow : Bool} {ds : List Nat} {v : Value} {w : World}
theorem RD.at (h : RD base q st neg npow ds beh pow v w) : w.cell? ⟨q, 0, none⟩ = some (.int .i64 (st : Int)) ∧ w.cell? ⟨q, 1, none⟩ = some (.bool neg) ∧ w.cell? ⟨q, 2, none⟩ = some (.bool npow) ∧ w.cell? ⟨q, 3, none⟩ = some v ∧ w.cell? ⟨q, 4, none⟩ = some (.int .i64 (beh : Int)) ∧ w.cell? ⟨q, 5, none⟩ = some (.int .i64 (pow : Int)) := by
  refine ⟨?_, ?_, ?_, ?_, ?_, ?_⟩ <;> rw [cell_of_row w q _ _ _ (0, 0) h.row] <;> rfl
theorem RD.fz (h : RD base q st neg npow ds beh pow v w) (o : Nat) : w.frozen? ⟨q, o, none⟩ = false := frozen_of_row w q o _ _ h.row
theorem RD.lt (h : RD base q st neg npow ds beh pow v w) : q < w.heap.size := lt_block h.row
theorem RD.fr (h : RD base q st neg npow ds beh pow v w) (o : Nat) (x : Value) : Fr base w (w.setCell ⟨q, o, none⟩ x) :=
  ⟨Below.setCell (Below.refl _ _) h.qb x, fun b s pos hb => by
    rw [RowKit.Below.heap_setCell _ _ _ _ (fun he => by subst he; rw [h.row] at hb; cases hb)]; exact hb⟩
theorem RD.keep (h : RD base q st neg npow ds beh pow v w) (o : Nat) (x : Value) : (w.setCell ⟨q, o, none⟩ x).ownsRow base 5 1 v ds.length (b8 ds) :=
  own_keep h.own fun g cur hg => RowKit.Below.heap_setCell _ _ _ _ (fun he => by subst he; rw [h.row] at hg; cases hg)
theorem RD.set0 (h : RD base q st neg npow ds beh pow v w) (st' : Nat) : RD base q st' neg npow ds beh pow v (w.setCell ⟨q, 0, none⟩ (.int .i64 (st' : Int))) := ⟨heap_setCell_same w q 0 _ _ _ h.row, h.keep _ _, h.qb⟩
theorem RD.set1 (h : RD base q st neg npow ds beh pow v w) (n' : Bool) : RD base q st n' npow ds beh pow v (w.setCell ⟨q, 1, none⟩ (.bool n')) := ⟨heap_setCell_same w q 1 _ _ _ h.row, h.keep _ _, h.qb⟩
theorem RD.set2 (h : RD base q st neg npow ds beh pow v w) (n' : Bool) : RD base q st neg n' ds beh pow v (w.setCell ⟨q, 2, none⟩ (.bool n')) := ⟨heap_setCell_same w q 2 _ _ _ h.row, h.keep _ _, h.qb⟩
theorem RD.set4 (h : RD base q st neg npow ds beh pow v w) (b' : Nat) : RD base q st neg npow ds b' pow v (w.setCell ⟨q, 4, none⟩ (.int .i64 (b' : Int))) := ⟨heap_setCell_same w q 4 _ _ _ h.row, h.keep _ _, h.qb⟩
theorem RD.set5 (h : RD base q st neg npow ds beh pow v w) (p' : Nat) : RD base q st neg npow ds beh p' v (w.setCell ⟨q, 5, none⟩ (.int .i64 (p' : Int))) := ⟨heap_setCell_same w q 5 _ _ _ h.row, h.keep _ _, h.qb⟩
/-- One digit more. -/
theorem RD.grown {w3 : World} {v3 : Value} {o : Obj} {d : Nat} (h : RD base q st neg npow ds beh pow v w) (hg : (w.alloc o).grownBy w3 v.ownBlock) (ho : w3.ownsRow base 5 1 v3 (ds.length + 1) (b8 ds ++ [.int .u8 (d : Int)])) (hb : base ≤ w.heap.size) :
    w3.heap[q]? = w.heap[q]? ∧ RD base q st neg npow (ds ++ [d]) beh pow v3 (w3.setCell ⟨q, 3, none⟩ v3) ∧ Fr base w (w3.setCell ⟨q, 3, none⟩ v3) := by
  have hob := own_block1 h.own
  have hne : ∀ b, (∀ cur, w.heap[b]? ≠ some (.cells cur 5 (0, 0))) → some b ≠ v.ownBlock := fun b hb he => by
    obtain ⟨_, cur, hc⟩ := hob b he.symm
    exact hb cur hc
  have hk : ∀ b, b < w.heap.size → some b ≠ v.ownBlock → w3.heap[b]? = w.heap[b]? := fun b hb he => by
    rw [hg.block b (by simp; omega) he, RowKit.Below.heap_alloc _ o b hb]
  have hq : w3.heap[q]? = w.heap[q]? := hk q h.lt (hne q fun cur hc => by rw [h.row] at hc; cases hc)
  have hrow := h.row
  rw [← hq] at hrow
  have hsz := hg.size
  simp at hsz
  refine ⟨hq, ⟨heap_setCell_same w3 q 3 _ _ v3 hrow, ?_, h.qb⟩, ?_, ?_⟩
  · rw [List.length_append, b8, List.map_append]
    exact own_keep ho fun g cur hc => RowKit.Below.heap_setCell _ _ _ _ (fun he => by subst he; rw [hrow] at hc; cases hc)
  · have hbl : Below base w w3 := ⟨hg.os, hg.tape, hg.output, by omega, fun b hb' => hk b (by omega) fun he => by have := (hob b he.symm).1; omega⟩
    exact Below.setCell hbl h.qb v3
  · intro b s pos hb'
    rw [RowKit.Below.heap_setCell _ _ _ _ (fun he => by subst he; rw [h.row] at hb'; cases hb'), hk b (lt_block hb') (hne b fun cur hc => by rw [hb'] at hc; cases hc)]
    exact hb'
end
set_option maxHeartbeats 1000000 in
theorem digit_any (base q st : Nat) (neg npow : Bool) (ds : List Nat) (beh pow c : Nat) (v : Value) (w : World) (h : RD base q st neg npow ds beh pow v w) (hbw : base ≤ w.heap.size) (hc : 48 ≤ c ∧ c ≤ 57) (hst : st ≤ 7) (hds : ds.length ≤ 300) (hbeh : beh ≤ 300) (hpow : pow ≤ 1000000) :
    Calls Tryd.prog 88 #[.pointer (some ⟨q, 0, none⟩), .int .i32 (c : Int)] w fun r w' => r = .returned (.tuple #[]) ∧ ∃ s' v', digS ⟨st, neg, npow, ds, beh, pow⟩ c = s' ∧ RD base q s'.st s'.neg s'.npow s'.ds s'.beh s'.pow v' w' ∧ Fr base w w' := by
  obtain ⟨i0, hi, hz0, hz1, hz2⟩ := info_parts info_byte
  have hcd : (c : Int) - 48 = ((c - 48 : Nat) : Int) := by omega
  obtain ⟨c0, c1, c2, c3, c4, c5⟩ := h.at
  have f0 := h.fz 0
  have f4 := h.fz 4
  have f5 := h.fz 5
  have lq := h.lt
  have HR := Lib.hid h
  clear h
  have hst' : st = 0 ∨ st = 1 ∨ st = 2 ∨ st = 3 ∨ st = 4 ∨ st = 5 ∨ st = 6 ∨ st = 7 := by omega
  rcases hst' with rfl | rfl | rfl | rfl | rfl | rfl | rfl | rfl
  · go_enter Tryd.func88, Tryd.ntmps88; go_upto_region 12 with fail; refine wp_world fun W hW => ?_; (have hR : RD base q 2 neg npow ds beh pow v W := by rw [hW]; exact HR.out.set0 2); (have hF : Fr base w W := by rw [hW]; exact HR.out.fr _ _); (have hbW : base ≤ W.heap.size := Nat.le_trans hbw hF.low.size); clear hW HR c0 c1 c2 c3 c4 c5 f0 f4 f5 lq hbw; obtain ⟨c0, c1, c2, c3, c4, c5⟩ := hR.at; have lq := hR.lt; have HR := Lib.hid hR; clear hR; go_wp2_with (at_builtin; refine wpList_append_own _ rfl _ _ _ rfl base 5 i0 (.int .u8 0) 1 1 Tryd.underlying97 hi hz0 hz1 hz2 rfl (by decide) _ ds.length (b8 ds) rfl (own_keep HR.out.own fun g cur hg => RowKit.Below.heap_alloc _ _ g (lt_block hg)) _ 1 1 [.int .u8 ((c - 48 : Nat) : Int)] rfl rfl (Rd.one_ _ _ rfl).add (one_u8 _) (by simp [maxLen]; omega) (by omega) (by simp; omega) ?_; intro v3 w3 ho3 hg3 _; obtain ⟨A3, L3, C3, hv3⟩ := own_slice1 ho3; subst hv3; obtain ⟨hq3, hRD3, hFr3⟩ := HR.out.grown hg3 ho3 hbW; have hrow3 := HR.out.row; rw [← hq3] at hrow3; have fz3 := frozen_of_row w3 q 3 _ _ hrow3; have lt3 := lt_block hrow3; have q3 : w3.cell? ⟨q, 3, none⟩ = some v := by rw [cell_of_row w3 q 3 _ _ (0, 0) hrow3]; rfl); exact bodyPost_end (v := .tuple #[]) (by simp [results, Tryd.results88, go_sem]) rfl ⟨rfl, _, _, rfl, hRD3, hF.trans hFr3⟩
  · go_enter Tryd.func88, Tryd.ntmps88; go_upto_region 12 with fail; refine wp_world fun W hW => ?_; (have hR : RD base q 2 neg npow ds beh pow v W := by rw [hW]; exact HR.out.set0 2); (have hF : Fr base w W := by rw [hW]; exact HR.out.fr _ _); (have hbW : base ≤ W.heap.size := Nat.le_trans hbw hF.low.size); clear hW HR c0 c1 c2 c3 c4 c5 f0 f4 f5 lq hbw; obtain ⟨c0, c1, c2, c3, c4, c5⟩ := hR.at; have lq := hR.lt; have HR := Lib.hid hR; clear hR; go_wp2_with (at_builtin; refine wpList_append_own _ rfl _ _ _ rfl base 5 i0 (.int .u8 0) 1 1 Tryd.underlying97 hi hz0 hz1 hz2 rfl (by decide) _ ds.length (b8 ds) rfl (own_keep HR.out.own fun g cur hg => RowKit.Below.heap_alloc _ _ g (lt_block hg)) _ 1 1 [.int .u8 ((c - 48 : Nat) : Int)] rfl rfl (Rd.one_ _ _ rfl).add (one_u8 _) (by simp [maxLen]; omega) (by omega) (by simp; omega) ?_; intro v3 w3 ho3 hg3 _; obtain ⟨A3, L3, C3, hv3⟩ := own_slice1 ho3; subst hv3; obtain ⟨hq3, hRD3, hFr3⟩ := HR.out.grown hg3 ho3 hbW; have hrow3 := HR.out.row; rw [← hq3] at hrow3; have fz3 := frozen_of_row w3 q 3 _ _ hrow3; have lt3 := lt_block hrow3; have q3 : w3.cell? ⟨q, 3, none⟩ = some v := by rw [cell_of_row w3 q 3 _ _ (0, 0) hrow3]; rfl); exact bodyPost_end (v := .tuple #[]) (by simp [results, Tryd.results88, go_sem]) rfl ⟨rfl, _, _, rfl, hRD3, hF.trans hFr3⟩
  · go_enter Tryd.func88, Tryd.ntmps88; go_upto_region 12 with fail; refine wp_world fun W hW => ?_; (have hR : RD base q 2 neg npow ds beh pow v W := by rw [hW]; exact HR.out.set0 2); (have hF : Fr base w W := by rw [hW]; exact HR.out.fr _ _); (have hbW : base ≤ W.heap.size := Nat.le_trans hbw hF.low.size); clear hW HR c0 c1 c2 c3 c4 c5 f0 f4 f5 lq hbw; obtain ⟨c0, c1, c2, c3, c4, c5⟩ := hR.at; have lq := hR.lt; have HR := Lib.hid hR; clear hR; go_wp2_with (at_builtin; refine wpList_append_own _ rfl _ _ _ rfl base 5 i0 (.int .u8 0) 1 1 Tryd.underlying97 hi hz0 hz1 hz2 rfl (by decide) _ ds.length (b8 ds) rfl (own_keep HR.out.own fun g cur hg => RowKit.Below.heap_alloc _ _ g (lt_block hg)) _ 1 1 [.int .u8 ((c - 48 : Nat) : Int)] rfl rfl (Rd.one_ _ _ rfl).add (one_u8 _) (by simp [maxLen]; omega) (by omega) (by simp; omega) ?_; intro v3 w3 ho3 hg3 _; obtain ⟨A3, L3, C3, hv3⟩ := own_slice1 ho3; subst hv3; obtain ⟨hq3, hRD3, hFr3⟩ := HR.out.grown hg3 ho3 hbW; have hrow3 := HR.out.row; rw [← hq3] at hrow3; have fz3 := frozen_of_row w3 q 3 _ _ hrow3; have lt3 := lt_block hrow3; have q3 : w3.cell? ⟨q, 3, none⟩ = some v := by rw [cell_of_row w3 q 3 _ _ (0, 0) hrow3]; rfl); exact bodyPost_end (v := .tuple #[]) (by simp [results, Tryd.results88, go_sem]) rfl ⟨rfl, _, _, rfl, hRD3, hF.trans hFr3⟩
  · go_enter Tryd.func88, Tryd.ntmps88; go_upto_region 12 with fail; refine wp_world fun W hW => ?_; (have hR : RD base q 4 neg npow ds (beh + 1) pow v W := by rw [hW]; exact (HR.out.set0 4).set4 (beh + 1)); (have hF : Fr base w W := by rw [hW]; exact (HR.out.fr _ _).trans ((HR.out.set0 4).fr _ _)); (have hbW : base ≤ W.heap.size := Nat.le_trans hbw hF.low.size); clear hW HR c0 c1 c2 c3 c4 c5 f0 f4 f5 lq hbw; obtain ⟨c0, c1, c2, c3, c4, c5⟩ := hR.at; have lq := hR.lt; have HR := Lib.hid hR; clear hR; go_wp2_with (at_builtin; refine wpList_append_own _ rfl _ _ _ rfl base 5 i0 (.int .u8 0) 1 1 Tryd.underlying97 hi hz0 hz1 hz2 rfl (by decide) _ ds.length (b8 ds) rfl (own_keep HR.out.own fun g cur hg => RowKit.Below.heap_alloc _ _ g (lt_block hg)) _ 1 1 [.int .u8 ((c - 48 : Nat) : Int)] rfl rfl (Rd.one_ _ _ rfl).add (one_u8 _) (by simp [maxLen]; omega) (by omega) (by simp; omega) ?_; intro v3 w3 ho3 hg3 _; obtain ⟨A3, L3, C3, hv3⟩ := own_slice1 ho3; subst hv3; obtain ⟨hq3, hRD3, hFr3⟩ := HR.out.grown hg3 ho3 hbW; have hrow3 := HR.out.row; rw [← hq3] at hrow3; have fz3 := frozen_of_row w3 q 3 _ _ hrow3; have lt3 := lt_block hrow3; have q3 : w3.cell? ⟨q, 3, none⟩ = some v := by rw [cell_of_row w3 q 3 _ _ (0, 0) hrow3]; rfl); exact bodyPost_end (v := .tuple #[]) (by simp [results, Tryd.results88, go_sem]) rfl ⟨rfl, _, _, rfl, hRD3, hF.trans hFr3⟩
  · go_enter Tryd.func88, Tryd.ntmps88; go_upto_region 12 with fail; refine wp_world fun W hW => ?_; (have hR : RD base q 4 neg npow ds (beh + 1) pow v W := by rw [hW]; exact (HR.out.set0 4).set4 (beh + 1)); (have hF : Fr base w W := by rw [hW]; exact (HR.out.fr _ _).trans ((HR.out.set0 4).fr _ _)); (have hbW : base ≤ W.heap.size := Nat.le_trans hbw hF.low.size); clear hW HR c0 c1 c2 c3 c4 c5 f0 f4 f5 lq hbw; obtain ⟨c0, c1, c2, c3, c4, c5⟩ := hR.at; have lq := hR.lt; have HR := Lib.hid hR; clear hR; go_wp2_with (at_builtin; refine wpList_append_own _ rfl _ _ _ rfl base 5 i0 (.int .u8 0) 1 1 Tryd.underlying97 hi hz0 hz1 hz2 rfl (by decide) _ ds.length (b8 ds) rfl (own_keep HR.out.own fun g cur hg => RowKit.Below.heap_alloc _ _ g (lt_block hg)) _ 1 1 [.int .u8 ((c - 48 : Nat) : Int)] rfl rfl (Rd.one_ _ _ rfl).add (one_u8 _) (by simp [maxLen]; omega) (by omega) (by simp; omega) ?_; intro v3 w3 ho3 hg3 _; obtain ⟨A3, L3, C3, hv3⟩ := own_slice1 ho3; subst hv3; obtain ⟨hq3, hRD3, hFr3⟩ := HR.out.grown hg3 ho3 hbW; have hrow3 := HR.out.row; rw [← hq3] at hrow3; have fz3 := frozen_of_row w3 q 3 _ _ hrow3; have lt3 := lt_block hrow3; have q3 : w3.cell? ⟨q, 3, none⟩ = some v := by rw [cell_of_row w3 q 3 _ _ (0, 0) hrow3]; rfl); exact bodyPost_end (v := .tuple #[]) (by simp [results, Tryd.results88, go_sem]) rfl ⟨rfl, _, _, rfl, hRD3, hF.trans hFr3⟩
  · go_enter Tryd.func88, Tryd.ntmps88; go_upto_region 2 with fail; refine wp_world fun W hW => ?_; (have hR : RD base q 7 neg npow ds beh pow v W := by rw [hW]; exact HR.out.set0 7); (have hF : Fr base w W := by rw [hW]; exact HR.out.fr _ _); clear hW HR c0 c1 c2 c3 c4 c5 f0 f4 f5 lq hbw; obtain ⟨c0, c1, c2, c3, c4, c5⟩ := hR.at; have f5 := hR.fz 5; have lq := hR.lt; have HR := Lib.hid hR; clear hR; by_cases hp : pow < 100000
    · have hd : decide ((pow : Int) < 100000) = true := decide_eq_true (by omega)
      have HP := Lib.hid hp
      clear hp
      go_wp2_with fail
      refine bodyPost_ret (v := .tuple #[]) (by simp [results, Tryd.results88, go_sem]) rfl ⟨rfl, ⟨7, neg, npow, ds, beh, pow * 10 + (c - 48)⟩, v, by simp [digS, HP.out], ?_, hF.trans (HR.out.fr _ _)⟩
      have := HR.out.set5 (pow * 10 + (c - 48))
      rw [Int.natCast_add, Int.natCast_mul] at this
      exact this
    · have hd : decide ((pow : Int) < 100000) = false := decide_eq_false (by omega)
      have HP := Lib.hid hp
      clear hp
      go_wp2_with fail
      exact bodyPost_ret (v := .tuple #[]) (by simp [results, Tryd.results88, go_sem]) rfl ⟨rfl, ⟨7, neg, npow, ds, beh, pow⟩, v, by simp [digS, HP.out], HR.out, hF⟩
  · go_enter Tryd.func88, Tryd.ntmps88; go_upto_region 2 with fail; refine wp_world fun W hW => ?_; (have hR : RD base q 7 neg npow ds beh pow v W := by rw [hW]; exact HR.out.set0 7); (have hF : Fr base w W := by rw [hW]; exact HR.out.fr _ _); clear hW HR c0 c1 c2 c3 c4 c5 f0 f4 f5 lq hbw; obtain ⟨c0, c1, c2, c3, c4, c5⟩ := hR.at; have f5 := hR.fz 5; have lq := hR.lt; have HR := Lib.hid hR; clear hR; by_cases hp : pow < 100000
    · have hd : decide ((pow : Int) < 100000) = true := decide_eq_true (by omega)
      have HP := Lib.hid hp
      clear hp
      go_wp2_with fail
      refine bodyPost_ret (v := .tuple #[]) (by simp [results, Tryd.results88, go_sem]) rfl ⟨rfl, ⟨7, neg, npow, ds, beh, pow * 10 + (c - 48)⟩, v, by simp [digS, HP.out], ?_, hF.trans (HR.out.fr _ _)⟩
      have := HR.out.set5 (pow * 10 + (c - 48))
      rw [Int.natCast_add, Int.natCast_mul] at this
      exact this
    · have hd : decide ((pow : Int) < 100000) = false := decide_eq_false (by omega)
      have HP := Lib.hid hp
      clear hp
      go_wp2_with fail
      exact bodyPost_ret (v := .tuple #[]) (by simp [results, Tryd.results88, go_sem]) rfl ⟨rfl, ⟨7, neg, npow, ds, beh, pow⟩, v, by simp [digS, HP.out], HR.out, hF⟩
  · go_enter Tryd.func88, Tryd.ntmps88; go_upto_region 2 with fail; refine wp_world fun W hW => ?_; (have hR : RD base q 7 neg npow ds beh pow v W := by rw [hW]; exact HR.out.set0 7); (have hF : Fr base w W := by rw [hW]; exact HR.out.fr _ _); clear hW HR c0 c1 c2 c3 c4 c5 f0 f4 f5 lq hbw; obtain ⟨c0, c1, c2, c3, c4, c5⟩ := hR.at; have f5 := hR.fz 5; have lq := hR.lt; have HR := Lib.hid hR; clear hR; by_cases hp : pow < 100000
    · have hd : decide ((pow : Int) < 100000) = true := decide_eq_true (by omega)
      have HP := Lib.hid hp
      clear hp
      go_wp2_with fail
      refine bodyPost_ret (v := .tuple #[]) (by simp [results, Tryd.results88, go_sem]) rfl ⟨rfl, ⟨7, neg, npow, ds, beh, pow * 10 + (c - 48)⟩, v, by simp [digS, HP.out], ?_, hF.trans (HR.out.fr _ _)⟩
      have := HR.out.set5 (pow * 10 + (c - 48))
      rw [Int.natCast_add, Int.natCast_mul] at this
      exact this
    · have hd : decide ((pow : Int) < 100000) = false := decide_eq_false (by omega)
      have HP := Lib.hid hp
      clear hp
      go_wp2_with fail
      exact bodyPost_ret (v := .tuple #[]) (by simp [results, Tryd.results88, go_sem]) rfl ⟨rfl, ⟨7, neg, npow, ds, beh, pow⟩, v, by simp [digS, HP.out], HR.out, hF⟩
end Go.Proofs.YtljgagjipamdeaaDoor
namespace Go.Proofs.YtljgagjipamdeaaDoor
open Go.RowKit NM
set_option maxHeartbeats 1000000 in
theorem take_any (base q st : Nat) (neg npow : Bool) (ds : List Nat) (beh pow c : Nat) (v : Value) (w : World) (h : RD base q st neg npow ds beh pow v w) (hbw : base ≤ w.heap.size) (hst : st ≤ 7) (hds : ds.length ≤ 300) (hbeh : beh ≤ 300) (hpow : pow ≤ 1000000) :
    Calls Tryd.prog 81 #[.pointer (some ⟨q, 0, none⟩), .int .i32 (c : Int)] w fun r w' => r = .returned (.bool (takeS ⟨st, neg, npow, ds, beh, pow⟩ c).isSome) ∧ Fr base w w' ∧ ∀ s', takeS ⟨st, neg, npow, ds, beh, pow⟩ c = some s' → ∃ v', RD base q s'.st s'.neg s'.npow s'.ds s'.beh s'.pow v' w' := by
  obtain ⟨c0, c1, c2, c3, c4, c5⟩ := h.at
  have f0 := h.fz 0
  have f1 := h.fz 1
  have f2 := h.fz 2
  have lq := h.lt
  by_cases hd : 48 ≤ c ∧ c ≤ 57
  · have hdg := digit_any base q st neg npow ds beh pow c v w h hbw hd hst hds hbeh hpow
    have hS : takeS ⟨st, neg, npow, ds, beh, pow⟩ c = some (digS ⟨st, neg, npow, ds, beh, pow⟩ c) := by unfold takeS isD; rw [if_pos (decide_eq_true hd)]
    have g1 : decide (48 ≤ (c : Int)) = true := decide_eq_true (by omega)
    have g2 : decide ((c : Int) ≤ 57) = true := decide_eq_true (by omega)
    have HS := Lib.hid hS
    clear h hS
    go_enter Tryd.func81, Tryd.ntmps81
    go_wp2_with (go_at_call 88; (with_reducible refine hdg.mono ?_); rintro e w' ⟨rfl, s', v', hs, hrd, hfr⟩)
    exact bodyPost_ret (v := .bool true) (by simp [results, Tryd.results81, go_sem]) rfl ⟨by rw [HS.out]; rfl, hfr, fun s'' h'' => by rw [HS.out] at h''; cases h''; rw [hs]; exact ⟨v', hrd⟩⟩
  · have HR := Lib.hid h
    have hst0 : (st = 0 ∨ st = 1 ∨ st = 2 ∨ st = 3 ∨ st = 4 ∨ st = 5 ∨ st = 6 ∨ st = 7) := by omega
    clear h
    by_cases h45 : c = 45
    · subst h45
      clear hd
      rcases hst0 with rfl | rfl | rfl | rfl | rfl | rfl | rfl | rfl
      · have HS : Hid (takeS ⟨0, neg, npow, ds, beh, pow⟩ 45 = some ⟨1, true, npow, ds, beh, pow⟩) := by show takeS _ _ = _; simp [takeS, isD]
        (go_enter Tryd.func81, Tryd.ntmps81; go_wp2_with fail; exact bodyPost_ret (v := .bool true) (by simp [results, Tryd.results81, go_sem]) rfl ⟨by rw [HS.out]; rfl, (HR.out.fr _ _).trans ((HR.out.set1 true).fr _ _), fun s' hs => by rw [HS.out] at hs; cases hs; exact ⟨v, (HR.out.set1 true).set0 1⟩⟩)
      · have HS : Hid (takeS ⟨1, neg, npow, ds, beh, pow⟩ 45 = none) := by show takeS _ _ = _; simp [takeS, isD]
        (go_enter Tryd.func81, Tryd.ntmps81; go_wp2_with fail; exact bodyPost_ret (v := .bool false) (by simp [results, Tryd.results81, go_sem]) rfl ⟨by rw [HS.out]; rfl, Fr.refl _ _, fun s' hs => by rw [HS.out] at hs; cases hs⟩)
      · have HS : Hid (takeS ⟨2, neg, npow, ds, beh, pow⟩ 45 = none) := by show takeS _ _ = _; simp [takeS, isD]
        (go_enter Tryd.func81, Tryd.ntmps81; go_wp2_with fail; exact bodyPost_ret (v := .bool false) (by simp [results, Tryd.results81, go_sem]) rfl ⟨by rw [HS.out]; rfl, Fr.refl _ _, fun s' hs => by rw [HS.out] at hs; cases hs⟩)
      · have HS : Hid (takeS ⟨3, neg, npow, ds, beh, pow⟩ 45 = none) := by show takeS _ _ = _; simp [takeS, isD]
        (go_enter Tryd.func81, Tryd.ntmps81; go_wp2_with fail; exact bodyPost_ret (v := .bool false) (by simp [results, Tryd.results81, go_sem]) rfl ⟨by rw [HS.out]; rfl, Fr.refl _ _, fun s' hs => by rw [HS.out] at hs; cases hs⟩)
      · have HS : Hid (takeS ⟨4, neg, npow, ds, beh, pow⟩ 45 = none) := by show takeS _ _ = _; simp [takeS, isD]
        (go_enter Tryd.func81, Tryd.ntmps81; go_wp2_with fail; exact bodyPost_ret (v := .bool false) (by simp [results, Tryd.results81, go_sem]) rfl ⟨by rw [HS.out]; rfl, Fr.refl _ _, fun s' hs => by rw [HS.out] at hs; cases hs⟩)
      · have HS : Hid (takeS ⟨5, neg, npow, ds, beh, pow⟩ 45 = some ⟨6, neg, true, ds, beh, pow⟩) := by show takeS _ _ = _; simp [takeS, isD]
        (go_enter Tryd.func81, Tryd.ntmps81; go_wp2_with fail; exact bodyPost_ret (v := .bool true) (by simp [results, Tryd.results81, go_sem]) rfl ⟨by rw [HS.out]; rfl, (HR.out.fr _ _).trans ((HR.out.set2 true).fr _ _), fun s' hs => by rw [HS.out] at hs; cases hs; exact ⟨v, (HR.out.set2 true).set0 6⟩⟩)
      · have HS : Hid (takeS ⟨6, neg, npow, ds, beh, pow⟩ 45 = none) := by show takeS _ _ = _; simp [takeS, isD]
        (go_enter Tryd.func81, Tryd.ntmps81; go_wp2_with fail; exact bodyPost_ret (v := .bool false) (by simp [results, Tryd.results81, go_sem]) rfl ⟨by rw [HS.out]; rfl, Fr.refl _ _, fun s' hs => by rw [HS.out] at hs; cases hs⟩)
      · have HS : Hid (takeS ⟨7, neg, npow, ds, beh, pow⟩ 45 = none) := by show takeS _ _ = _; simp [takeS, isD]
        (go_enter Tryd.func81, Tryd.ntmps81; go_wp2_with fail; exact bodyPost_ret (v := .bool false) (by simp [results, Tryd.results81, go_sem]) rfl ⟨by rw [HS.out]; rfl, Fr.refl _ _, fun s' hs => by rw [HS.out] at hs; cases hs⟩)
    by_cases h43 : c = 43
    · subst h43
      clear hd
      rcases hst0 with rfl | rfl | rfl | rfl | rfl | rfl | rfl | rfl
      · have HS : Hid (takeS ⟨0, neg, npow, ds, beh, pow⟩ 43 = none) := by show takeS _ _ = _; simp [takeS, isD]
        (go_enter Tryd.func81, Tryd.ntmps81; go_wp2_with fail; exact bodyPost_ret (v := .bool false) (by simp [results, Tryd.results81, go_sem]) rfl ⟨by rw [HS.out]; rfl, Fr.refl _ _, fun s' hs => by rw [HS.out] at hs; cases hs⟩)
      · have HS : Hid (takeS ⟨1, neg, npow, ds, beh, pow⟩ 43 = none) := by show takeS _ _ = _; simp [takeS, isD]
        (go_enter Tryd.func81, Tryd.ntmps81; go_wp2_with fail; exact bodyPost_ret (v := .bool false) (by simp [results, Tryd.results81, go_sem]) rfl ⟨by rw [HS.out]; rfl, Fr.refl _ _, fun s' hs => by rw [HS.out] at hs; cases hs⟩)
      · have HS : Hid (takeS ⟨2, neg, npow, ds, beh, pow⟩ 43 = none) := by show takeS _ _ = _; simp [takeS, isD]
        (go_enter Tryd.func81, Tryd.ntmps81; go_wp2_with fail; exact bodyPost_ret (v := .bool false) (by simp [results, Tryd.results81, go_sem]) rfl ⟨by rw [HS.out]; rfl, Fr.refl _ _, fun s' hs => by rw [HS.out] at hs; cases hs⟩)
      · have HS : Hid (takeS ⟨3, neg, npow, ds, beh, pow⟩ 43 = none) := by show takeS _ _ = _; simp [takeS, isD]
        (go_enter Tryd.func81, Tryd.ntmps81; go_wp2_with fail; exact bodyPost_ret (v := .bool false) (by simp [results, Tryd.results81, go_sem]) rfl ⟨by rw [HS.out]; rfl, Fr.refl _ _, fun s' hs => by rw [HS.out] at hs; cases hs⟩)
      · have HS : Hid (takeS ⟨4, neg, npow, ds, beh, pow⟩ 43 = none) := by show takeS _ _ = _; simp [takeS, isD]
        (go_enter Tryd.func81, Tryd.ntmps81; go_wp2_with fail; exact bodyPost_ret (v := .bool false) (by simp [results, Tryd.results81, go_sem]) rfl ⟨by rw [HS.out]; rfl, Fr.refl _ _, fun s' hs => by rw [HS.out] at hs; cases hs⟩)
      · have HS : Hid (takeS ⟨5, neg, npow, ds, beh, pow⟩ 43 = some ⟨6, neg, false, ds, beh, pow⟩) := by show takeS _ _ = _; simp [takeS, isD]
        (go_enter Tryd.func81, Tryd.ntmps81; go_wp2_with fail; exact bodyPost_ret (v := .bool true) (by simp [results, Tryd.results81, go_sem]) rfl ⟨by rw [HS.out]; rfl, (HR.out.fr _ _).trans ((HR.out.set2 false).fr _ _), fun s' hs => by rw [HS.out] at hs; cases hs; exact ⟨v, (HR.out.set2 false).set0 6⟩⟩)
      · have HS : Hid (takeS ⟨6, neg, npow, ds, beh, pow⟩ 43 = none) := by show takeS _ _ = _; simp [takeS, isD]
        (go_enter Tryd.func81, Tryd.ntmps81; go_wp2_with fail; exact bodyPost_ret (v := .bool false) (by simp [results, Tryd.results81, go_sem]) rfl ⟨by rw [HS.out]; rfl, Fr.refl _ _, fun s' hs => by rw [HS.out] at hs; cases hs⟩)
      · have HS : Hid (takeS ⟨7, neg, npow, ds, beh, pow⟩ 43 = none) := by show takeS _ _ = _; simp [takeS, isD]
        (go_enter Tryd.func81, Tryd.ntmps81; go_wp2_with fail; exact bodyPost_ret (v := .bool false) (by simp [results, Tryd.results81, go_sem]) rfl ⟨by rw [HS.out]; rfl, Fr.refl _ _, fun s' hs => by rw [HS.out] at hs; cases hs⟩)
    by_cases h46 : c = 46
    · subst h46
      clear hd
      rcases hst0 with rfl | rfl | rfl | rfl | rfl | rfl | rfl | rfl
      · have HS : Hid (takeS ⟨0, neg, npow, ds, beh, pow⟩ 46 = some ⟨3, neg, npow, ds, beh, pow⟩) := by show takeS _ _ = _; simp [takeS, isD]
        (go_enter Tryd.func81, Tryd.ntmps81; go_wp2_with fail; exact bodyPost_ret (v := .bool true) (by simp [results, Tryd.results81, go_sem]) rfl ⟨by rw [HS.out]; rfl, HR.out.fr _ _, fun s' hs => by rw [HS.out] at hs; cases hs; exact ⟨v, HR.out.set0 3⟩⟩)
      · have HS : Hid (takeS ⟨1, neg, npow, ds, beh, pow⟩ 46 = some ⟨3, neg, npow, ds, beh, pow⟩) := by show takeS _ _ = _; simp [takeS, isD]
        (go_enter Tryd.func81, Tryd.ntmps81; go_wp2_with fail; exact bodyPost_ret (v := .bool true) (by simp [results, Tryd.results81, go_sem]) rfl ⟨by rw [HS.out]; rfl, HR.out.fr _ _, fun s' hs => by rw [HS.out] at hs; cases hs; exact ⟨v, HR.out.set0 3⟩⟩)
      · have HS : Hid (takeS ⟨2, neg, npow, ds, beh, pow⟩ 46 = some ⟨3, neg, npow, ds, beh, pow⟩) := by show takeS _ _ = _; simp [takeS, isD]
        (go_enter Tryd.func81, Tryd.ntmps81; go_wp2_with fail; exact bodyPost_ret (v := .bool true) (by simp [results, Tryd.results81, go_sem]) rfl ⟨by rw [HS.out]; rfl, HR.out.fr _ _, fun s' hs => by rw [HS.out] at hs; cases hs; exact ⟨v, HR.out.set0 3⟩⟩)
      · have HS : Hid (takeS ⟨3, neg, npow, ds, beh, pow⟩ 46 = none) := by show takeS _ _ = _; simp [takeS, isD]
        (go_enter Tryd.func81, Tryd.ntmps81; go_wp2_with fail; exact bodyPost_ret (v := .bool false) (by simp [results, Tryd.results81, go_sem]) rfl ⟨by rw [HS.out]; rfl, Fr.refl _ _, fun s' hs => by rw [HS.out] at hs; cases hs⟩)
      · have HS : Hid (takeS ⟨4, neg, npow, ds, beh, pow⟩ 46 = none) := by show takeS _ _ = _; simp [takeS, isD]
        (go_enter Tryd.func81, Tryd.ntmps81; go_wp2_with fail; exact bodyPost_ret (v := .bool false) (by simp [results, Tryd.results81, go_sem]) rfl ⟨by rw [HS.out]; rfl, Fr.refl _ _, fun s' hs => by rw [HS.out] at hs; cases hs⟩)
      · have HS : Hid (takeS ⟨5, neg, npow, ds, beh, pow⟩ 46 = none) := by show takeS _ _ = _; simp [takeS, isD]
        (go_enter Tryd.func81, Tryd.ntmps81; go_wp2_with fail; exact bodyPost_ret (v := .bool false) (by simp [results, Tryd.results81, go_sem]) rfl ⟨by rw [HS.out]; rfl, Fr.refl _ _, fun s' hs => by rw [HS.out] at hs; cases hs⟩)
      · have HS : Hid (takeS ⟨6, neg, npow, ds, beh, pow⟩ 46 = none) := by show takeS _ _ = _; simp [takeS, isD]
        (go_enter Tryd.func81, Tryd.ntmps81; go_wp2_with fail; exact bodyPost_ret (v := .bool false) (by simp [results, Tryd.results81, go_sem]) rfl ⟨by rw [HS.out]; rfl, Fr.refl _ _, fun s' hs => by rw [HS.out] at hs; cases hs⟩)
      · have HS : Hid (takeS ⟨7, neg, npow, ds, beh, pow⟩ 46 = none) := by show takeS _ _ = _; simp [takeS, isD]
        (go_enter Tryd.func81, Tryd.ntmps81; go_wp2_with fail; exact bodyPost_ret (v := .bool false) (by simp [results, Tryd.results81, go_sem]) rfl ⟨by rw [HS.out]; rfl, Fr.refl _ _, fun s' hs => by rw [HS.out] at hs; cases hs⟩)
    by_cases h101 : c = 101
    · subst h101
      clear hd
      rcases hst0 with rfl | rfl | rfl | rfl | rfl | rfl | rfl | rfl
      · have HS : Hid (takeS ⟨0, neg, npow, ds, beh, pow⟩ 101 = none) := by show takeS _ _ = _; simp [takeS, isD]
        (go_enter Tryd.func81, Tryd.ntmps81; go_wp2_with fail; exact bodyPost_ret (v := .bool false) (by simp [results, Tryd.results81, go_sem]) rfl ⟨by rw [HS.out]; rfl, Fr.refl _ _, fun s' hs => by rw [HS.out] at hs; cases hs⟩)
      · have HS : Hid (takeS ⟨1, neg, npow, ds, beh, pow⟩ 101 = none) := by show takeS _ _ = _; simp [takeS, isD]
        (go_enter Tryd.func81, Tryd.ntmps81; go_wp2_with fail; exact bodyPost_ret (v := .bool false) (by simp [results, Tryd.results81, go_sem]) rfl ⟨by rw [HS.out]; rfl, Fr.refl _ _, fun s' hs => by rw [HS.out] at hs; cases hs⟩)
      · have HS : Hid (takeS ⟨2, neg, npow, ds, beh, pow⟩ 101 = some ⟨5, neg, npow, ds, beh, pow⟩) := by show takeS _ _ = _; simp [takeS, isD]
        (go_enter Tryd.func81, Tryd.ntmps81; go_wp2_with fail; exact bodyPost_ret (v := .bool true) (by simp [results, Tryd.results81, go_sem]) rfl ⟨by rw [HS.out]; rfl, HR.out.fr _ _, fun s' hs => by rw [HS.out] at hs; cases hs; exact ⟨v, HR.out.set0 5⟩⟩)
      · have HS : Hid (takeS ⟨3, neg, npow, ds, beh, pow⟩ 101 = none) := by show takeS _ _ = _; simp [takeS, isD]
        (go_enter Tryd.func81, Tryd.ntmps81; go_wp2_with fail; exact bodyPost_ret (v := .bool false) (by simp [results, Tryd.results81, go_sem]) rfl ⟨by rw [HS.out]; rfl, Fr.refl _ _, fun s' hs => by rw [HS.out] at hs; cases hs⟩)
      · have HS : Hid (takeS ⟨4, neg, npow, ds, beh, pow⟩ 101 = some ⟨5, neg, npow, ds, beh, pow⟩) := by show takeS _ _ = _; simp [takeS, isD]
        (go_enter Tryd.func81, Tryd.ntmps81; go_wp2_with fail; exact bodyPost_ret (v := .bool true) (by simp [results, Tryd.results81, go_sem]) rfl ⟨by rw [HS.out]; rfl, HR.out.fr _ _, fun s' hs => by rw [HS.out] at hs; cases hs; exact ⟨v, HR.out.set0 5⟩⟩)
      · have HS : Hid (takeS ⟨5, neg, npow, ds, beh, pow⟩ 101 = none) := by show takeS _ _ = _; simp [takeS, isD]
        (go_enter Tryd.func81, Tryd.ntmps81; go_wp2_with fail; exact bodyPost_ret (v := .bool false) (by simp [results, Tryd.results81, go_sem]) rfl ⟨by rw [HS.out]; rfl, Fr.refl _ _, fun s' hs => by rw [HS.out] at hs; cases hs⟩)
      · have HS : Hid (takeS ⟨6, neg, npow, ds, beh, pow⟩ 101 = none) := by show takeS _ _ = _; simp [takeS, isD]
        (go_enter Tryd.func81, Tryd.ntmps81; go_wp2_with fail; exact bodyPost_ret (v := .bool false) (by simp [results, Tryd.results81, go_sem]) rfl ⟨by rw [HS.out]; rfl, Fr.refl _ _, fun s' hs => by rw [HS.out] at hs; cases hs⟩)
      · have HS : Hid (takeS ⟨7, neg, npow, ds, beh, pow⟩ 101 = none) := by show takeS _ _ = _; simp [takeS, isD]
        (go_enter Tryd.func81, Tryd.ntmps81; go_wp2_with fail; exact bodyPost_ret (v := .bool false) (by simp [results, Tryd.results81, go_sem]) rfl ⟨by rw [HS.out]; rfl, Fr.refl _ _, fun s' hs => by rw [HS.out] at hs; cases hs⟩)
    by_cases h69 : c = 69
    · subst h69
      clear hd
      rcases hst0 with rfl | rfl | rfl | rfl | rfl | rfl | rfl | rfl
      · have HS : Hid (takeS ⟨0, neg, npow, ds, beh, pow⟩ 69 = none) := by show takeS _ _ = _; simp [takeS, isD]
        (go_enter Tryd.func81, Tryd.ntmps81; go_wp2_with fail; exact bodyPost_ret (v := .bool false) (by simp [results, Tryd.results81, go_sem]) rfl ⟨by rw [HS.out]; rfl, Fr.refl _ _, fun s' hs => by rw [HS.out] at hs; cases hs⟩)
      · have HS : Hid (takeS ⟨1, neg, npow, ds, beh, pow⟩ 69 = none) := by show takeS _ _ = _; simp [takeS, isD]
        (go_enter Tryd.func81, Tryd.ntmps81; go_wp2_with fail; exact bodyPost_ret (v := .bool false) (by simp [results, Tryd.results81, go_sem]) rfl ⟨by rw [HS.out]; rfl, Fr.refl _ _, fun s' hs => by rw [HS.out] at hs; cases hs⟩)
      · have HS : Hid (takeS ⟨2, neg, npow, ds, beh, pow⟩ 69 = some ⟨5, neg, npow, ds, beh, pow⟩) := by show takeS _ _ = _; simp [takeS, isD]
        (go_enter Tryd.func81, Tryd.ntmps81; go_wp2_with fail; exact bodyPost_ret (v := .bool true) (by simp [results, Tryd.results81, go_sem]) rfl ⟨by rw [HS.out]; rfl, HR.out.fr _ _, fun s' hs => by rw [HS.out] at hs; cases hs; exact ⟨v, HR.out.set0 5⟩⟩)
      · have HS : Hid (takeS ⟨3, neg, npow, ds, beh, pow⟩ 69 = none) := by show takeS _ _ = _; simp [takeS, isD]
        (go_enter Tryd.func81, Tryd.ntmps81; go_wp2_with fail; exact bodyPost_ret (v := .bool false) (by simp [results, Tryd.results81, go_sem]) rfl ⟨by rw [HS.out]; rfl, Fr.refl _ _, fun s' hs => by rw [HS.out] at hs; cases hs⟩)
      · have HS : Hid (takeS ⟨4, neg, npow, ds, beh, pow⟩ 69 = some ⟨5, neg, npow, ds, beh, pow⟩) := by show takeS _ _ = _; simp [takeS, isD]
        (go_enter Tryd.func81, Tryd.ntmps81; go_wp2_with fail; exact bodyPost_ret (v := .bool true) (by simp [results, Tryd.results81, go_sem]) rfl ⟨by rw [HS.out]; rfl, HR.out.fr _ _, fun s' hs => by rw [HS.out] at hs; cases hs; exact ⟨v, HR.out.set0 5⟩⟩)
      · have HS : Hid (takeS ⟨5, neg, npow, ds, beh, pow⟩ 69 = none) := by show takeS _ _ = _; simp [takeS, isD]
        (go_enter Tryd.func81, Tryd.ntmps81; go_wp2_with fail; exact bodyPost_ret (v := .bool false) (by simp [results, Tryd.results81, go_sem]) rfl ⟨by rw [HS.out]; rfl, Fr.refl _ _, fun s' hs => by rw [HS.out] at hs; cases hs⟩)
      · have HS : Hid (takeS ⟨6, neg, npow, ds, beh, pow⟩ 69 = none) := by show takeS _ _ = _; simp [takeS, isD]
        (go_enter Tryd.func81, Tryd.ntmps81; go_wp2_with fail; exact bodyPost_ret (v := .bool false) (by simp [results, Tryd.results81, go_sem]) rfl ⟨by rw [HS.out]; rfl, Fr.refl _ _, fun s' hs => by rw [HS.out] at hs; cases hs⟩)
      · have HS : Hid (takeS ⟨7, neg, npow, ds, beh, pow⟩ 69 = none) := by show takeS _ _ = _; simp [takeS, isD]
        (go_enter Tryd.func81, Tryd.ntmps81; go_wp2_with fail; exact bodyPost_ret (v := .bool false) (by simp [results, Tryd.results81, go_sem]) rfl ⟨by rw [HS.out]; rfl, Fr.refl _ _, fun s' hs => by rw [HS.out] at hs; cases hs⟩)
    have HS : Hid (takeS ⟨st, neg, npow, ds, beh, pow⟩ c = none) := by
      show takeS _ _ = _
      unfold takeS isD
      rw [if_neg (by rw [decide_eq_true_eq]; exact hd), if_neg (by omega), if_neg (by omega), if_neg (by omega), if_neg (by omega)]
    have e1 : ((c : Int) == 45) = false := by simp; omega
    have e2 : ((c : Int) == 46) = false := by simp; omega
    have e3 : ((c : Int) == 101) = false := by simp; omega
    have e4 : ((c : Int) == 69) = false := by simp; omega
    have e5 : ((c : Int) == 43) = false := by simp; omega
    by_cases h48 : 48 ≤ c
    · have g1 : decide (48 ≤ (c : Int)) = true := decide_eq_true (by omega)
      have g2 : decide ((c : Int) ≤ 57) = false := decide_eq_false (by omega)
      clear hd h45 h43 h46 h101 h69 h48 hst0
      (go_enter Tryd.func81, Tryd.ntmps81; go_wp2_with fail; exact bodyPost_ret (v := .bool false) (by simp [results, Tryd.results81, go_sem]) rfl ⟨by rw [HS.out]; rfl, Fr.refl _ _, fun s' hs => by rw [HS.out] at hs; cases hs⟩)
    · have g1 : decide (48 ≤ (c : Int)) = false := decide_eq_false (by omega)
      clear hd h45 h43 h46 h101 h69 h48 hst0
      (go_enter Tryd.func81, Tryd.ntmps81; go_wp2_with fail; exact bodyPost_ret (v := .bool false) (by simp [results, Tryd.results81, go_sem]) rfl ⟨by rw [HS.out]; rfl, Fr.refl _ _, fun s' hs => by rw [HS.out] at hs; cases hs⟩)
end Go.Proofs.YtljgagjipamdeaaDoor
namespace Go.Proofs.YtljgagjipamdeaaDoor
open Go.RowKit NM
/-- What holds of a reader wherever it stands. -/
structure SB (n : Nat) (s : St) : Prop where
  st : s.st ≤ 7
  len : s.ds.length ≤ n
  beh : s.beh ≤ n
  pow : s.pow ≤ 1000000
  all : AllD s.ds
theorem SB.step {n : Nat} {s s' : St} {c : Nat} (h : SB n s) (ht : takeS s c = some s') : SB (n + 1) s' := by
  obtain ⟨h1, h2, h3, h4, h5⟩ := h
  unfold takeS at ht
  split at ht
  · rename_i hc
    unfold isD at hc
    have hc := of_decide_eq_true hc
    cases ht
    have h6 : AllD (s.ds ++ [c - 48]) := h5.append (AllD.cons (by omega) AllD.nil)
    unfold digS
    split
    · exact ⟨by simp, by simp; omega, by show s.beh ≤ _; omega, h4, h6⟩
    · split
      · exact ⟨by simp, by simp; omega, by show s.beh + 1 ≤ _; omega, h4, h6⟩
      · refine ⟨by simp, by show s.ds.length ≤ _; omega, by show s.beh ≤ _; omega, ?_, h5⟩
        show (if s.pow < 100000 then s.pow * 10 + (c - 48) else s.pow) ≤ 1000000
        split <;> omega
  all_goals (repeat' (split at ht)) <;> cases ht <;> exact ⟨by simp, by show s.ds.length ≤ _; omega, by show s.beh ≤ _; omega, h4, h5⟩
theorem take_high {s : St} {c : Nat} (h : 128 ≤ c) : takeS s c = none := by
  unfold takeS isD
  rw [if_neg (by rw [decide_eq_true_eq]; omega), if_neg (by omega), if_neg (by omega), if_neg (by omega), if_neg (by omega)]
/-- A text's bytes. -/
def bl (s : ByteArray) : List Nat := s.data.toList.map (·.toNat)
theorem bl_length (s : ByteArray) : (bl s).length = s.size := by unfold bl; rw [List.length_map]; rfl
theorem bl_at (s : ByteArray) (pos : Nat) (h : pos < s.size) : (bl s)[pos]? = some (s[pos]'h).toNat := by
  unfold bl
  rw [List.getElem?_map, List.getElem?_eq_getElem (by exact h)]
  rfl
structure PI (X : World) (s : ByteArray) (q k pos : Nat) (S : St) (v : Value) (wr : World) : Prop where
  run : runS ((bl s).take pos) st0 = some S
  rd : RD X.heap.size q S.st S.neg S.npow S.ds S.beh S.pow v wr
  it : wr.heap[k]? = some (Obj.stringIter s pos)
  ext : Ext X wr
  bd : SB pos S
  kb : X.heap.size ≤ k
theorem PI.next {X wr : World} {s : ByteArray} {q k pos : Nat} {S : St} {v : Value} (h : PI X s q k pos S v wr) (p' : Nat) : RD X.heap.size q S.st S.neg S.npow S.ds S.beh S.pow v (wr.iterAt k s p') ∧ (wr.iterAt k s p').heap[k]? = some (Obj.stringIter s p') ∧ Ext X (wr.iterAt k s p') := by
  have hne : ∀ b cs t, wr.heap[b]? = some (Obj.cells cs t (0, 0)) → b ≠ k := fun b cs t hb he => by subst he; rw [h.it] at hb; cases hb
  refine ⟨⟨?_, own_keep h.rd.own fun g cur hg => Lib.iterAt_other _ _ _ _ _ (hne g cur _ hg), h.rd.qb⟩, Lib.iterAt_heap wr k s pos p' h.it, ?_⟩
  · rw [Lib.iterAt_other _ _ _ _ _ (hne q _ _ h.rd.row)]; exact h.rd.row
  · refine ⟨h.ext.os, h.ext.tape, h.ext.output, by rw [Lib.iterAt_size]; exact h.ext.size, fun b hb => ?_⟩
    rw [Lib.iterAt_other _ _ _ _ _ (by have := h.kb; omega), h.ext.block hb]
theorem PI.step {X wr w' : World} {s : ByteArray} {q k pos c : Nat} {S S' : St} {v v' : Value} (h : PI X s q k pos S v wr) (hc : (bl s)[pos]? = some c) (ht : takeS S c = some S') (hf : Fr X.heap.size (wr.iterAt k s (pos + 1)) w') (hr : RD X.heap.size q S'.st S'.neg S'.npow S'.ds S'.beh S'.pow v' w') : PI X s q k (pos + 1) S' v' w' := by
  obtain ⟨_, h2, h3⟩ := h.next (pos + 1)
  refine ⟨?_, hr, hf.it _ _ _ h2, Below.trans h3 hf.low, h.bd.step ht, h.kb⟩
  rw [take_at hc, runS_append, h.run, Option.bind_some]
  show (takeS S c).bind (runS []) = _
  rw [ht]; rfl
theorem parM_none {s : ByteArray} {pos c : Nat} {S : St} (h : runS ((bl s).take pos) st0 = some S) (hc : (bl s)[pos]? = some c) (ht : takeS S c = none) : parM (bl s) = none := by
  unfold parM
  have hl := lt_at hc
  have h1 : bl s = (bl s).take pos ++ (c :: (bl s).drop (pos + 1)) := by
    rw [← drop_at hc, List.take_append_drop]
  rw [h1, runS_append, h, Option.bind_some]
  show ((takeS S c).bind _).bind endS = none
  rw [ht]; rfl
def parS (s : ByteArray) : Option (Int × Int) := if 255 < s.size then none else parM (bl s)
set_option maxHeartbeats 1000000 in
theorem parse_any (s : ByteArray) (w : World) (hs : s.size ≤ 1000) :
    Calls Tryd.prog 68 #[.string s] w fun r w' => r = .returned (rnV (parS s)) ∧ Ext w w' := by
  unfold parS
  by_cases hlen : 255 < s.size
  · rw [if_pos hlen]
    go_enter Tryd.func68, Tryd.ntmps68
    go_wp2_with fail
    exact bodyPost_ret (v := .tuple #[NV 0 0, .bool false]) (by simp [results, Tryd.results68, go_sem]) rfl ⟨rfl, by with_reducible repeat (first | exact Ext.refl _ | apply Ext.drew | apply Ext.alloc | apply Ext.more_)⟩
  · rw [if_neg hlen]
    generalize hR : parM (bl s) = R
    have HR := Lib.hid hR
    clear hR
    have HX : Hid (∀ W : World, W = ((w.alloc (.cells #[.int .i64 0, .int .i64 0] 26)).alloc (.cells #[.int .i64 0, .bool false, .bool false, .slice none 0 0, .int .i64 0, .int .i64 0] 104)).iter s 0 → PI (w.alloc (.cells #[.int .i64 0, .int .i64 0] 26)) s (w.heap.size + 1) (w.heap.size + 1 + 1) 0 st0 (.slice none 0 0) W) := by
      intro W hW
      have hx : Ext (w.alloc (.cells #[.int .i64 0, .int .i64 0] 26)) W := by rw [hW]; exact (((Ext.refl _).alloc _).alloc _)
      have hz : (w.alloc (.cells #[.int .i64 0, .int .i64 0] 26)).heap.size = w.heap.size + 1 := by simp
      refine ⟨rfl, ⟨?_, World.ownsRow_nil _ _ _ _, by omega⟩, ?_, hx, ⟨by decide, Nat.le_refl _, Nat.le_refl _, by decide, AllD.nil⟩, by omega⟩
      · rw [hW]
        have h1 : ((w.alloc (.cells #[.int .i64 0, .int .i64 0] 26)).alloc (.cells #[.int .i64 0, .bool false, .bool false, .slice none 0 0, .int .i64 0, .int .i64 0] 104)).heap[w.heap.size + 1]? = some (.cells #[.int .i64 0, .bool false, .bool false, .slice none 0 0, .int .i64 0, .int .i64 0] 104) := by rw [← hz]; exact Array.getElem?_push_size
        exact (RowKit.Below.heap_alloc _ _ _ (lt_block h1)).trans h1
      · rw [hW]
        have := World.iter_heap ((w.alloc (.cells #[.int .i64 0, .int .i64 0] 26)).alloc (.cells #[.int .i64 0, .bool false, .bool false, .slice none 0 0, .int .i64 0, .int .i64 0] 104)) s 0
        simpa using this
    go_enter Tryd.func68, Tryd.ntmps68
    go_upto_block 0 with fail
    refine wp_world fun W hW => ?_
    have hPI := HX.out W hW
    have hX0 : PV (w.alloc (.cells #[.int .i64 0, .int .i64 0] 26)) w.heap.size 0 0 := PV.new 0 0 rfl
    have hXw : Ext w (w.alloc (.cells #[.int .i64 0, .int .i64 0] 26)) := (Ext.refl w).alloc _
    have hXs : (w.alloc (.cells #[.int .i64 0, .int .i64 0] 26)).heap.size = w.heap.size + 1 := by simp
    clear hW HX
    generalize w.alloc (.cells #[.int .i64 0, .int .i64 0] 26) = X at *
    have hq : w.heap.size + 1 < w.heap.size + 1 + 1 := by omega
    have hq0 : w.heap.size < w.heap.size + 1 := by omega
    generalize w.heap.size + 1 + 1 = k at *
    have HS0 := Lib.hid hXs
    clear hXs
    generalize w.heap.size + 1 = q at *
    have HP : Hid (PI X s q k 0 st0 (.slice none 0 0) W) := hPI
    clear hPI
    go_wp2_with fail
    go_loopw [6] (fun _ wr => ∃ pos S v, pos ≤ s.size ∧ Hid (PI X s q k pos S v wr)) (fun _ wr => s.size - wr.iterPos k)
    case atStart => exact ⟨0, st0, _, Nat.zero_le _, HP⟩
    case round =>
      obtain ⟨pos, S, v, hpos, H⟩ := hrel
      by_cases hp : pos < s.size
      · have hb := bl_at s pos hp
        have hnx : ∀ ty, (Instr.next (.pointer (some ⟨k, 0, none⟩)) true ty).run Tryd.prog wr = _ := fun ty => Lib.run_next_any_at wr k s pos ty H.out.it hp
        have hbd := H.out.bd
        have heta : (⟨S.st, S.neg, S.npow, S.ds, S.beh, S.pow⟩ : St) = S := rfl
        by_cases ha : (s[pos]'hp).toNat < 128
        · rw [decode_ascii s pos hp ha] at hnx
          generalize (s[pos]'hp).toNat = c at *
          simp only at hnx
          obtain ⟨r1, r2, r3⟩ := H.out.next (pos + 1)
          have htk := take_any X.heap.size q S.st S.neg S.npow S.ds S.beh S.pow c v (wr.iterAt k s (pos + 1)) r1 r3.size hbd.st (by have := hbd.len; omega) (by have := hbd.beh; omega) hbd.pow
          rw [heta] at htk
          have HC := Lib.hid hb
          have HE := Lib.hid r3
          clear hb r1 r2 r3 ha hbd heta
          cases hT : takeS S c with
          | some S' =>
            have HT := Lib.hid hT
            rw [hT] at htk
            clear hT
            go_wp2_with (go_at_call 81; (with_reducible refine htk.mono ?_); rintro e w' ⟨rfl, hfr, hrd⟩)
            obtain ⟨v', hr'⟩ := hrd S' rfl
            have h2 := H.out.step HC.out HT.out hfr hr'
            refine ⟨⟨pos + 1, S', v', by omega, h2⟩, ?_⟩
            simp only [World.iterPos, h2.it, H.out.it]
            omega
          | none =>
            have HT := Lib.hid hT
            rw [hT] at htk
            clear hT
            have hRn : R = none := by rw [← HR.out]; exact parM_none H.out.run HC.out HT.out
            subst hRn
            go_wp2_with (go_at_call 81; (with_reducible refine htk.mono ?_); rintro e w' ⟨rfl, hfr, hrd⟩; have hex : Ext X w' := Below.trans HE.out hfr.low; have hpv := hX0.ext hex; have a0 := hpv.c0; have a1 := hpv.c1; have a2 := hpv.fz 0; have a3 := hpv.fz 1; have a4 := hpv.lt; have z0 := (hpv.set 0 0).c0; have z1 := (hpv.set 0 0).c1)
            exact bodyPost_ret (v := .tuple #[NV 0 0, .bool false]) (by simp [results, Tryd.results68, go_sem, z0, z1]) rfl ⟨rfl, ((hXw.trans hex).set _ (Nat.le_refl _)).set _ (Nat.le_refl _)⟩
        · obtain ⟨d1, d2⟩ := decode_high s pos hp (by omega)
          have hRn : R = none := by rw [← HR.out]; exact parM_none H.out.run hb (take_high (by omega))
          subst hRn
          generalize (Utf8.decode s pos).1 = c at *
          generalize (Utf8.decode s pos).2 = b at *
          obtain ⟨r1, r2, r3⟩ := H.out.next (pos + b)
          have htk := take_any X.heap.size q S.st S.neg S.npow S.ds S.beh S.pow c v (wr.iterAt k s (pos + b)) r1 r3.size hbd.st (by have := hbd.len; omega) (by have := hbd.beh; omega) hbd.pow
          rw [heta, take_high d1] at htk
          have HE := Lib.hid r3
          clear hb r1 r2 r3 ha hbd heta
          go_wp2_with (go_at_call 81; (with_reducible refine htk.mono ?_); rintro e w' ⟨rfl, hfr, hrd⟩; have hex : Ext X w' := Below.trans HE.out hfr.low; have hpv := hX0.ext hex; have a0 := hpv.c0; have a1 := hpv.c1; have a2 := hpv.fz 0; have a3 := hpv.fz 1; have a4 := hpv.lt; have z0 := (hpv.set 0 0).c0; have z1 := (hpv.set 0 0).c1)
          exact bodyPost_ret (v := .tuple #[NV 0 0, .bool false]) (by simp [results, Tryd.results68, go_sem, z0, z1]) rfl ⟨rfl, ((hXw.trans hex).set _ (Nat.le_refl _)).set _ (Nat.le_refl _)⟩
      · have hnx : ∀ ty, (Instr.next (.pointer (some ⟨k, 0, none⟩)) true ty).run Tryd.prog wr = _ := fun ty => Lib.run_next_end_at wr k s pos ty H.out.it hp
        have hpe : pos = s.size := by omega
        have hrun := H.out.run
        have hR := HR.out
        rw [hpe, ← bl_length, List.take_length] at hrun
        unfold parM at hR
        rw [hrun, Option.bind_some] at hR
        have hrd := H.out.rd
        have hbd := H.out.bd
        have hex := H.out.ext
        have HE := Lib.hid hR
        clear hrun hR HR hpe
        obtain ⟨st, neg, npow, ds, beh, pow⟩ := S
        simp only at hrd
        obtain ⟨c0, c1, c2, c3, c4, c5⟩ := hrd.at
        have f5 := hrd.fz 5
        have lq := hrd.lt
        have hpv := hX0.ext hex
        have a0 := hpv.c0
        have a1 := hpv.c1
        have a2 := hpv.fz 0
        have a3 := hpv.fz 1
        have a4 := hpv.lt
        have z0 := (hpv.set 0 0).c0
        have z1 := (hpv.set 0 0).c1
        have HRD := Lib.hid hrd
        have HBD := Lib.hid hbd
        clear hrd hbd
        by_cases hok : st = 2 ∨ st = 4 ∨ st = 7
        · have hRn : rnd neg (val ds) false ((if npow then -(pow : Int) else pow) - beh) = R := by rw [← HE.out]; unfold endS; exact (if_pos hok).symm
          have hpw := HBD.out.pow
          have hbh := HBD.out.beh
          have hln := HBD.out.len
          simp only at hpw hbh hln
          have hqX := HRD.out.qb
          cases npow with
          | true =>
            rw [if_pos rfl] at hRn
            have hro := round_own X neg v ds (-(pow : Int) - beh) (wr.setCell ⟨q, 5, none⟩ (.int .i64 (-(pow : Int)))) ds.length (hex.set _ hqX) (HRD.out.keep 5 _) HBD.out.all (by omega) (by omega)
            rw [hRn] at hro
            have w1 : IntKind.i64.wrap (-(pow : Int)) = -pow := i64w (by omega) (by omega)
            have w2 : IntKind.i64.wrap (-(pow : Int) - beh) = -pow - beh := i64w (by omega) (by omega)
            have x0 := hX0.c0
            have x1 := hX0.c1
            have x2 := hX0.fz 0
            have x3 := hX0.fz 1
            have x4 := hX0.lt
            have z0 := (hX0.set (rm R) (re R)).c0
            have z1 := (hX0.set (rm R) (re R)).c1
            clear hpw hbh hln hRn
            rcases hok with rfl | rfl | rfl
            all_goals
              go_wp2_with (go_at_call 74; (with_reducible refine hro.mono ?_); rintro e w' ⟨rfl, os, d, rfl⟩)
              exact bodyPost_ret (v := rnV R) (by simp [results, Tryd.results68, go_sem, z0, z1, x4]) rfl ⟨rfl, ((hXw.set _ (Nat.le_refl _)).set _ (Nat.le_refl _)).more_ _ _⟩
          | false =>
            rw [if_neg (by simp)] at hRn
            have hro := round_own X neg v ds ((pow : Int) - beh) wr ds.length hex HRD.out.own HBD.out.all (by omega) (by omega)
            rw [hRn] at hro
            have w2 : IntKind.i64.wrap ((pow : Int) - beh) = pow - beh := i64w (by omega) (by omega)
            have x0 := hX0.c0
            have x1 := hX0.c1
            have x2 := hX0.fz 0
            have x3 := hX0.fz 1
            have x4 := hX0.lt
            have z0 := (hX0.set (rm R) (re R)).c0
            have z1 := (hX0.set (rm R) (re R)).c1
            clear hpw hbh hln hRn
            rcases hok with rfl | rfl | rfl
            all_goals
              go_wp2_with (go_at_call 74; (with_reducible refine hro.mono ?_); rintro e w' ⟨rfl, os, d, rfl⟩)
              exact bodyPost_ret (v := rnV R) (by simp [results, Tryd.results68, go_sem, z0, z1, x4]) rfl ⟨rfl, ((hXw.set _ (Nat.le_refl _)).set _ (Nat.le_refl _)).more_ _ _⟩
        · have hRn : R = none := by rw [← HE.out]; unfold endS; exact if_neg hok
          subst hRn
          have e1 : ((st : Int) != 2) = true := by simp; omega
          have e2 : ((st : Int) != 4) = true := by simp; omega
          have e3 : ((st : Int) != 7) = true := by simp; omega
          go_wp2_with fail
          exact bodyPost_ret (v := .tuple #[NV 0 0, .bool false]) (by simp [results, Tryd.results68, go_sem, z0, z1]) rfl ⟨rfl, ((hXw.trans hex).set _ (Nat.le_refl _)).set _ (Nat.le_refl _)⟩
end Go.Proofs.YtljgagjipamdeaaDoor
namespace Go.Proofs.YtljgagjipamdeaaDoor
open Go.RowKit NM
/-- n, k times multiplied by ten, as long as it is an int. -/
def intGo (n : Int) : Nat → Option Int
  | 0 => some n
  | k + 1 => if 922337203685477580 < n.natAbs then none else intGo (n * 10) k
def intS (m e : Int) : Option Int := if ¬ Rt m e ∨ e < 0 then none else intGo m e.toNat
abbrev inV (r : Option Int) : Value := .tuple #[.int .i64 (r.getD 0), .bool r.isSome]
theorem mul64_ten (x : Nat) (hx : x < 18446744073709551616) (w : World) :
    Calls Tryd.prog 69 #[.int .u64 (x : Int), .int .u64 10] w fun e w' => e = .returned (.tuple #[.int .u64 ((x * 10 / 18446744073709551616 : Nat) : Int), .int .u64 ((x * 10 % 18446744073709551616 : Nat) : Int)]) ∧ w = w' :=
  (Tryd.bits_Mul64 x 10 hx (by omega) w).mono fun e w' ⟨h1, h2⟩ => ⟨h1, h2.symm⟩
set_option maxHeartbeats 2000000 in
theorem int_any (m ex : Int) (w : World) (hm : I64 m) :
    Calls Tryd.prog 53 #[NV m ex] w fun e w' => e = .returned (inV (intS m ex)) ∧ Ext w w' := by
  by_cases h : Rt m ex
  · have r1 := rtB_yes h
    obtain ⟨b1, b2, b3⟩ := Rt_bd h
    by_cases h1 : ex < 0
    · have hs : intS m ex = none := by unfold intS; rw [if_pos (Or.inr h1)]
      rw [hs]
      clear h hs
      go_enter Tryd.func53, Tryd.ntmps53
      go_wp2_with (go_at_call 46; (with_reducible refine (right_rt _ _ _ (by assumption)).mono ?_); rintro e w' ⟨rfl, hbr⟩; obtain ⟨osr, dr, rfl⟩ := hbr.more)
      go_ret2
      exact ⟨rfl, by repeat (first | exact Ext.refl _ | apply Ext.drew | apply Ext.alloc | apply Ext.more_)⟩
    · obtain ⟨n, rfl⟩ : ∃ n : Nat, ex = n := ⟨ex.toNat, by omega⟩
      have hs : intS m (n : Int) = intGo m n := by unfold intS; rw [if_neg (by rintro (h3 | h3); exact h3 h; omega)]; rfl
      generalize hR : intS m (n : Int) = R at *
      have HR := Lib.hid hs
      clear hs hR h
      go_enter Tryd.func53, Tryd.ntmps53
      go_wp2_with (go_at_call 46; (with_reducible refine (right_rt _ _ _ (by assumption)).mono ?_); rintro e w' ⟨rfl, hbr⟩; obtain ⟨osr, dr, rfl⟩ := hbr.more)
      go_loop [4, 19] (fun a i => ∃ (j : Nat) (x : Int), j ≤ n ∧ i = .int .i64 (j : Int) ∧ a = .int .i64 x ∧ Hid (I64 x) ∧ Hid (R = intGo x (n - j))) (fun _ i => n - (intOf i).toNat)
      case atStart => exact ⟨0, m, Nat.zero_le _, rfl, rfl, hm, HR⟩
      case round =>
        obtain ⟨j, x, hj, rfl, rfl, HX, HG⟩ := hrel
        by_cases hlt : j < n
        · have hx64 : x.natAbs < 18446744073709551616 := by obtain ⟨h1, h2⟩ := HX.out; omega
          have hml := mul64_ten x.natAbs hx64
          have hsz := fun W => size_nat x W HX.out
          have HG1 : Hid (R = if 922337203685477580 < x.natAbs then none else intGo (x * 10) (n - (j + 1))) := by
            show _ = _
            rw [HG.out, show n - j = n - (j + 1) + 1 by omega]; rfl
          by_cases hbig : 922337203685477580 < x.natAbs
          · have hRn : R = none := by rw [HG1.out, if_pos hbig]
            have hor : x.natAbs * 10 / 18446744073709551616 ≠ 0 ∨ 9223372036854775807 < x.natAbs * 10 % 18446744073709551616 := by omega
            generalize x.natAbs * 10 / 18446744073709551616 = hi at *
            generalize x.natAbs * 10 % 18446744073709551616 = lo at *
            generalize x.natAbs = xa at *
            subst hRn
            clear hx64 hbig
            by_cases hh : hi = 0
            · have e1 : ((hi : Int) != 0) = false := by simp [hh]
              have e1b : (hi != 0) = false := by simp [hh]
              have e2 : decide ((9223372036854775807 : Int) < (lo : Int)) = true := by simp; omega
              have e3 : decide (9223372036854775807 < lo) = true := by simp; omega
              clear hor hh
              go_wp2_with (first | (go_at_call 66; (with_reducible refine (hsz _).mono ?_); rintro e w' ⟨rfl, rfl⟩) | (go_at_call 69; (with_reducible refine (hml _).mono ?_); rintro e w' ⟨rfl, rfl⟩))
              go_ret2
              exact ⟨rfl, by repeat (first | exact Ext.refl _ | apply Ext.drew | apply Ext.alloc | apply Ext.more_)⟩
            · have e1 : ((hi : Int) != 0) = true := by simp [hh]
              have e1b : (hi != 0) = true := by simp [hh]
              clear hor hh
              go_wp2_with (first | (go_at_call 66; (with_reducible refine (hsz _).mono ?_); rintro e w' ⟨rfl, rfl⟩) | (go_at_call 69; (with_reducible refine (hml _).mono ?_); rintro e w' ⟨rfl, rfl⟩))
              go_ret2
              exact ⟨rfl, by repeat (first | exact Ext.refl _ | apply Ext.drew | apply Ext.alloc | apply Ext.more_)⟩
          · have HRn : Hid (R = intGo (x * 10) (n - (j + 1))) := by show _ = _; rw [HG1.out, if_neg hbig]
            have h10 : Hid (I64 (x * 10)) := by show I64 _; unfold I64; omega
            have hhi : x.natAbs * 10 / 18446744073709551616 = 0 := by omega
            have hlo : ¬ 9223372036854775807 < x.natAbs * 10 % 18446744073709551616 := by omega
            have w1 : IntKind.i64.wrap (x * 10) = x * 10 := i64w h10.out.1 h10.out.2
            have w2 : wrap64 (x * 10) = x * 10 := IntWalk.wrap64_in _ h10.out
            rw [hhi] at hml
            generalize x.natAbs * 10 % 18446744073709551616 = lo at *
            generalize x.natAbs = xa at *
            clear hx64 hbig hhi HG1
            have e2 : decide ((9223372036854775807 : Int) < (lo : Int)) = false := by simp; omega
            have e3 : decide (9223372036854775807 < lo) = false := by simp; omega
            clear hlo
            simp only [show ((0 : Nat) : Int) = 0 from rfl] at hml
            go_wp2_with (first | (go_at_call 66; (with_reducible refine (hsz _).mono ?_); rintro e w' ⟨rfl, rfl⟩) | (go_at_call 69; (with_reducible refine (hml _).mono ?_); rintro e w' ⟨rfl, rfl⟩))
            exact ⟨⟨j + 1, x * 10, by omega, by go_num, rfl, h10, HRn⟩, by simp [intOf]; omega⟩
        · have hRn : R = some x := by rw [HG.out, show n - j = 0 by omega]; rfl
          subst hRn
          go_wp2_with fail
          go_ret2
          exact ⟨rfl, by repeat (first | exact Ext.refl _ | apply Ext.drew | apply Ext.alloc | apply Ext.more_)⟩
  · have r1 := rtB_no h
    have hs : intS m ex = none := by unfold intS; rw [if_pos (Or.inl h)]
    rw [hs]
    clear h hs
    go_enter Tryd.func53, Tryd.ntmps53
    go_wp2_with (go_at_call 46; (with_reducible refine (right_rt _ _ _ (by assumption)).mono ?_); rintro e w' ⟨rfl, hbr⟩; obtain ⟨osr, dr, rfl⟩ := hbr.more)
    go_ret2
    exact ⟨rfl, by repeat (first | exact Ext.refl _ | apply Ext.drew | apply Ext.alloc | apply Ext.more_)⟩
end Go.Proofs.YtljgagjipamdeaaDoor
namespace Go.Proofs.YtljgagjipamdeaaDoor
open Go.RowKit
theorem eql_val (k1 m1 e1 f1 k2 m2 e2 f2 : Int) (t1 t2 : ByteArray) (b1 b2 : Bool) (w : World) : (binOp .eql 28 (VV k1 m1 e1 t1 b1 f1) (VV k2 m2 e2 t2 b2 f2)).run Tryd.prog w = .ok (.bool (eqV ⟨k1, m1, e1, t1, b1, f1⟩ ⟨k2, m2, e2, t2, b2, f2⟩)) w := by
  have ht : (t1.toList = t2.toList) ↔ t1 = t2 := ⟨fun h => by
    cases t1; cases t2
    rename_i a b
    have : a.toList = b.toList := by simpa [ByteArray.toList_eq] using h
    simpa using this, fun h => by rw [h]⟩
  simp only [VV, eqV]
  simp [go_sem, ht]
  by_cases h1 : k1 = k2 <;> simp [h1]
  by_cases h2 : m1 = m2 <;> simp [h2]
  by_cases h3 : e1 = e2 <;> simp [h3]
  by_cases h4 : t1 = t2 <;> simp [h4]
  by_cases h5 : b1 = b2 <;> simp [h5]
  by_cases h6 : f1 = f2 <;> simp [h6]
set_option maxHeartbeats 400000 in
theorem bad_any (f : Int) (w : World) :
    Calls Tryd.prog 29 #[.int .i64 f] w fun e w' => e = .returned (VV 4 0 0 ⟨#[]⟩ false (badF f)) ∧ Ext w w' := by
  by_cases h : f < 1 ∨ 9 < f
  · have hb : badF f = 9 := by simp [badF, h]
    rw [hb]
    rcases h with h | h
    · go_enter Tryd.func29, Tryd.ntmps29
      go_wp2
      exact bodyPost_ret (v := VV 4 0 0 ⟨#[]⟩ false 9) (by simp [results, Tryd.results29, go_sem]) rfl ⟨rfl, by repeat (first | exact Ext.refl _ | apply Ext.drew | apply Ext.alloc | apply Ext.more_)⟩
    · have h1 : ¬ f < 1 := by omega
      go_enter Tryd.func29, Tryd.ntmps29
      go_wp2
      exact bodyPost_ret (v := VV 4 0 0 ⟨#[]⟩ false 9) (by simp [results, Tryd.results29, go_sem]) rfl ⟨rfl, by repeat (first | exact Ext.refl _ | apply Ext.drew | apply Ext.alloc | apply Ext.more_)⟩
  · have hb : badF f = f := by simp [badF, h]
    rw [hb]
    have h1 : ¬ f < 1 := by omega
    have h2 : ¬ 9 < f := by omega
    go_enter Tryd.func29, Tryd.ntmps29
    go_wp2
    exact bodyPost_ret (v := VV 4 0 0 ⟨#[]⟩ false f) (by simp [results, Tryd.results29, go_sem]) rfl ⟨rfl, by repeat (first | exact Ext.refl _ | apply Ext.drew | apply Ext.alloc | apply Ext.more_)⟩
set_option maxHeartbeats 400000 in
theorem of_any (m ex : Int) (w : World) :
    Calls Tryd.prog 47 #[NV m ex] w fun e w' => e = .returned (VV 1 m ex ⟨#[]⟩ false 0) ∧ Ext w w' := by
  go_enter Tryd.func47, Tryd.ntmps47
  go_wp2
  exact bodyPost_ret (v := VV 1 m ex ⟨#[]⟩ false 0) (by simp [results, Tryd.results47, go_sem]) rfl ⟨rfl, by repeat (first | exact Ext.refl _ | apply Ext.drew | apply Ext.alloc | apply Ext.more_)⟩
set_option maxHeartbeats 400000 in
theorem truth_any (t : Bool) (w : World) :
    Calls Tryd.prog 49 #[.bool t] w fun e w' => e = .returned (VV 3 0 0 ⟨#[]⟩ t 0) ∧ Ext w w' := by
  go_enter Tryd.func49, Tryd.ntmps49
  go_wp2
  exact bodyPost_ret (v := VV 3 0 0 ⟨#[]⟩ t 0) (by simp [results, Tryd.results49, go_sem]) rfl ⟨rfl, by repeat (first | exact Ext.refl _ | apply Ext.drew | apply Ext.alloc | apply Ext.more_)⟩
set_option maxHeartbeats 400000 in
theorem text_any (t : ByteArray) (w : World) (ht : t.size ≤ 9223372036854775807) :
    Calls Tryd.prog 48 #[.string t] w fun e w' => e = .returned (VV (textV t).kind 0 0 (textV t).text false (textV t).fault) ∧ Ext w w' := by
  by_cases h : 255 < t.size
  · have hv : textV t = ⟨4, 0, 0, ⟨#[]⟩, false, 2⟩ := by simp [textV, h]
    rw [hv]
    have hb : badF 2 = 2 := by decide
    go_enter Tryd.func48, Tryd.ntmps48
    go_wp2_with (go_at_call 29; refine (bad_any _ _).mono ?_; rintro e w' ⟨rfl, hb⟩; obtain ⟨os, d, rfl⟩ := hb.more)
    exact bodyPost_ret (v := VV 4 0 0 ⟨#[]⟩ false 2) (by simp [results, Tryd.results48, go_sem]) rfl ⟨rfl, by repeat (first | exact Ext.refl _ | apply Ext.drew | apply Ext.alloc | apply Ext.more_)⟩
  · have hv : textV t = ⟨2, 0, 0, t, false, 0⟩ := by simp [textV, h]
    rw [hv]
    go_enter Tryd.func48, Tryd.ntmps48
    go_wp2
    exact bodyPost_ret (v := VV 2 0 0 t false 0) (by simp [results, Tryd.results48, go_sem]) rfl ⟨rfl, by repeat (first | exact Ext.refl _ | apply Ext.drew | apply Ext.alloc | apply Ext.more_)⟩
end Go.Proofs.YtljgagjipamdeaaDoor
namespace Go.Proofs.YtljgagjipamdeaaDoor
open Go.RowKit
set_option maxHeartbeats 400000 in
theorem valRight_any (k m ex f : Int) (t : ByteArray) (b : Bool) (w : World) (hm : I64 m) (ht : t.size ≤ 9223372036854775807) :
    Calls Tryd.prog 31 #[VV k m ex t b f] w fun e w' => e = .returned (.bool (valRight ⟨k, m, ex, t, b, f⟩)) ∧ Ext w w' := by
  have heq := eql_val
  by_cases h0 : k = 0
  · subst h0
    go_enter Tryd.func31, Tryd.ntmps31
    go_wp2
    go_ret
    exact ⟨ret_bool (by simp [valRight, Val.zero]), by repeat (first | exact Ext.refl _ | apply Ext.drew | apply Ext.alloc | apply Ext.more_)⟩
  by_cases h1 : k = 1
  · subst h1
    by_cases hr : numRightB m ex = true
    · have e : valRight ⟨1, m, ex, t, b, f⟩ = eqV ⟨1, m, ex, t, b, f⟩ ⟨1, m, ex, ⟨#[]⟩, false, 0⟩ := by simp [valRight, hr]
      rw [e]; clear e h0
      go_enter Tryd.func31, Tryd.ntmps31
      go_wp2
      refine wp_plan (S := Ext _) [(0, 0), (1, 0), (2, 1), (3, 0), (4, 0), (5, 0), (6, 0), (7, 1), (8, 0), (9, 0), (10, 0)] [] (by kernel_rfl) (by kernel_rfl) (by kernel_rfl) (fun _ _ d _ _ h => by cases d <;> exact h) (Ext.drew (Ext.refl _)) ?_
      iterate 2 ((refine wpPl_read (v := ?_) rfl ?_ (fun _ h => ?_) ?_; rotate_left 1; rfl; (obtain ⟨_, _, rfl⟩ := h.more; go_simp; try rfl)); try simp only [Act.put, zqA, zqB, zqC])
      (refine wpPl_eff rfl ?_ (fun K hK => ?_); rfl; go_simp; refine (numRight_any _ _ _ hm).mono ?_; rintro e w' ⟨rfl, hb⟩; obtain ⟨os, d, rfl⟩ := hb.more; refine hK _ _ ?_ ?_; (repeat (first | (with_reducible (first | exact Ext.refl _ | exact ext_d _ _ _ _ | exact ext_app _ _ _ _ _ | exact ext_app2 _ _ _ _ _ _ | exact ext_app3 _ _ _ _ _ _ _ | exact ext_app4 _ _ _ _ _ _ _ _ | exact ext_app5 _ _ _ _ _ _ _ _ _)) | ((with_reducible refine ext_suffix ⟨_, ?_⟩); (try simp only [Array.append_assoc]); rfl) | (with_reducible (first | apply Ext.drew | apply Ext.alloc | apply Ext.more_)) | apply Ext.drew | apply Ext.alloc | apply Ext.more_)))
      try simp only [Act.put, zqA, zqB, zqC]
      (refine wpPl_read (v := ?_) rfl ?_ (fun _ h => ?_) ?_; rotate_left 1; rfl; (obtain ⟨_, _, rfl⟩ := h.more; go_simp; try rfl))
      try simp only [Act.put, zqA, zqB, zqC]
      iterate 3 ((first | (refine wpPl_skip rfl rfl ?_) | (refine wpPl_read (v := ?_) rfl ?_ (fun w1 h1 => ?_) ?_; rotate_left 1; rfl; (obtain ⟨os1, d1, rfl⟩ := h1.more; go_simp; first | done | rfl)) | (refine wpPl_gread (v := ?_) (c := ?_) rfl rfl rfl rfl ?_ (fun hc w1 h1 => ?_) ?_; rotate_left 2; (first | exact gc_t _ | exact gc_f _ | exact gc_gt _ _ | exact gc_gf _ _); (obtain ⟨os1, d1, rfl⟩ := h1.more; (try simp only [gv_of hc]); (try (have hc1 := and_l hc; (try simp only [gv_of hc1]); (try (have hc2 := and_l hc1; (try simp only [gv_of hc2]))))); go_simp; first | done | rfl))); try simp only [Act.put, zqA, zqB, zqC])
      first | (refine wpPl_effskip rfl ?_ ?_ ?_; (first | with_reducible rfl | rfl | (go_simp; done)); (repeat (first | (with_reducible (first | exact Ext.refl _ | exact ext_d _ _ _ _ | exact ext_app _ _ _ _ _ | exact ext_app2 _ _ _ _ _ _ | exact ext_app3 _ _ _ _ _ _ _ | exact ext_app4 _ _ _ _ _ _ _ _ | exact ext_app5 _ _ _ _ _ _ _ _ _)) | ((with_reducible refine ext_suffix ⟨_, ?_⟩); (try simp only [Array.append_assoc]); rfl) | (with_reducible (first | apply Ext.drew | apply Ext.alloc | apply Ext.more_)) | apply Ext.drew | apply Ext.alloc | apply Ext.more_))) | (refine wpPl_eff rfl ?_ (fun K hK => ?_); (first | with_reducible rfl | rfl | (go_simp; done)); go_simp; refine (of_any _ _ _).mono ?_; rintro e w' ⟨rfl, hb⟩; obtain ⟨os, d, rfl⟩ := hb.more; refine hK _ _ ?_ ?_; (repeat (first | (with_reducible (first | exact Ext.refl _ | exact ext_d _ _ _ _ | exact ext_app _ _ _ _ _ | exact ext_app2 _ _ _ _ _ _ | exact ext_app3 _ _ _ _ _ _ _ | exact ext_app4 _ _ _ _ _ _ _ _ | exact ext_app5 _ _ _ _ _ _ _ _ _)) | ((with_reducible refine ext_suffix ⟨_, ?_⟩); (try simp only [Array.append_assoc]); rfl) | (with_reducible (first | apply Ext.drew | apply Ext.alloc | apply Ext.more_)) | apply Ext.drew | apply Ext.alloc | apply Ext.more_)))
      try simp only [Act.put, zqA, zqB, zqC]
      first | (refine wpPl_skip rfl rfl ?_) | (refine wpPl_read (v := ?_) rfl ?_ (fun w1 h1 => ?_) ?_; rotate_left 1; rfl; (obtain ⟨os1, d1, rfl⟩ := h1.more; go_simp; first | done | rfl)) | (refine wpPl_gread (v := ?_) (c := ?_) rfl rfl rfl rfl ?_ (fun hc w1 h1 => ?_) ?_; rotate_left 2; (first | exact gc_t _ | exact gc_f _ | exact gc_gt _ _ | exact gc_gf _ _); (obtain ⟨os1, d1, rfl⟩ := h1.more; (try simp only [gv_of hc]); (try (have hc1 := and_l hc; (try simp only [gv_of hc1]); (try (have hc2 := and_l hc1; (try simp only [gv_of hc2]))))); go_simp; first | done | rfl))
      try simp only [Act.put, zqA, zqB, zqC]
      first | (refine wpPl_pick_and rfl rfl rfl rfl rfl rfl ?_) | (refine wpPl_pick_or rfl rfl rfl rfl rfl rfl ?_) | (refine wpPl_read (v := ?_) rfl ?_ (fun w1 h1 => ?_) ?_; rotate_left 1; rfl; (obtain ⟨os1, d1, rfl⟩ := h1.more; go_simp; first | done | rfl))
      try simp only [Act.put, zqA, zqB, zqC]
      (refine wpPl_read (v := ?_) rfl ?_ (fun _ h => ?_) ?_; rotate_left 1; rfl; (obtain ⟨_, _, rfl⟩ := h.more; go_simp; try rfl))
      try simp only [Act.put, zqA, zqB, zqC]
      refine wpPl_nil ?_
      go_wp2
      go_ret
      exact ⟨rfl, by repeat (first | exact Ext.refl _ | apply Ext.drew | apply Ext.alloc | apply Ext.more_)⟩
    · have hr' : numRightB m ex = false := by simpa using hr
      have e : valRight ⟨1, m, ex, t, b, f⟩ = false := by simp [valRight, hr]
      rw [e]; clear e h0 hr
      go_enter Tryd.func31, Tryd.ntmps31
      go_wp2
      refine wp_plan (S := Ext _) [(0, 0), (1, 0), (2, 1), (3, 0), (4, 0), (5, 0), (6, 0), (7, 1), (8, 0), (9, 0), (10, 0)] [] (by kernel_rfl) (by kernel_rfl) (by kernel_rfl) (fun _ _ d _ _ h => by cases d <;> exact h) (Ext.drew (Ext.refl _)) ?_
      iterate 2 ((refine wpPl_read (v := ?_) rfl ?_ (fun _ h => ?_) ?_; rotate_left 1; rfl; (obtain ⟨_, _, rfl⟩ := h.more; go_simp; try rfl)); try simp only [Act.put, zqA, zqB, zqC])
      (refine wpPl_eff rfl ?_ (fun K hK => ?_); rfl; go_simp; refine (numRight_any _ _ _ hm).mono ?_; rintro e w' ⟨rfl, hb⟩; obtain ⟨os, d, rfl⟩ := hb.more; refine hK _ _ ?_ ?_; (repeat (first | (with_reducible (first | exact Ext.refl _ | exact ext_d _ _ _ _ | exact ext_app _ _ _ _ _ | exact ext_app2 _ _ _ _ _ _ | exact ext_app3 _ _ _ _ _ _ _ | exact ext_app4 _ _ _ _ _ _ _ _ | exact ext_app5 _ _ _ _ _ _ _ _ _)) | ((with_reducible refine ext_suffix ⟨_, ?_⟩); (try simp only [Array.append_assoc]); rfl) | (with_reducible (first | apply Ext.drew | apply Ext.alloc | apply Ext.more_)) | apply Ext.drew | apply Ext.alloc | apply Ext.more_)))
      try simp only [Act.put, zqA, zqB, zqC]
      (refine wpPl_read (v := ?_) rfl ?_ (fun _ h => ?_) ?_; rotate_left 1; rfl; (obtain ⟨_, _, rfl⟩ := h.more; go_simp; try rfl))
      try simp only [Act.put, zqA, zqB, zqC]
      iterate 3 ((first | (refine wpPl_skip rfl rfl ?_) | (refine wpPl_read (v := ?_) rfl ?_ (fun w1 h1 => ?_) ?_; rotate_left 1; rfl; (obtain ⟨os1, d1, rfl⟩ := h1.more; go_simp; first | done | rfl)) | (refine wpPl_gread (v := ?_) (c := ?_) rfl rfl rfl rfl ?_ (fun hc w1 h1 => ?_) ?_; rotate_left 2; (first | exact gc_t _ | exact gc_f _ | exact gc_gt _ _ | exact gc_gf _ _); (obtain ⟨os1, d1, rfl⟩ := h1.more; (try simp only [gv_of hc]); (try (have hc1 := and_l hc; (try simp only [gv_of hc1]); (try (have hc2 := and_l hc1; (try simp only [gv_of hc2]))))); go_simp; first | done | rfl))); try simp only [Act.put, zqA, zqB, zqC])
      first | (refine wpPl_effskip rfl ?_ ?_ ?_; (first | with_reducible rfl | rfl | (go_simp; done)); (repeat (first | (with_reducible (first | exact Ext.refl _ | exact ext_d _ _ _ _ | exact ext_app _ _ _ _ _ | exact ext_app2 _ _ _ _ _ _ | exact ext_app3 _ _ _ _ _ _ _ | exact ext_app4 _ _ _ _ _ _ _ _ | exact ext_app5 _ _ _ _ _ _ _ _ _)) | ((with_reducible refine ext_suffix ⟨_, ?_⟩); (try simp only [Array.append_assoc]); rfl) | (with_reducible (first | apply Ext.drew | apply Ext.alloc | apply Ext.more_)) | apply Ext.drew | apply Ext.alloc | apply Ext.more_))) | (refine wpPl_eff rfl ?_ (fun K hK => ?_); (first | with_reducible rfl | rfl | (go_simp; done)); go_simp; refine (of_any _ _ _).mono ?_; rintro e w' ⟨rfl, hb⟩; obtain ⟨os, d, rfl⟩ := hb.more; refine hK _ _ ?_ ?_; (repeat (first | (with_reducible (first | exact Ext.refl _ | exact ext_d _ _ _ _ | exact ext_app _ _ _ _ _ | exact ext_app2 _ _ _ _ _ _ | exact ext_app3 _ _ _ _ _ _ _ | exact ext_app4 _ _ _ _ _ _ _ _ | exact ext_app5 _ _ _ _ _ _ _ _ _)) | ((with_reducible refine ext_suffix ⟨_, ?_⟩); (try simp only [Array.append_assoc]); rfl) | (with_reducible (first | apply Ext.drew | apply Ext.alloc | apply Ext.more_)) | apply Ext.drew | apply Ext.alloc | apply Ext.more_)))
      try simp only [Act.put, zqA, zqB, zqC]
      first | (refine wpPl_skip rfl rfl ?_) | (refine wpPl_read (v := ?_) rfl ?_ (fun w1 h1 => ?_) ?_; rotate_left 1; rfl; (obtain ⟨os1, d1, rfl⟩ := h1.more; go_simp; first | done | rfl)) | (refine wpPl_gread (v := ?_) (c := ?_) rfl rfl rfl rfl ?_ (fun hc w1 h1 => ?_) ?_; rotate_left 2; (first | exact gc_t _ | exact gc_f _ | exact gc_gt _ _ | exact gc_gf _ _); (obtain ⟨os1, d1, rfl⟩ := h1.more; (try simp only [gv_of hc]); (try (have hc1 := and_l hc; (try simp only [gv_of hc1]); (try (have hc2 := and_l hc1; (try simp only [gv_of hc2]))))); go_simp; first | done | rfl))
      try simp only [Act.put, zqA, zqB, zqC]
      first | (refine wpPl_pick_and rfl rfl rfl rfl rfl rfl ?_) | (refine wpPl_pick_or rfl rfl rfl rfl rfl rfl ?_) | (refine wpPl_read (v := ?_) rfl ?_ (fun w1 h1 => ?_) ?_; rotate_left 1; rfl; (obtain ⟨os1, d1, rfl⟩ := h1.more; go_simp; first | done | rfl))
      try simp only [Act.put, zqA, zqB, zqC]
      (refine wpPl_read (v := ?_) rfl ?_ (fun _ h => ?_) ?_; rotate_left 1; rfl; (obtain ⟨_, _, rfl⟩ := h.more; go_simp; try rfl))
      try simp only [Act.put, zqA, zqB, zqC]
      refine wpPl_nil ?_
      go_wp2
      go_ret
      exact ⟨rfl, by repeat (first | exact Ext.refl _ | apply Ext.drew | apply Ext.alloc | apply Ext.more_)⟩
  by_cases h2 : k = 2
  · subst h2
    clear h0 h1
    go_enter Tryd.func31, Tryd.ntmps31
    go_wp2
    refine wp_plan (S := Ext _) [(0, 0), (1, 0), (2, 0), (3, 1), (4, 0), (5, 0)] [] (by kernel_rfl) (by kernel_rfl) (by kernel_rfl) (fun _ _ d _ _ h => by cases d <;> exact h) (Ext.drew (Ext.refl _)) ?_
    iterate 3 ((refine wpPl_read (v := ?_) rfl ?_ (fun _ h => ?_) ?_; rotate_left 1; rfl; (obtain ⟨_, _, rfl⟩ := h.more; go_simp; try rfl)); try simp only [Act.put, zqA, zqB, zqC])
    (refine wpPl_eff rfl ?_ (fun K hK => ?_); rfl; go_simp; refine (text_any _ _ ht).mono ?_; rintro e w' ⟨rfl, hb⟩; obtain ⟨os, d, rfl⟩ := hb.more; refine hK _ _ ?_ ?_; (repeat (first | (with_reducible (first | exact Ext.refl _ | exact ext_d _ _ _ _ | exact ext_app _ _ _ _ _ | exact ext_app2 _ _ _ _ _ _ | exact ext_app3 _ _ _ _ _ _ _ | exact ext_app4 _ _ _ _ _ _ _ _ | exact ext_app5 _ _ _ _ _ _ _ _ _)) | ((with_reducible refine ext_suffix ⟨_, ?_⟩); (try simp only [Array.append_assoc]); rfl) | (with_reducible (first | apply Ext.drew | apply Ext.alloc | apply Ext.more_)) | apply Ext.drew | apply Ext.alloc | apply Ext.more_)))
    try simp only [Act.put, zqA, zqB, zqC]
    iterate 2 ((refine wpPl_read (v := ?_) rfl ?_ (fun _ h => ?_) ?_; rotate_left 1; rfl; (obtain ⟨_, _, rfl⟩ := h.more; go_simp; try rfl)); try simp only [Act.put, zqA, zqB, zqC])
    refine wpPl_nil ?_
    go_wp2
    go_ret
    exact ⟨ret_bool (by simp [valRight]; unfold textV; split <;> rfl), by repeat (first | exact Ext.refl _ | apply Ext.drew | apply Ext.alloc | apply Ext.more_)⟩
  by_cases h3 : k = 3
  · subst h3
    clear h0 h1 h2
    go_enter Tryd.func31, Tryd.ntmps31
    go_wp2
    refine wp_plan (S := Ext _) [(0, 0), (1, 0), (2, 0), (3, 1), (4, 0), (5, 0)] [] (by kernel_rfl) (by kernel_rfl) (by kernel_rfl) (fun _ _ d _ _ h => by cases d <;> exact h) (Ext.drew (Ext.refl _)) ?_
    iterate 3 ((refine wpPl_read (v := ?_) rfl ?_ (fun _ h => ?_) ?_; rotate_left 1; rfl; (obtain ⟨_, _, rfl⟩ := h.more; go_simp; try rfl)); try simp only [Act.put, zqA, zqB, zqC])
    (refine wpPl_eff rfl ?_ (fun K hK => ?_); rfl; go_simp; refine (truth_any _ _).mono ?_; rintro e w' ⟨rfl, hb⟩; obtain ⟨os, d, rfl⟩ := hb.more; refine hK _ _ ?_ ?_; (repeat (first | (with_reducible (first | exact Ext.refl _ | exact ext_d _ _ _ _ | exact ext_app _ _ _ _ _ | exact ext_app2 _ _ _ _ _ _ | exact ext_app3 _ _ _ _ _ _ _ | exact ext_app4 _ _ _ _ _ _ _ _ | exact ext_app5 _ _ _ _ _ _ _ _ _)) | ((with_reducible refine ext_suffix ⟨_, ?_⟩); (try simp only [Array.append_assoc]); rfl) | (with_reducible (first | apply Ext.drew | apply Ext.alloc | apply Ext.more_)) | apply Ext.drew | apply Ext.alloc | apply Ext.more_)))
    try simp only [Act.put, zqA, zqB, zqC]
    iterate 2 ((refine wpPl_read (v := ?_) rfl ?_ (fun _ h => ?_) ?_; rotate_left 1; rfl; (obtain ⟨_, _, rfl⟩ := h.more; go_simp; try rfl)); try simp only [Act.put, zqA, zqB, zqC])
    refine wpPl_nil ?_
    go_wp2
    go_ret
    exact ⟨ret_bool (by simp [valRight]), by repeat (first | exact Ext.refl _ | apply Ext.drew | apply Ext.alloc | apply Ext.more_)⟩
  by_cases h4 : k = 4
  · subst h4
    clear h0 h1 h2 h3
    go_enter Tryd.func31, Tryd.ntmps31
    go_wp2
    refine wp_plan (S := Ext _) [(0, 0), (1, 0), (2, 0), (3, 1), (4, 0), (5, 0)] [] (by kernel_rfl) (by kernel_rfl) (by kernel_rfl) (fun _ _ d _ _ h => by cases d <;> exact h) (Ext.drew (Ext.refl _)) ?_
    iterate 3 ((refine wpPl_read (v := ?_) rfl ?_ (fun _ h => ?_) ?_; rotate_left 1; rfl; (obtain ⟨_, _, rfl⟩ := h.more; go_simp; try rfl)); try simp only [Act.put, zqA, zqB, zqC])
    (refine wpPl_eff rfl ?_ (fun K hK => ?_); rfl; go_simp; refine (bad_any _ _).mono ?_; rintro e w' ⟨rfl, hb⟩; obtain ⟨os, d, rfl⟩ := hb.more; refine hK _ _ ?_ ?_; (repeat (first | (with_reducible (first | exact Ext.refl _ | exact ext_d _ _ _ _ | exact ext_app _ _ _ _ _ | exact ext_app2 _ _ _ _ _ _ | exact ext_app3 _ _ _ _ _ _ _ | exact ext_app4 _ _ _ _ _ _ _ _ | exact ext_app5 _ _ _ _ _ _ _ _ _)) | ((with_reducible refine ext_suffix ⟨_, ?_⟩); (try simp only [Array.append_assoc]); rfl) | (with_reducible (first | apply Ext.drew | apply Ext.alloc | apply Ext.more_)) | apply Ext.drew | apply Ext.alloc | apply Ext.more_)))
    try simp only [Act.put, zqA, zqB, zqC]
    iterate 2 ((refine wpPl_read (v := ?_) rfl ?_ (fun _ h => ?_) ?_; rotate_left 1; rfl; (obtain ⟨_, _, rfl⟩ := h.more; go_simp; try rfl)); try simp only [Act.put, zqA, zqB, zqC])
    refine wpPl_nil ?_
    go_wp2
    go_ret
    exact ⟨ret_bool (by simp [valRight]), by repeat (first | exact Ext.refl _ | apply Ext.drew | apply Ext.alloc | apply Ext.more_)⟩
  have e : valRight ⟨k, m, ex, t, b, f⟩ = false := by simp [valRight, h0, h1, h2, h3, h4]
  rw [e]; clear e
  have h0 : (k == 0) = false := by simp [h0]
  have h1 : (k == 1) = false := by simp [h1]
  have h2 : (k == 2) = false := by simp [h2]
  have h3 : (k == 3) = false := by simp [h3]
  have h4 : (k == 4) = false := by simp [h4]
  go_enter Tryd.func31, Tryd.ntmps31
  go_wp2
  go_ret
  exact ⟨rfl, by repeat (first | exact Ext.refl _ | apply Ext.drew | apply Ext.alloc | apply Ext.more_)⟩
end Go.Proofs.YtljgagjipamdeaaDoor
namespace Go.Proofs.YtljgagjipamdeaaDoor
open Go.RowKit
theorem txt_ne (t : ByteArray) : (!t.toList.isEmpty) = true ↔ t ≠ ⟨#[]⟩ := by
  obtain ⟨⟨l⟩⟩ := t
  simp [ByteArray.toList_eq]
theorem txt_eq (t : ByteArray) : (!t.toList.isEmpty) = false ↔ t = ⟨#[]⟩ := by
  obtain ⟨⟨l⟩⟩ := t
  simp [ByteArray.toList_eq]
theorem refRight_bad {k m ex f : Int} {t : ByteArray} {b : Bool} (h : (((k != 1) = true ∧ ((!m == 0) = true ∨ (!ex == 0) = true) ∨ (k != 2) = true ∧ (!t.toList.isEmpty) = true) ∨ (k != 3) = true ∧ b = true) ∨ (k != 4) = true ∧ (f != 0) = true) :
    false = refRight ⟨k, m, ex, t, b, f⟩ := by
  unfold refRight
  rw [if_pos]
  rw [txt_ne] at h
  simp at h ⊢
  rcases h with ((⟨h1, h2⟩ | ⟨h1, h2⟩) | ⟨h1, h2⟩) | ⟨h1, h2⟩
  · left; refine ⟨h1, fun h3 => ?_⟩; rcases h2 with h2 | h2 <;> simp_all
  · right; left; exact ⟨h1, h2⟩
  · right; right; left; exact ⟨h1, h2⟩
  · right; right; right; exact ⟨h1, h2⟩
theorem refRight_good {k m ex f : Int} {t : ByteArray} {b : Bool} (h : ((((k != 1) = false ∨ (!m == 0) = false ∧ (!ex == 0) = false) ∧ ((k != 2) = false ∨ (!t.toList.isEmpty) = false)) ∧ ((k != 3) = false ∨ b = false)) ∧ ((k != 4) = false ∨ (f != 0) = false)) :
    refRight ⟨k, m, ex, t, b, f⟩ = if k = 1 then refNumRight m ex else if k = 2 then decide (t.size ≤ 255) else k == 0 || k == 3 || (k == 4 && decide (1 ≤ f) && decide (f ≤ 9)) := by
  unfold refRight
  rw [if_neg]
  rw [txt_eq] at h
  obtain ⟨⟨⟨h1, h2⟩, h3⟩, h4⟩ := h
  simp at h1 h2 h3 h4
  rintro (⟨h5, h6⟩ | ⟨h5, h6⟩ | ⟨h5, h6⟩ | ⟨h5, h6⟩)
  · exact h6 (h1.resolve_left h5)
  · exact h6 (h2.resolve_left h5)
  · rcases h3 with h3 | h3
    · exact h5 h3
    · simp_all
  · exact h6 (h4.resolve_left h5)
set_option maxHeartbeats 1000000 in
theorem refRight_any (k m ex f : Int) (t : ByteArray) (b : Bool) (w : World) (hm : I64 m) (ht : t.size ≤ 9223372036854775807) :
    Calls Tryd.prog 7 #[VV k m ex t b f] w fun e w' => e = .returned (.bool (refRight ⟨k, m, ex, t, b, f⟩)) ∧ Ext w w' := by
  generalize hR : refRight ⟨k, m, ex, t, b, f⟩ = R
  have HR := Lib.hid hR
  clear hR
  go_enter Tryd.func7, Tryd.ntmps7
  go_upto_region 1 with (fail)
  refine wp_region_lit ?_
  iterate 5 ((refine wpL_read (v := ?_) rfl ?_ ?_; rotate_left 1; (go_simp; first | done | rfl)); try simp only [Act.put, zqA, zqB, zqC])
  iterate 4 ((refine wpL_gread (v := ?_) (c := ?_) rfl rfl rfl ?_ (fun hc => ?_) ?_; rotate_left 2; (first | exact gc_t _ | exact gc_f _ | exact gc_gt _ _ | exact gc_gf _ _); ((try simp only [gv_of hc]); (try (have hc1 := and_l hc; (try simp only [gv_of hc1]); (try (have hc2 := and_l hc1; (try simp only [gv_of hc2]))))); go_simp; first | done | rfl)); try simp only [Act.put, zqA, zqB, zqC])
  first | (refine wpL_pick_and rfl rfl rfl rfl rfl ?_) | (refine wpL_pick_or rfl rfl rfl rfl rfl ?_)
  try simp only [Act.put, zqA, zqB, zqC]
  (refine wpL_read (v := ?_) rfl ?_ ?_; rotate_left 1; (go_simp; first | done | rfl))
  try simp only [Act.put, zqA, zqB, zqC]
  refine wpList_nil ?_
  try go_simp
  go_upto_region 2 with (fail)
  refine wp_region_lit ?_
  iterate 4 ((refine wpL_read (v := ?_) rfl ?_ ?_; rotate_left 1; (go_simp; first | done | rfl)); try simp only [Act.put, zqA, zqB, zqC])
  iterate 2 ((refine wpL_gread (v := ?_) (c := ?_) rfl rfl rfl ?_ (fun hc => ?_) ?_; rotate_left 2; (first | exact gc_t _ | exact gc_f _ | exact gc_gt _ _ | exact gc_gf _ _); ((try simp only [gv_of hc]); (try (have hc1 := and_l hc; (try simp only [gv_of hc1]); (try (have hc2 := and_l hc1; (try simp only [gv_of hc2]))))); go_simp; first | done | rfl)); try simp only [Act.put, zqA, zqB, zqC])
  first | (refine wpL_pick_and rfl rfl rfl rfl rfl ?_) | (refine wpL_pick_or rfl rfl rfl rfl rfl ?_)
  try simp only [Act.put, zqA, zqB, zqC]
  (refine wpL_read (v := ?_) rfl ?_ ?_; rotate_left 1; (go_simp; first | done | rfl))
  try simp only [Act.put, zqA, zqB, zqC]
  iterate 7 ((refine wpL_gread (v := ?_) (c := ?_) rfl rfl rfl ?_ (fun hc => ?_) ?_; rotate_left 2; (first | exact gc_t _ | exact gc_f _ | exact gc_gt _ _ | exact gc_gf _ _); ((try simp only [gv_of hc]); (try (have hc1 := and_l hc; (try simp only [gv_of hc1]); (try (have hc2 := and_l hc1; (try simp only [gv_of hc2]))))); go_simp; first | done | rfl)); try simp only [Act.put, zqA, zqB, zqC])
  first | (refine wpL_gpick_and rfl rfl rfl rfl rfl rfl rfl ?_ ?_; (first | exact gc_t _ | exact gc_f _ | exact gc_gt _ _ | exact gc_gf _ _)) | (refine wpL_gpick_or rfl rfl rfl rfl rfl rfl rfl ?_ ?_; (first | exact gc_t _ | exact gc_f _ | exact gc_gt _ _ | exact gc_gf _ _))
  try simp only [Act.put, zqA, zqB, zqC]
  first | (refine wpL_pick_and rfl rfl rfl rfl rfl ?_) | (refine wpL_pick_or rfl rfl rfl rfl rfl ?_)
  try simp only [Act.put, zqA, zqB, zqC]
  (refine wpL_read (v := ?_) rfl ?_ ?_; rotate_left 1; (go_simp; first | done | rfl))
  try simp only [Act.put, zqA, zqB, zqC]
  iterate 6 ((refine wpL_gread (v := ?_) (c := ?_) rfl rfl rfl ?_ (fun hc => ?_) ?_; rotate_left 2; (first | exact gc_t _ | exact gc_f _ | exact gc_gt _ _ | exact gc_gf _ _); ((try simp only [gv_of hc]); (try (have hc1 := and_l hc; (try simp only [gv_of hc1]); (try (have hc2 := and_l hc1; (try simp only [gv_of hc2]))))); go_simp; first | done | rfl)); try simp only [Act.put, zqA, zqB, zqC])
  first | (refine wpL_gpick_and rfl rfl rfl rfl rfl rfl rfl ?_ ?_; (first | exact gc_t _ | exact gc_f _ | exact gc_gt _ _ | exact gc_gf _ _)) | (refine wpL_gpick_or rfl rfl rfl rfl rfl rfl rfl ?_ ?_; (first | exact gc_t _ | exact gc_f _ | exact gc_gt _ _ | exact gc_gf _ _))
  try simp only [Act.put, zqA, zqB, zqC]
  first | (refine wpL_pick_and rfl rfl rfl rfl rfl ?_) | (refine wpL_pick_or rfl rfl rfl rfl rfl ?_)
  try simp only [Act.put, zqA, zqB, zqC]
  (refine wpL_read (v := ?_) rfl ?_ ?_; rotate_left 1; (go_simp; first | done | rfl))
  try simp only [Act.put, zqA, zqB, zqC]
  iterate 7 ((refine wpL_gread (v := ?_) (c := ?_) rfl rfl rfl ?_ (fun hc => ?_) ?_; rotate_left 2; (first | exact gc_t _ | exact gc_f _ | exact gc_gt _ _ | exact gc_gf _ _); ((try simp only [gv_of hc]); (try (have hc1 := and_l hc; (try simp only [gv_of hc1]); (try (have hc2 := and_l hc1; (try simp only [gv_of hc2]))))); go_simp; first | done | rfl)); try simp only [Act.put, zqA, zqB, zqC])
  first | (refine wpL_gpick_and rfl rfl rfl rfl rfl rfl rfl ?_ ?_; (first | exact gc_t _ | exact gc_f _ | exact gc_gt _ _ | exact gc_gf _ _)) | (refine wpL_gpick_or rfl rfl rfl rfl rfl rfl rfl ?_ ?_; (first | exact gc_t _ | exact gc_f _ | exact gc_gt _ _ | exact gc_gf _ _))
  try simp only [Act.put, zqA, zqB, zqC]
  first | (refine wpL_pick_and rfl rfl rfl rfl rfl ?_) | (refine wpL_pick_or rfl rfl rfl rfl rfl ?_)
  try simp only [Act.put, zqA, zqB, zqC]
  refine wpList_nil ?_
  try go_simp
  go_wp2_with (go_at_call 15; refine (refNumRight_any _ _ _ hm).mono ?_; rintro e w' ⟨rfl, hb⟩; obtain ⟨os, d, rfl⟩ := hb.more)
  all_goals (go_ret; refine ⟨ret_bool ?_, by repeat (first | exact Ext.refl _ | apply Ext.drew | apply Ext.alloc | apply Ext.more_)⟩)
  all_goals rw [← HR.out]
  · exact refRight_bad (by assumption)
  all_goals rw [refRight_good (by assumption)]
  all_goals simp_all
  all_goals omega
end Go.Proofs.YtljgagjipamdeaaDoor
namespace Go.Proofs.YtljgagjipamdeaaDoor
open Go.RowKit
def fitsB (r c : Int) : Bool := decide (1 ≤ r) && decide (1 ≤ c) && decide (r ≤ 4096) && decide (c ≤ 4096 / r)
theorem fits_mul {r c : Int} (h : fitsB r c = true) : 1 ≤ r ∧ 1 ≤ c ∧ r ≤ 4096 ∧ c ≤ 4096 ∧ 1 ≤ r * c ∧ r * c ≤ 4096 := by
  simp only [fitsB, Bool.and_eq_true, decide_eq_true_eq] at h
  obtain ⟨⟨⟨h1, h2⟩, h3⟩, h4⟩ := h
  have h5 : r * (4096 / r) ≤ 4096 := Int.mul_ediv_self_le (by omega)
  have h6 : r * c ≤ r * (4096 / r) := Int.mul_le_mul_of_nonneg_left h4 (by omega)
  have h7 : c ≤ 4096 := by have := Int.ediv_le_self (a := 4096) r (by omega); omega
  have h8 : 1 * 1 ≤ r * c := Int.mul_le_mul h1 h2 (by omega) (by omega)
  exact ⟨h1, h2, h3, h7, by omega, by omega⟩
set_option maxHeartbeats 400000 in
theorem fits_any (r c : Int) (w : World) :
    Calls Tryd.prog 30 #[.int .i64 r, .int .i64 c] w fun e w' => e = .returned (.bool (fitsB r c)) ∧ w = w' := by
  by_cases h1 : 1 ≤ r
  · by_cases h2 : 1 ≤ c
    · by_cases h3 : r ≤ 4096
      · have e : fitsB r c = decide (c ≤ 4096 / r) := by simp [fitsB, h1, h2, h3]
        rw [e]
        go_enter Tryd.func30, Tryd.ntmps30
        go_wp2
        go_ret
        exact ⟨rfl, rfl⟩
      · have e : fitsB r c = false := by simp [fitsB, h3]
        rw [e]
        go_enter Tryd.func30, Tryd.ntmps30
        go_wp2
        go_ret
        exact ⟨rfl, rfl⟩
    · have e : fitsB r c = false := by simp [fitsB, h2]
      rw [e]
      go_enter Tryd.func30, Tryd.ntmps30
      go_wp2
      go_ret
      exact ⟨rfl, rfl⟩
  · have e : fitsB r c = false := by simp [fitsB, h1]
    rw [e]
    go_enter Tryd.func30, Tryd.ntmps30
    go_wp2
    go_ret
    exact ⟨rfl, rfl⟩
/-- An array as it comes in or goes from call to call. -/
structure ArrIn (w : World) (A : Option Addr) (n cap : Nat) (l : List Val) : Prop where
  rd : SlV 0 w A l
  len : l.length = n
  cap : n ≤ cap
  small : n ≤ 9223372036854775807
  ok : ∀ x ∈ l, x.ok
theorem ArrIn.ext {w w' : World} {A : Option Addr} {n cap : Nat} {l : List Val} (h : ArrIn w A n cap l) (hb : Ext w w') : ArrIn w' A n cap l := ⟨h.rd.ext hb, h.len, h.cap, h.small, h.ok⟩
theorem ArrIn.at {w : World} {A : Option Addr} {n cap : Nat} {l : List Val} (h : ArrIn w A n cap l) {k : Nat} (hk : k < n) :
    ∃ x b off, l[k]? = some x ∧ x.ok ∧ A = some ⟨b, off, none⟩ ∧ ValAt w b (off + k * 6) x := by
  have hl : k < l.length := by rw [h.len]; exact hk
  obtain ⟨b, off, hA, _, hv⟩ := h.rd.at (List.getElem?_eq_getElem hl)
  exact ⟨l[k], b, off, List.getElem?_eq_getElem hl, h.ok _ (List.getElem_mem hl), hA, hv⟩
def rightA (r c : Int) (l : List Val) : Bool := fitsB r c && decide ((l.length : Int) = r * c) && l.all valRight
set_option maxHeartbeats 400000 in
theorem right_any (r c : Int) (A : Option Addr) (n cap : Nat) (l : List Val) (w : World) (h : ArrIn w A n cap l) :
    Calls Tryd.prog 19 #[AV r c (.slice A n cap)] w fun e w' => e = .returned (.bool (rightA r c l)) ∧ Ext w w' := by
  have hsm := h.small
  by_cases hf : fitsB r c = true
  · obtain ⟨f1, f2, f3, f4, f5, f6⟩ := fits_mul hf
    have hw : IntKind.i64.wrap (r * c) = r * c := by rw [IntKind.wrap_i64]; omega
    by_cases hn : (n : Int) = r * c
    · have e : rightA r c l = l.all valRight := by simp [rightA, hf, h.len, hn]
      generalize hR : rightA r c l = R at *
      have HR := Lib.hid e
      clear e hR
      have hn' : ((n : Int) != r * c) = false := by simp [hn]
      have HN := Lib.hid hn
      clear hn
      go_enter Tryd.func19, Tryd.ntmps19
      go_wp2_with (go_at_call 30; refine (fits_any _ _ _).mono ?_; rintro e w' ⟨rfl, rfl⟩)
      go_loopw [24] (fun i wr => ∃ (k : Nat) (os : Array Obj) (d : Nat), k ≤ n ∧ i = .int .i64 k ∧ wr = more (w.alloc (Obj.cells #[.int .i64 r, .int .i64 c, .slice A n cap] 24)) os d ∧ Hid (∀ j x, j < k → l[j]? = some x → valRight x = true)) (fun i _ => n - (intOf i).toNat)
      case atStart => exact ⟨0, #[], _, Nat.zero_le _, rfl, (more_none _).symm, fun j x hj => absurd hj (Nat.not_lt_zero _)⟩
      case round =>
        obtain ⟨k, os, d, hk, rfl, rfl, H⟩ := hrel
        by_cases hlt : k < n
        · obtain ⟨x, b, off, hx, hxo, rfl, hv⟩ := h.at hlt
          obtain ⟨v0, v1, v2, v3, v4, v5⟩ := hv
          have hbl : b < w.heap.size := lt_of_cell v0
          by_cases hvr : valRight x = true
          · go_wp2_with (go_at_call 31; refine (valRight_any _ _ _ _ _ _ _ hxo.2.1 hxo.2.2.2.1).mono ?_; rintro e w' ⟨rfl, hb⟩; obtain ⟨os', d', rfl⟩ := hb.more)
            refine ⟨⟨k + 1, _, _, by omega, by go_num, rfl, ?_⟩, by simp [intOf]; omega⟩
            intro j y hj hy
            by_cases hjk : j = k
            · subst hjk
              obtain rfl : x = y := by rw [hx] at hy; simpa using hy
              exact hvr
            · exact H.out j y (by omega) hy
          · have hvr' : valRight x = false := by simpa using hvr
            have hR : R = false := by
              rw [HR.out]
              exact List.all_eq_false.2 ⟨x, List.mem_of_getElem? hx, hvr⟩
            have HR2 := Lib.hid hR
            clear hR hvr
            go_wp2_with (go_at_call 31; refine (valRight_any _ _ _ _ _ _ _ hxo.2.1 hxo.2.2.2.1).mono ?_; rintro e w' ⟨rfl, hb⟩; obtain ⟨os', d', rfl⟩ := hb.more)
            go_ret
            exact ⟨ret_bool HR2.out.symm, by repeat (first | exact Ext.refl _ | apply Ext.drew | apply Ext.alloc | apply Ext.more_)⟩
        · have hR : R = true := by
            rw [HR.out]
            refine List.all_eq_true.2 fun x hx => ?_
            obtain ⟨j, hj, rfl⟩ := List.getElem_of_mem hx
            exact H.out j _ (by have := h.len; omega) (List.getElem?_eq_getElem hj)
          have HR2 := Lib.hid hR
          clear hR
          go_wp2
          go_ret
          exact ⟨ret_bool HR2.out.symm, by repeat (first | exact Ext.refl _ | apply Ext.drew | apply Ext.alloc | apply Ext.more_)⟩
    · have e : rightA r c l = false := by simp [rightA, h.len, hn]
      rw [e]; clear e
      have hn' : ((n : Int) != r * c) = true := by simp [hn]
      clear hn
      go_enter Tryd.func19, Tryd.ntmps19
      go_wp2_with (go_at_call 30; refine (fits_any _ _ _).mono ?_; rintro e w' ⟨rfl, rfl⟩)
      go_ret
      exact ⟨rfl, by repeat (first | exact Ext.refl _ | apply Ext.drew | apply Ext.alloc | apply Ext.more_)⟩
  · have e : rightA r c l = false := by simp [rightA, hf]
    have hf' : fitsB r c = false := by simpa using hf
    rw [e]; clear e hf
    go_enter Tryd.func19, Tryd.ntmps19
    go_wp2_with (go_at_call 30; refine (fits_any _ _ _).mono ?_; rintro e w' ⟨rfl, rfl⟩)
    go_ret
    exact ⟨rfl, by repeat (first | exact Ext.refl _ | apply Ext.drew | apply Ext.alloc | apply Ext.more_)⟩
/-- counterpaneref09.Right. -/
def refRightA (r c : Int) (l : List Val) : Bool :=
  decide (1 ≤ r) && decide (1 ≤ c) && decide (r ≤ 4096) && decide (c ≤ 4096) && decide (r * c ≤ 4096) && decide ((l.length : Int) = r * c) && l.all refRight
theorem rightA_eq (r c : Int) (l : List Val) (h : ∀ x ∈ l, x.ok) : rightA r c l = refRightA r c l := by
  have h1 : l.all valRight = l.all refRight := by
    rw [Bool.eq_iff_iff]
    simp only [List.all_eq_true]
    exact ⟨fun k x hx => by rw [← right_eq x (h x hx)]; exact k x hx, fun k x hx => by rw [right_eq x (h x hx)]; exact k x hx⟩
  unfold rightA refRightA
  rw [h1]
  by_cases hf : fitsB r c = true
  · obtain ⟨f1, f2, f3, f4, f5, f6⟩ := fits_mul hf
    simp [hf, f1, f2, f3, f4, f6]
  · have hf' : fitsB r c = false := by simpa using hf
    simp only [hf', Bool.false_and]
    by_cases h1 : 1 ≤ r <;> simp [h1]
    by_cases h2 : 1 ≤ c <;> simp [h2]
    by_cases h3 : r ≤ 4096 <;> simp [h3]
    intro h4 h5
    exfalso
    simp [fitsB, h1, h2, h3] at hf'
    have h6 : 4096 / r + 1 ≤ c := by omega
    have h7 : r * (4096 / r + 1) ≤ r * c := Int.mul_le_mul_of_nonneg_left h6 (by omega)
    have h8 := Int.lt_mul_ediv_self_add (x := 4096) (k := r) (by omega)
    rw [Int.mul_add] at h7
    omega
end Go.Proofs.YtljgagjipamdeaaDoor
namespace Go.Proofs.YtljgagjipamdeaaDoor
open Go.RowKit
theorem wrap_small {r c : Int} (h1 : 1 ≤ r) (h2 : 1 ≤ c) (h3 : r ≤ 4096) (h4 : c ≤ 4096) : IntKind.i64.wrap (r * c) = r * c := by
  have h5 : 1 * 1 ≤ r * c := Int.mul_le_mul h1 h2 (by omega) (by omega)
  have h6 : r * c ≤ 4096 * 4096 := Int.mul_le_mul h3 h4 (by omega) (by omega)
  rw [IntKind.wrap_i64]; omega
theorem refRightA_bad {r c : Int} {n : Nat} {l : List Val} (hl : l.length = n) (h : ((((r < 1 ∨ c < 1) ∨ 4096 < r) ∨ 4096 < c) ∨ 4096 < IntKind.i64.wrap (r * c)) ∨ ((n : Int) != IntKind.i64.wrap (r * c)) = true) : refRightA r c l = false := by
  by_cases h1 : 1 ≤ r
  · by_cases h2 : 1 ≤ c
    · by_cases h3 : r ≤ 4096
      · by_cases h4 : c ≤ 4096
        · rw [wrap_small h1 h2 h3 h4] at h
          rcases h with (((h | h) | h) | h) | h
          · omega
          · omega
          · omega
          · have h5 : ¬ r * c ≤ 4096 := by omega
            simp [refRightA, h5]
          · have h5 : ¬ (l.length : Int) = r * c := by rw [hl]; simpa using h
            simp [refRightA, h5]
        · simp [refRightA, h4]
      · simp [refRightA, h3]
    · simp [refRightA, h2]
  · simp [refRightA, h1]
theorem refRightA_good {r c : Int} {n : Nat} {l : List Val} (hl : l.length = n) (h : ((((1 ≤ r ∧ 1 ≤ c) ∧ r ≤ 4096) ∧ c ≤ 4096) ∧ IntKind.i64.wrap (r * c) ≤ 4096) ∧ ((n : Int) != IntKind.i64.wrap (r * c)) = false) : refRightA r c l = l.all refRight := by
  obtain ⟨⟨⟨⟨⟨h1, h2⟩, h3⟩, h4⟩, h5⟩, h6⟩ := h
  rw [wrap_small h1 h2 h3 h4] at h5 h6
  have h7 : (l.length : Int) = r * c := by rw [hl]; simpa using h6
  simp [refRightA, h1, h2, h3, h4, h5, h7]
set_option maxHeartbeats 400000 in
theorem refRightA_any (r c : Int) (A : Option Addr) (n cap : Nat) (l : List Val) (w : World) (h : ArrIn w A n cap l) :
    Calls Tryd.prog 6 #[AV r c (.slice A n cap)] w fun e w' => e = .returned (.bool (refRightA r c l)) ∧ Ext w w' := by
  have hsm := h.small
  generalize hR : refRightA r c l = R
  have HR := Lib.hid hR
  clear hR
  go_enter Tryd.func6, Tryd.ntmps6
  go_upto_region 1 with (fail)
  refine wp_region_lit ?_
  iterate 4 ((refine wpL_read (v := ?_) rfl ?_ ?_; rotate_left 1; (go_simp; first | done | rfl)); try simp only [Act.put, zqA, zqB, zqC])
  iterate 3 ((refine wpL_gread (v := ?_) (c := ?_) rfl rfl rfl ?_ (fun hc => ?_) ?_; rotate_left 2; (first | exact gc_t _ | exact gc_f _ | exact gc_gt _ _ | exact gc_gf _ _); ((try simp only [gv_of hc]); (try (have hc1 := and_l hc; (try simp only [gv_of hc1]); (try (have hc2 := and_l hc1; (try simp only [gv_of hc2]))))); go_simp; first | done | rfl)); try simp only [Act.put, zqA, zqB, zqC])
  first | (refine wpL_pick_and rfl rfl rfl rfl rfl ?_) | (refine wpL_pick_or rfl rfl rfl rfl rfl ?_)
  try simp only [Act.put, zqA, zqB, zqC]
  (refine wpL_read (v := ?_) rfl ?_ ?_; rotate_left 1; (go_simp; first | done | rfl))
  try simp only [Act.put, zqA, zqB, zqC]
  iterate 3 ((refine wpL_gread (v := ?_) (c := ?_) rfl rfl rfl ?_ (fun hc => ?_) ?_; rotate_left 2; (first | exact gc_t _ | exact gc_f _ | exact gc_gt _ _ | exact gc_gf _ _); ((try simp only [gv_of hc]); (try (have hc1 := and_l hc; (try simp only [gv_of hc1]); (try (have hc2 := and_l hc1; (try simp only [gv_of hc2]))))); go_simp; first | done | rfl)); try simp only [Act.put, zqA, zqB, zqC])
  first | (refine wpL_pick_and rfl rfl rfl rfl rfl ?_) | (refine wpL_pick_or rfl rfl rfl rfl rfl ?_)
  try simp only [Act.put, zqA, zqB, zqC]
  (refine wpL_read (v := ?_) rfl ?_ ?_; rotate_left 1; (go_simp; first | done | rfl))
  try simp only [Act.put, zqA, zqB, zqC]
  iterate 3 ((refine wpL_gread (v := ?_) (c := ?_) rfl rfl rfl ?_ (fun hc => ?_) ?_; rotate_left 2; (first | exact gc_t _ | exact gc_f _ | exact gc_gt _ _ | exact gc_gf _ _); ((try simp only [gv_of hc]); (try (have hc1 := and_l hc; (try simp only [gv_of hc1]); (try (have hc2 := and_l hc1; (try simp only [gv_of hc2]))))); go_simp; first | done | rfl)); try simp only [Act.put, zqA, zqB, zqC])
  first | (refine wpL_pick_and rfl rfl rfl rfl rfl ?_) | (refine wpL_pick_or rfl rfl rfl rfl rfl ?_)
  try simp only [Act.put, zqA, zqB, zqC]
  (refine wpL_read (v := ?_) rfl ?_ ?_; rotate_left 1; (go_simp; first | done | rfl))
  try simp only [Act.put, zqA, zqB, zqC]
  iterate 6 ((refine wpL_gread (v := ?_) (c := ?_) rfl rfl rfl ?_ (fun hc => ?_) ?_; rotate_left 2; (first | exact gc_t _ | exact gc_f _ | exact gc_gt _ _ | exact gc_gf _ _); ((try simp only [gv_of hc]); (try (have hc1 := and_l hc; (try simp only [gv_of hc1]); (try (have hc2 := and_l hc1; (try simp only [gv_of hc2]))))); go_simp; first | done | rfl)); try simp only [Act.put, zqA, zqB, zqC])
  first | (refine wpL_pick_and rfl rfl rfl rfl rfl ?_) | (refine wpL_pick_or rfl rfl rfl rfl rfl ?_)
  try simp only [Act.put, zqA, zqB, zqC]
  (refine wpL_read (v := ?_) rfl ?_ ?_; rotate_left 1; (go_simp; first | done | rfl))
  try simp only [Act.put, zqA, zqB, zqC]
  iterate 9 ((refine wpL_gread (v := ?_) (c := ?_) rfl rfl rfl ?_ (fun hc => ?_) ?_; rotate_left 2; (first | exact gc_t _ | exact gc_f _ | exact gc_gt _ _ | exact gc_gf _ _); ((try simp only [gv_of hc]); (try (have hc1 := and_l hc; (try simp only [gv_of hc1]); (try (have hc2 := and_l hc1; (try simp only [gv_of hc2]))))); go_simp; first | done | rfl)); try simp only [Act.put, zqA, zqB, zqC])
  first | (refine wpL_pick_and rfl rfl rfl rfl rfl ?_) | (refine wpL_pick_or rfl rfl rfl rfl rfl ?_)
  try simp only [Act.put, zqA, zqB, zqC]
  refine wpList_nil ?_
  try go_simp
  go_wp2
  · go_ret
    refine ⟨ret_bool ?_, by repeat (first | exact Ext.refl _ | apply Ext.drew | apply Ext.alloc | apply Ext.more_)⟩
    rw [← HR.out]
    symm
    exact refRightA_bad h.len (by assumption)
  · rename_i hgood _ _
    have HR' := Lib.hid (refRightA_good h.len hgood)
    clear hgood
    go_loopw [3] (fun i wr => ∃ (k : Nat) (os : Array Obj) (d : Nat), k ≤ n ∧ i = .int .i64 k ∧ wr = more (w.alloc (Obj.cells #[.int .i64 r, .int .i64 c, .slice A n cap] 24)) os d ∧ Hid (∀ j x, j < k → l[j]? = some x → refRight x = true)) (fun i _ => n - (intOf i).toNat)
    case atStart => exact ⟨0, #[], _, Nat.zero_le _, rfl, (more_none _).symm, fun j x hj => absurd hj (Nat.not_lt_zero _)⟩
    case round =>
      obtain ⟨k, os, d, hk, rfl, rfl, H⟩ := hrel
      by_cases hlt : k < n
      · obtain ⟨x, b, off, hx, hxo, rfl, hv⟩ := h.at hlt
        obtain ⟨v0, v1, v2, v3, v4, v5⟩ := hv
        have hbl : b < w.heap.size := lt_of_cell v0
        by_cases hvr : refRight x = true
        · go_wp2_with (go_at_call 7; refine (refRight_any _ _ _ _ _ _ _ hxo.2.1 hxo.2.2.2.1).mono ?_; rintro e w' ⟨rfl, hb⟩; obtain ⟨os', d', rfl⟩ := hb.more)
          refine ⟨⟨k + 1, _, _, by omega, by go_num, rfl, ?_⟩, by simp [intOf]; omega⟩
          intro j y hj hy
          by_cases hjk : j = k
          · subst hjk
            obtain rfl : x = y := by rw [hx] at hy; simpa using hy
            exact hvr
          · exact H.out j y (by omega) hy
        · have hvr' : refRight x = false := by simpa using hvr
          have hR : R = false := by
            rw [← HR.out, HR'.out]
            exact List.all_eq_false.2 ⟨x, List.mem_of_getElem? hx, hvr⟩
          have HR2 := Lib.hid hR
          clear hR hvr
          go_wp2_with (go_at_call 7; refine (refRight_any _ _ _ _ _ _ _ hxo.2.1 hxo.2.2.2.1).mono ?_; rintro e w' ⟨rfl, hb⟩; obtain ⟨os', d', rfl⟩ := hb.more)
          go_ret
          exact ⟨ret_bool HR2.out.symm, by repeat (first | exact Ext.refl _ | apply Ext.drew | apply Ext.alloc | apply Ext.more_)⟩
      · have hR : R = true := by
          rw [← HR.out, HR'.out]
          refine List.all_eq_true.2 fun x hx => ?_
          obtain ⟨j, hj, rfl⟩ := List.getElem_of_mem hx
          exact H.out j _ (by have := h.len; omega) (List.getElem?_eq_getElem hj)
        have HR2 := Lib.hid hR
        clear hR
        go_wp2
        go_ret
        exact ⟨ret_bool HR2.out.symm, by repeat (first | exact Ext.refl _ | apply Ext.drew | apply Ext.alloc | apply Ext.more_)⟩
end Go.Proofs.YtljgagjipamdeaaDoor
namespace Go.Proofs.YtljgagjipamdeaaDoor
open Go.RowKit
theorem SlV.one {w : World} {n base : Nat} {k m e : Int} {t : ByteArray} {b : Bool} {f : Int} {ty : TypeId} (hn : n = w.heap.size) (hb : base ≤ n) :
    SlV base (w.alloc (.cells #[.int .i64 k, .int .i64 m, .int .i64 e, .string t, .bool b, .int .i64 f] ty)) (some ⟨n, 0, none⟩) [⟨k, m, e, t, b, f⟩] := fun j u hu => by
  refine ⟨n, 0, rfl, hb, ?_⟩
  rw [World.cell?_alloc_at _ _ _ _ hn, Nat.zero_add, ← hu]
  simp only [vcells, Val.cells, List.flatMap_cons, List.flatMap_nil, List.append_nil]
  simp
/-- What a call hands back: an array in new memory. -/
def ArrO (base : Nat) (w' : World) (e : Ending) (r c : Int) (l : List Val) : Prop :=
  ∃ A cap, e = .returned (AV r c (.slice A l.length cap)) ∧ SlV base w' A l ∧ l.length ≤ cap
def badV (f : Int) : Val := ⟨4, 0, 0, ⟨#[]⟩, false, f⟩
set_option maxHeartbeats 400000 in
theorem refBad_any (f : Int) (w : World) :
    Calls Tryd.prog 13 #[.int .i64 f] w fun e w' => ArrO w.heap.size w' e 1 1 [badV f] ∧ Ext w w' := by
  go_enter Tryd.func13, Tryd.ntmps13
  go_wp2
  refine bodyPost_ret (v := AV 1 1 (.slice (some ⟨w.heap.size + 1, 0, none⟩) 1 1)) (by simp [results, Tryd.results13, go_sem]) rfl ⟨⟨_, _, rfl, ?_, Nat.le_refl _⟩, by repeat (first | exact Ext.refl _ | apply Ext.drew | apply Ext.alloc | apply Ext.more_)⟩
  exact SlV.one (by simp) (by simp)
set_option maxHeartbeats 400000 in
theorem one_right (k m ex f : Int) (t : ByteArray) (b : Bool) (w : World) (hm : I64 m) (ht : t.size ≤ 9223372036854775807) (hr : valRight ⟨k, m, ex, t, b, f⟩ = true) :
    Calls Tryd.prog 28 #[VV k m ex t b f] w fun e w' => ArrO w.heap.size w' e 1 1 [⟨k, m, ex, t, b, f⟩] ∧ Ext w w' := by
  go_enter Tryd.func28, Tryd.ntmps28
  go_wp2_with (go_at_call 31; refine (valRight_any _ _ _ _ _ _ _ hm ht).mono ?_; rintro e w' ⟨rfl, hb⟩; obtain ⟨os, d, rfl⟩ := hb.more)
  refine bodyPost_ret (v := AV 1 1 (.slice (some ⟨w.heap.size + 1 + 1 + os.size, 0, none⟩) 1 1)) (by simp [results, Tryd.results28, go_sem]) rfl ⟨⟨_, _, rfl, ?_, Nat.le_refl _⟩, by repeat (first | exact Ext.refl _ | apply Ext.drew | apply Ext.alloc | apply Ext.more_)⟩
  exact SlV.one (by simp) (by omega)
theorem valRight_bad (f : Int) (h : 1 ≤ f ∧ f ≤ 9) : valRight (badV f) = true := by
  have hb : badF f = f := by unfold badF; rw [if_neg (by omega)]
  simp [valRight, badV, hb, eqV]
end Go.Proofs.YtljgagjipamdeaaDoor
namespace Go.Proofs.YtljgagjipamdeaaDoor
open Go.RowKit NM
/-- value.ToNum: the number, and the fault. -/
def tnP (v : Val) : Int × Int := if v.kind = 1 then (v.mant, v.exp) else if v.kind = 2 then (parS v.text).getD (0, 0) else if v.kind = 3 ∧ v.truth = true then (1, 0) else (0, 0)
def tnF (v : Val) : Int := if v.kind = 2 then (if (parS v.text).isSome then 0 else 2) else if v.kind = 4 then v.fault else 0
def bad_ (f : Int) : Val := badV (badF f)
def truthV (b : Bool) : Val := ⟨3, 0, 0, ⟨#[]⟩, b, 0⟩
def Val.right (x : Val) : Prop := valRight x = true
theorem right_num {m e : Int} (h : Rt m e) : Val.right ⟨1, m, e, ⟨#[]⟩, false, 0⟩ := by
  unfold Val.right valRight
  rw [if_neg (show ¬ (1 : Int) = 0 by decide), if_pos rfl, Bool.and_eq_true]
  exact ⟨by rw [numRight_Rt]; exact decide_eq_true h, decide_eq_true rfl⟩
theorem badF_bd (f : Int) : 1 ≤ badF f ∧ badF f ≤ 9 := by unfold badF; split <;> omega
theorem right_bad (f : Int) : (bad_ f).right := valRight_bad _ (badF_bd f)
/-- What a right value is, written out. -/
theorem Val.right.form {x : Val} (h : x.right) : x = Val.only 0 ∨ (∃ m e, x = ⟨1, m, e, ⟨#[]⟩, false, 0⟩ ∧ Rt m e) ∨ (∃ t, x = ⟨2, 0, 0, t, false, 0⟩ ∧ t.size ≤ 255) ∨ (∃ b, x = truthV b) ∨ (∃ f, x = badV f ∧ 1 ≤ f ∧ f ≤ 9) := by
  have hc := right_cases h
  unfold Val.right valRight at h
  by_cases h0 : x.kind = 0
  · exact Or.inl (hc.1.2 h0)
  · rw [if_neg h0] at h
    by_cases h1 : x.kind = 1
    · rw [if_pos h1, Bool.and_eq_true, numRight_Rt] at h
      exact Or.inr (Or.inl ⟨x.mant, x.exp, of_decide_eq_true h.2, of_decide_eq_true h.1⟩)
    · rw [if_neg h1] at h
      by_cases h2 : x.kind = 2
      · rw [if_pos h2] at h
        have h3 := hc.2.2.1 h2
        refine Or.inr (Or.inr (Or.inl ⟨x.text, ?_, h3⟩))
        have := of_decide_eq_true h
        unfold textV at this
        rw [if_neg (by omega)] at this
        exact this
      · rw [if_neg h2] at h
        by_cases h3 : x.kind = 3
        · rw [if_pos h3] at h
          exact Or.inr (Or.inr (Or.inr (Or.inl ⟨x.truth, of_decide_eq_true h⟩)))
        · rw [if_neg h3] at h
          by_cases h4 : x.kind = 4
          · rw [if_pos h4] at h
            have hf := hc.2.2.2 h4
            refine Or.inr (Or.inr (Or.inr (Or.inr ⟨x.fault, ?_, hf⟩)))
            have := of_decide_eq_true h
            rw [show badF x.fault = x.fault by unfold badF; rw [if_neg (by omega)]] at this
            exact this
          · rw [if_neg h4] at h; cases h
theorem i64_small {n : Int} (h : -1000 ≤ n ∧ n ≤ 1000) : I64 n := by unfold I64; omega
theorem Val.right.ok {x : Val} (h : x.right) : x.ok := by
  have z : I64 0 := i64_small (by decide)
  have s0 : (0 : Nat) ≤ 9223372036854775807 := Nat.zero_le _
  rcases h.form with rfl | ⟨m, e, rfl, hr⟩ | ⟨t, rfl, ht⟩ | ⟨b, rfl⟩ | ⟨f, rfl, hf⟩
  · exact ⟨z, z, z, s0, z⟩
  · obtain ⟨r1, r2⟩ := Rt_i64 hr
    exact ⟨i64_small (n := 1) (by decide), r1, r2, s0, z⟩
  · exact ⟨i64_small (n := 2) (by decide), z, z, Nat.le_trans ht (by decide), z⟩
  · exact ⟨i64_small (n := 3) (by decide), z, z, s0, z⟩
  · exact ⟨i64_small (n := 4) (by decide), z, z, s0, i64_small (n := f) (by omega)⟩
theorem rt_zero : Rt 0 0 := Or.inl ⟨rfl, rfl⟩
theorem par_rt {s : ByteArray} {p : Int × Int} (h : parS s = some p) : Rt p.1 p.2 := by
  unfold parS at h
  by_cases hl : 255 < s.size
  · rw [if_pos hl] at h; cases h
  · rw [if_neg hl] at h
    unfold parM at h
    cases hr : runS (bl s) st0 with
    | none => rw [hr] at h; cases h
    | some S =>
      rw [hr, Option.bind_some] at h
      unfold endS at h
      split at h
      · exact rnd_right h
      · cases h
theorem tn_rt {x : Val} (h : x.right) : Rt (tnP x).1 (tnP x).2 := by
  rcases h.form with rfl | ⟨m, e, rfl, hr⟩ | ⟨t, rfl, ht⟩ | ⟨b, rfl⟩ | ⟨f, rfl, hf⟩
  · exact rt_zero
  · exact hr
  · show Rt ((parS t).getD (0, 0)).1 ((parS t).getD (0, 0)).2
    cases hp : parS t with
    | none => exact rt_zero
    | some p => exact par_rt hp
  · cases b
    · exact rt_zero
    · exact rt_one
  · exact rt_zero
end Go.Proofs.YtljgagjipamdeaaDoor
namespace Go.Proofs.YtljgagjipamdeaaDoor
open Go.RowKit Go.Maps Go.WideMaps
/-- An element is held as it is. -/
def tabR (v : Value) : Option (DataW Value × List MemPlace) := some (.held v, [])
abbrev Tab1 := List (List UInt8 × Value)
def tabF (D : DataW Value) (L : Tab1) : DataW Value := L.foldl (fun D p => D.put (.string p.1) (.held p.2)) D
def tabD (L : Tab1) : DataW Value := tabF (.map []) L
def tabAt (L : Tab1) (s : List UInt8) : Option Value := (L.find? fun p => p.1 == s).map (·.2)
theorem tabAt_cons (k : List UInt8) (v : Value) (L : Tab1) (s : List UInt8) : tabAt ((k, v) :: L) s = if k = s then some v else tabAt L s := by
  unfold tabAt
  by_cases h : k = s
  · rw [if_pos h, List.find?_cons_of_pos (by simpa using h)]; rfl
  · rw [if_neg h, List.find?_cons_of_neg (by simpa using h)]
theorem tabAt_none {L : Tab1} {s : List UInt8} (h : ∀ p ∈ L, p.1 ≠ s) : tabAt L s = none := by
  unfold tabAt
  rw [List.find?_eq_none.2 (fun p hp => by simpa using h p hp)]; rfl
theorem tabF_at : ∀ (L : Tab1) (D : DataW Value), IsMap D → L.Pairwise (fun p q => p.1 ≠ q.1) → ∀ (s : List UInt8) (z : DataW Value),
    (tabF D L).atKey (.string s) z = ((tabAt L s).map (fun v => DataW.held v)).getD (D.atKey (.string s) z) ∧ Maps.has (tabF D L) (.string s) = ((tabAt L s).isSome || Maps.has D (.string s))
  | [], D, _, _, s, z => ⟨rfl, rfl⟩
  | (k, v) :: L, D, hD, hp, s, z => by
    obtain ⟨h1, h2⟩ := List.pairwise_cons.1 hp
    have ih := tabF_at L (D.put (.string k) (.held v)) (hD.put _ _) h2 s z
    have e : tabF D ((k, v) :: L) = tabF (D.put (.string k) (.held v)) L := rfl
    rw [e, ih.1, ih.2, tabAt_cons]
    by_cases h : k = s
    · subst h
      rw [if_pos rfl, tabAt_none (fun p hp => (h1 p hp).symm)]
      have hkl : WideAt.IsKeyLit (Lit.string k) := trivial
      exact ⟨atKey_put_same hD hkl _ _, by rw [has_put_same hD hkl]; rfl⟩
    · have hne : Lit.string s ≠ Lit.string k := fun e => h (by injection e with e; exact e.symm)
      rw [if_neg h, atKey_put_other hne, has_put_other hne]
      exact ⟨rfl, rfl⟩
theorem tab_at (L : Tab1) (hp : L.Pairwise (fun p q => p.1 ≠ q.1)) (s : List UInt8) (z : Value) : (tabD L).atKey (.string s) (.held z) = .held ((tabAt L s).getD z) ∧ Maps.has (tabD L) (.string s) = (tabAt L s).isSome := by
  have h := tabF_at L (.map []) isMap_empty hp s (.held z)
  unfold tabD
  refine ⟨h.1.trans ?_, h.2.trans (by rw [show Maps.has (.map [] : DataW Value) (.string s) = false from rfl, Bool.or_false])⟩
  cases tabAt L s <;> rfl
/-- A table in block b. -/
def TabW (P : Program) (k : TypeId) (L : Tab1) (b : Nat) (w : World) : Prop := w.ownsMap P k tabR b L.length (tabD L)
theorem TabW.ext {P : Program} {k : TypeId} {L : Tab1} {b : Nat} {w w' : World} (h : TabW P k L b w) (hx : Ext w w') : TabW P k L b w' :=
  World.ownsMap.kept (row := none) h ⟨hx.os, hx.tape, hx.output, hx.size, fun i hi _ => hx.block hi⟩ (by simp)
theorem tab_run {P : Program} {k t e : TypeId} {L : Tab1} {b : Nat} {w : World} (h : TabW P k L b w) (hk : P.underlying k = some .string) (ht : P.underlying t = some (.map k e)) (hp : L.Pairwise (fun p q => p.1 ≠ q.1)) {z : Value} (hz : (zeroValue e).run P w = .ok z w) (s : ByteArray) (hs : s.size ≤ maxLen) :
    (Instr.lookup t (.map (some b)) (.string s) true).run P w = .ok (.tuple #[(tabAt L s.data.toList).getD z, .bool (tabAt L s.data.toList).isSome]) w := by
  obtain ⟨v, ps, h1, h2⟩ := World.ownsMap.look_ok h (string_keyed hk) ht hz (zd := .held z) (zp := []) rfl (keyOf_string_mk hk hs)
  obtain ⟨e1, e2⟩ := tab_at L hp s.data.toList z
  rw [e1] at h2
  rw [e2] at h1
  unfold tabR at h2
  simp only [Option.some.injEq, Prod.mk.injEq, DataW.held.injEq] at h2
  rw [h1, h2.1]
theorem tab_made (w : World) (P : Program) (k : TypeId) : TabW P k [] w.heap.size (w.alloc (.map #[] 0)) := World.ownsMap_made w P k tabR
/-- One entry more. -/
theorem tab_put {P : Program} {k t e : TypeId} {L : Tab1} {b : Nat} {w : World} (h : TabW P k L b w) (hk : P.underlying k = some .string) (ht : P.underlying t = some (.map k e)) (hn : L.length < maxLen) (s : ByteArray) (hs : s.size ≤ maxLen) (v : Value) :
    ∃ w', (Instr.mapUpdate t (.map (some b)) (.string s) v).run P w = .ok () w' ∧ TabW P k (L ++ [(s.data.toList, v)]) b w' ∧ w.grownBy w' (some b) := by
  obtain ⟨w', h1, h2, h3⟩ := World.ownsMap.update h (string_keyed hk) ht hn (keyOf_string_mk hk hs) (show tabR v = some (.held v, []) from rfl)
  refine ⟨w', h1, ?_, h3⟩
  unfold TabW
  rw [List.length_append]
  have : tabD (L ++ [(s.data.toList, v)]) = (tabD L).put (.string s.data.toList) (.held v) := by unfold tabD tabF; rw [List.foldl_append]; rfl
  rw [this]; exact h2
/-- A literal's entry. -/
theorem wpL_insert {P : Program} {w : World} {ops : Array Oper} {rest : List Oper} {o : Oper} {a : Act} {Q : Exit → Act → World → Prop} (hg : o.guard = none) (m x v : Operand) (t : TypeId) (hop : o.op = Op.insert t m x v)
    (k e : TypeId) (hk : P.underlying k = some .string) (ht : P.underlying t = some (.map k e)) (L : Tab1) (b : Nat) (hm : a.eval m = .map (some b)) (h : TabW P k L b w) (hn : L.length < maxLen) (s : ByteArray) (hx : a.eval x = .string s) (hs : s.size ≤ maxLen) (val : Value) (hv : a.eval v = val)
    (hK : ∀ w', TabW P k (L ++ [(s.data.toList, val)]) b w' → w.grownBy w' (some b) → wpList P ops Q rest (a.put o.dst undef) w') : wpList P ops Q (o :: rest) a w := by
  refine wpList_plain hg fun K' hK' => ?_
  obtain ⟨w', hrun, r1, r2⟩ := tab_put h hk ht hn s hs val
  unfold Oper.wp
  simp [execOp, hop, hm, hx, hv, hrun, Result.andThen]
  exact hK' _ _ (hK w' r1 r2)
/-- A table under way, and the variables that its entries lead to. -/
structure TabS (P : Program) (k : TypeId) (w0 : World) (b : Nat) (L : Tab1) (B : List (Nat × Obj)) (W : World) : Prop where
  tab : TabW P k L b W
  ext : Ext w0 W
  hb : w0.heap.size ≤ b
  box : ∀ p ∈ B, w0.heap.size ≤ p.1 ∧ p.1 ≠ b ∧ W.heap[p.1]? = some p.2
section
variable {P : Program} {k : TypeId} {w0 : World} {b : Nat} {L : Tab1} {B : List (Nat × Obj)} {W W' : World}
theorem TabS.put {L' : Tab1} (h : TabS P k w0 b L B W) (ht : TabW P k L' b W') (hg : W.grownBy W' (some b)) : TabS P k w0 b L' B W' := by
  have hbl : ∀ i, i < W.heap.size → i ≠ b → W'.heap[i]? = W.heap[i]? := fun i hi hne => hg.block i hi (fun e => hne (Option.some.inj e))
  refine ⟨ht, ⟨hg.os.trans h.ext.os, hg.tape.trans h.ext.tape, hg.output.trans h.ext.output, Nat.le_trans h.ext.size hg.size, fun i hi => ?_⟩, h.hb, fun p hp => ?_⟩
  · rw [hbl i (Nat.lt_of_lt_of_le hi h.ext.size) (by have := h.hb; omega)]; exact h.ext.block hi
  · obtain ⟨h0, h1, h2⟩ := h.box p hp
    refine ⟨h0, h1, ?_⟩
    rw [hbl _ ?_ h1]; exact h2
    rcases Nat.lt_or_ge p.1 W.heap.size with hl | hl
    · exact hl
    · rw [Array.getElem?_eq_none hl] at h2; cases h2
theorem TabS.start (w : World) (P : Program) (k : TypeId) : TabS P k w w.heap.size [] [] (w.alloc (.map #[] 0)) :=
  ⟨tab_made w P k, (Ext.refl _).alloc _, Nat.le_refl _, fun p hp => by cases hp⟩
end
end Go.Proofs.YtljgagjipamdeaaDoor
namespace Go.Proofs.YtljgagjipamdeaaDoor
open Go.RowKit
/-- An array's values in blocks from base on. -/
structure ArrN (base : Nat) (w : World) (A : Option Addr) (n cap : Nat) (l : List Val) : Prop where
  rd : SlV base w A l
  len : l.length = n
  cap : n ≤ cap
  small : n ≤ 9223372036854775807
  ok : ∀ x ∈ l, x.ok
theorem ArrN.arr {base : Nat} {w : World} {A : Option Addr} {n cap : Nat} {l : List Val} (h : ArrN base w A n cap l) : ArrIn w A n cap l := ⟨Rd.mono h.rd (Nat.zero_le _), h.len, h.cap, h.small, h.ok⟩
abbrev fn0 (fid : FuncId) : Value := .func (.func fid) #[] #[]
/-- A look into the table. -/
theorem wpL_look {P : Program} {w : World} {ops : Array Oper} {rest : List Oper} {o : Oper} {a : Act} {Q : Exit → Act → World → Prop} (hg : o.guard = none) (m x : Operand) (t : TypeId) (hop : o.op = Op.lookup t m x true)
    (k e : TypeId) (hk : P.underlying k = some .string) (ht : P.underlying t = some (.map k e)) (L : Tab1) (b : Nat) (hm : a.eval m = .map (some b)) (h : TabW P k L b w) (hp : L.Pairwise (fun p q => p.1 ≠ q.1)) (z : Value) (hz : (zeroValue e).run P w = .ok z w) (s : ByteArray) (hx : a.eval x = .string s) (hs : s.size ≤ maxLen)
    (v : Value) (ok : Bool) (hv : (tabAt L s.data.toList).getD z = v) (hok : (tabAt L s.data.toList).isSome = ok) (hK : wpList P ops Q rest (a.put o.dst (.tuple #[v, .bool ok])) w) : wpList P ops Q (o :: rest) a w := by
  refine wpList_plain hg fun K' hK' => ?_
  have hrun := tab_run h hk ht hp hz s hs
  rw [hv, hok] at hrun
  unfold Oper.wp
  simp [execOp, hop, hm, hx, hrun, Result.andThen]
  exact hK' _ _ hK
end Go.Proofs.YtljgagjipamdeaaDoor
namespace Go.Proofs.YtljgagjipamdeaaDoor
open Go.RowKit
theorem neq_val (k1 m1 e1 f1 k2 m2 e2 f2 : Int) (t1 t2 : ByteArray) (b1 b2 : Bool) (w : World) : (binOp .neq 28 (VV k1 m1 e1 t1 b1 f1) (VV k2 m2 e2 t2 b2 f2)).run Tryd.prog w = .ok (.bool (!eqV ⟨k1, m1, e1, t1, b1, f1⟩ ⟨k2, m2, e2, t2, b2, f2⟩)) w := by
  have ht : (t1.toList = t2.toList) ↔ t1 = t2 := ⟨fun h => by
    cases t1; cases t2
    rename_i a b
    have : a.toList = b.toList := by simpa [ByteArray.toList_eq] using h
    simpa using this, fun h => by rw [h]⟩
  simp only [VV, eqV]
  simp [go_sem, ht]
  by_cases h1 : k1 = k2 <;> simp [h1]
  by_cases h2 : m1 = m2 <;> simp [h2]
  by_cases h3 : e1 = e2 <;> simp [h3]
  by_cases h4 : t1 = t2 <;> simp [h4]
  by_cases h5 : b1 = b2 <;> simp [h5]
  by_cases h6 : f1 = f2 <;> simp [h6]
/-- The first k values are alike. -/
def alike (k : Nat) (l l' : List Val) : Prop := ∀ j x y, j < k → l[j]? = some x → l'[j]? = some y → x = y
theorem alike_all {n : Nat} {l l' : List Val} (h1 : l.length = n) (h2 : l'.length = n) (h : alike n l l') : l = l' := by
  apply List.ext_getElem?
  intro i
  by_cases hi : i < n
  · have := h i l[i] l'[i] hi (List.getElem?_eq_getElem _) (List.getElem?_eq_getElem _)
    rw [List.getElem?_eq_getElem (by omega), List.getElem?_eq_getElem (by omega), this]
  · rw [List.getElem?_eq_none (by omega), List.getElem?_eq_none (by omega)]
theorem alike_succ {k : Nat} {l l' : List Val} {x : Val} (h : alike k l l') (hx : l[k]? = some x) (hy : l'[k]? = some x) : alike (k + 1) l l' := by
  intro j a b hj ha hb
  by_cases hjk : j = k
  · subst hjk
    rw [hx] at ha; rw [hy] at hb
    simp_all
  · exact h j a b (by omega) ha hb
def sameA (r c : Int) (l : List Val) (r' c' : Int) (l' : List Val) : Bool := r == r' && c == c' && decide (l = l')
set_option maxHeartbeats 400000 in
theorem refSame_any (r c r' c' : Int) (A B : Option Addr) (n cap n' cap' : Nat) (l l' : List Val) (w : World) (h : ArrIn w A n cap l) (h' : ArrIn w B n' cap' l') :
    Calls Tryd.prog 11 #[AV r c (.slice A n cap), AV r' c' (.slice B n' cap')] w fun e w' => e = .returned (.bool (sameA r c l r' c' l')) ∧ Ext w w' := by
  have hsm := h.small
  have hsm' := h'.small
  generalize hR : sameA r c l r' c' l' = R
  have HR := Lib.hid hR
  clear hR
  have hneq := neq_val
  go_enter Tryd.func11, Tryd.ntmps11
  go_upto_region 1 with (fail)
  refine wp_region_lit ?_
  iterate 6 ((refine wpL_read (v := ?_) rfl ?_ ?_; rotate_left 1; (go_simp; first | done | rfl)); try simp only [Act.put, zqA, zqB, zqC])
  iterate 5 ((refine wpL_gread (v := ?_) (c := ?_) rfl rfl rfl ?_ (fun hc => ?_) ?_; rotate_left 2; (first | exact gc_t _ | exact gc_f _ | exact gc_gt _ _ | exact gc_gf _ _); ((try simp only [gv_of hc]); (try (have hc1 := and_l hc; (try simp only [gv_of hc1]); (try (have hc2 := and_l hc1; (try simp only [gv_of hc2]))))); go_simp; first | done | rfl)); try simp only [Act.put, zqA, zqB, zqC])
  first | (refine wpL_pick_and rfl rfl rfl rfl rfl ?_) | (refine wpL_pick_or rfl rfl rfl rfl rfl ?_)
  try simp only [Act.put, zqA, zqB, zqC]
  (refine wpL_read (v := ?_) rfl ?_ ?_; rotate_left 1; (go_simp; first | done | rfl))
  try simp only [Act.put, zqA, zqB, zqC]
  iterate 7 ((refine wpL_gread (v := ?_) (c := ?_) rfl rfl rfl ?_ (fun hc => ?_) ?_; rotate_left 2; (first | exact gc_t _ | exact gc_f _ | exact gc_gt _ _ | exact gc_gf _ _); ((try simp only [gv_of hc]); (try (have hc1 := and_l hc; (try simp only [gv_of hc1]); (try (have hc2 := and_l hc1; (try simp only [gv_of hc2]))))); go_simp; first | done | rfl)); try simp only [Act.put, zqA, zqB, zqC])
  first | (refine wpL_pick_and rfl rfl rfl rfl rfl ?_) | (refine wpL_pick_or rfl rfl rfl rfl rfl ?_)
  try simp only [Act.put, zqA, zqB, zqC]
  refine wpList_nil ?_
  try go_simp
  go_wp2
  · rename_i hbad
    go_ret
    refine ⟨ret_bool ?_, by repeat (first | exact Ext.refl _ | apply Ext.drew | apply Ext.alloc | apply Ext.more_)⟩
    rw [← HR.out]
    symm
    simp only [bne_iff_ne, ne_eq] at hbad
    rcases hbad with (hb | hb) | hb
    · simp [sameA, hb]
    · simp [sameA, hb]
    · have : ¬ l = l' := by rintro rfl; exact hb (by rw [← h.len, ← h'.len])
      simp [sameA, this]
  · rename_i hgood _ _
    simp only [bne_eq_false_iff_eq] at hgood
    obtain ⟨⟨g1, g2⟩, g3⟩ := hgood
    obtain rfl : n = n' := by omega
    have HR' : Hid (R = decide (l = l')) := by show _ = _; rw [← HR.out, g1, g2]; simp [sameA]
    clear g1 g2 g3
    go_loopw [5] (fun i wr => ∃ k : Nat, k ≤ n ∧ i = .int .i64 k ∧ Ext ((w.alloc (Obj.cells #[.int .i64 r, .int .i64 c, .slice A n cap] 24)).alloc (Obj.cells #[.int .i64 r', .int .i64 c', .slice B n cap'] 24)) wr ∧ Hid (alike k l l')) (fun i _ => n - (intOf i).toNat)
    case atStart => exact ⟨0, Nat.zero_le _, rfl, Ext.refl _, fun j x y hj => absurd hj (Nat.not_lt_zero _)⟩
    case round =>
      obtain ⟨k, hk, rfl, hX, H⟩ := hrel
      obtain ⟨os, d, rfl⟩ := hX.more
      by_cases hlt : k < n
      · obtain ⟨x, b, off, hx, hxo, rfl, hv⟩ := h.at hlt; obtain ⟨v0, v1, v2, v3, v4, v5⟩ := hv; have hbl : b < w.heap.size := lt_of_cell v0
        obtain ⟨y, b', off', hy, hyo, rfl, hv'⟩ := h'.at hlt; obtain ⟨u0, u1, u2, u3, u4, u5⟩ := hv'; have hbl' : b' < w.heap.size := lt_of_cell u0
        by_cases hxy : eqV x y = true
        · go_wp2
          refine wp_plan (S := Ext _) [(0, 0), (1, 0), (2, 0), (3, 0), (4, 0), (5, 0), (6, 0), (7, 0), (8, 0), (9, 0), (10, 0)] [] (by kernel_rfl) (by kernel_rfl) (by kernel_rfl) (fun _ _ d _ _ h => by cases d <;> exact h) (Ext.drew (Ext.refl _)) ?_
          iterate 11 ((refine wpPl_read (v := ?_) rfl ?_ (fun _ h => ?_) ?_; rotate_left 1; rfl; (obtain ⟨_, _, rfl⟩ := h.more; go_simp; try rfl)); try simp only [Act.put, zqA, zqB, zqC])
          refine wpPl_nil ?_
          go_wp2
          refine ⟨⟨k + 1, by omega, by go_num, by repeat (first | exact Ext.refl _ | apply Ext.drew | apply Ext.alloc | apply Ext.more_), ?_⟩, by simp [intOf]; omega⟩
          obtain rfl : x = y := by simpa [eqV] using hxy
          exact alike_succ H.out hx hy
        · have hxy' : eqV x y = false := by simpa using hxy
          have hR : R = false := by
            rw [HR'.out]
            simp only [decide_eq_false_iff_not]
            rintro rfl
            rw [hx] at hy
            simp [eqV] at hxy
            exact hxy (by simpa using hy)
          have HR2 := Lib.hid hR
          clear hR hxy
          go_wp2
          refine wp_plan (S := Ext _) [(0, 0), (1, 0), (2, 0), (3, 0), (4, 0), (5, 0), (6, 0), (7, 0), (8, 0), (9, 0), (10, 0)] [] (by kernel_rfl) (by kernel_rfl) (by kernel_rfl) (fun _ _ d _ _ h => by cases d <;> exact h) (Ext.drew (Ext.refl _)) ?_
          iterate 11 ((refine wpPl_read (v := ?_) rfl ?_ (fun _ h => ?_) ?_; rotate_left 1; rfl; (obtain ⟨_, _, rfl⟩ := h.more; go_simp; try rfl)); try simp only [Act.put, zqA, zqB, zqC])
          refine wpPl_nil ?_
          go_wp2
          go_ret
          exact ⟨ret_bool HR2.out.symm, by repeat (first | exact Ext.refl _ | apply Ext.drew | apply Ext.alloc | apply Ext.more_)⟩
      · have hR : R = true := by
          rw [HR'.out]
          simp only [decide_eq_true_eq]
          obtain rfl : k = n := by omega
          exact alike_all h.len h'.len H.out
        have HR2 := Lib.hid hR
        clear hR
        go_wp2
        go_ret
        exact ⟨ret_bool HR2.out.symm, by repeat (first | exact Ext.refl _ | apply Ext.drew | apply Ext.alloc | apply Ext.more_)⟩
end Go.Proofs.YtljgagjipamdeaaDoor
namespace Go.Proofs.YtljgagjipamdeaaDoor
open Go.RowKit
theorem info_val : (Tryd.prog.info? 28).map (fun i => (i.zero, i.size, i.bytes)) = some (some (VV 0 0 0 ⟨#[]⟩ false 0), 6, 56) := by kernel_rfl
end Go.Proofs.YtljgagjipamdeaaDoor
namespace Go.Proofs.YtljgagjipamdeaaDoor
open Go.RowKit
/-- Memory but for the blocks of one call of build. -/
structure Keep (s0 : Nat) (W W' : World) : Prop where
  os : W'.os = W.os
  tape : W'.tape = W.tape
  output : W'.output = W.output
  size : W.heap.size ≤ W'.heap.size
  block : ∀ b, b < W.heap.size → b ≠ s0 → b ≠ s0 + 1 → b ≠ s0 + 1 + 1 → W'.heap[b]? = W.heap[b]?
/-- The blocks of one call of build. -/
structure Leaves (s0 : Nat) (W W' : World) : Prop where
  size : W.heap.size ≤ W'.heap.size
  b0 : W'.heap[s0]? = W.heap[s0]?
  b1 : W'.heap[s0 + 1]? = W.heap[s0 + 1]?
  b2 : W'.heap[s0 + 1 + 1]? = W.heap[s0 + 1 + 1]?
theorem Keep.refl (s0 : Nat) (W : World) : Keep s0 W W := ⟨rfl, rfl, rfl, Nat.le_refl _, fun _ _ _ _ _ => rfl⟩
theorem Keep.trans {s0 : Nat} {a b c : World} (h : Keep s0 a b) (k : Keep s0 b c) : Keep s0 a c :=
  ⟨k.os.trans h.os, k.tape.trans h.tape, k.output.trans h.output, Nat.le_trans h.size k.size, fun i hi h0 h1 h2 => (k.block i (Nat.lt_of_lt_of_le hi h.size) h0 h1 h2).trans (h.block i hi h0 h1 h2)⟩
theorem Keep.of_ext {s0 : Nat} {a b : World} (h : Ext a b) : Keep s0 a b := ⟨h.os, h.tape, h.output, h.size, fun _ hi _ _ _ => h.block hi⟩
theorem Keep.of_grown {s0 : Nat} {a b : World} (h : a.grownBy b (some (s0 + 1))) : Keep s0 a b := ⟨h.os, h.tape, h.output, h.size, fun i hi _ h1 _ => h.block i hi (fun e => h1 (by simpa using e))⟩
theorem Keep.of_set {s0 : Nat} (a : World) {p : Addr} (v : Value) (hp : p.block = s0 ∨ p.block = s0 + 1 ∨ p.block = s0 + 1 + 1) : Keep s0 a (a.setCell p v) :=
  ⟨rfl, rfl, rfl, by simp [World.setCell], fun i hi h0 h1 h2 => Below.heap_setCell _ _ _ _ (by omega)⟩
theorem Keep.drew {s0 : Nat} {a b : World} (h : Keep s0 a b) : Keep s0 a b.drew := ⟨h.os, h.tape, h.output, h.size, h.block⟩
theorem Leaves.of_ext {s0 : Nat} {a b : World} (h : Ext a b) (hs : s0 + 3 ≤ a.heap.size) : Leaves s0 a b := ⟨h.size, h.block (by omega), h.block (by omega), h.block (by omega)⟩
/-- What stands in memory behind k calls. -/
structure BSt (s0 R C N k : Nat) (l : List Val) (wr : World) : Prop where
  size : s0 + 3 ≤ wr.heap.size
  b0 : wr.heap[s0]? = some (.cells #[.int .i64 0, .int .i64 0, .slice none 0 0] 24)
  b2 : wr.heap[s0 + 1 + 1]? = some (.cells #[.int .i64 R, .int .i64 C, .slice (some ⟨s0 + 1, 0, none⟩) k N] 24)
  own : wr.ownsRow (s0 + 1) 28 6 (.slice (some ⟨s0 + 1, 0, none⟩) k N) k (vcells l)
def vals (g : Nat → Nat → Val) (C k : Nat) : List Val := (List.range k).map fun t => g (t / C) (t % C)
theorem vals_succ (g : Nat → Nat → Val) (C i j : Nat) (hj : j < C) : vals g C (i * C + j + 1) = vals g C (i * C + j) ++ [g i j] := by
  unfold vals
  rw [List.range_succ, List.map_append]
  have h1 : (i * C + j) / C = i := by rw [Nat.add_comm, Nat.add_mul_div_right _ _ (by omega), Nat.div_eq_of_lt hj]; omega
  have h2 : (i * C + j) % C = j := by rw [Nat.add_comm, Nat.add_mul_mod_self_right, Nat.mod_eq_of_lt hj]
  simp [h1, h2]
theorem vals_length (g : Nat → Nat → Val) (C k : Nat) : (vals g C k).length = k := by simp [vals]
theorem BSt.step {s0 R C N k : Nat} {l : List Val} {x : Val} {wr w1 w3 : World} {ty : TypeId} (h : BSt s0 R C N k l wr) (hl : Leaves s0 wr w1) (hg : (w1.alloc (.cells x.cells.toArray ty)).grownBy w3 (some (s0 + 1)))
    (ho : w3.ownsRow (s0 + 1) 28 6 (.slice (some ⟨s0 + 1, 0, none⟩) (k + 1) N) (k + 1) (vcells l ++ x.cells)) :
    BSt s0 R C N (k + 1) (l ++ [x]) (w3.setCell ⟨s0 + 1 + 1, 2, none⟩ (.slice (some ⟨s0 + 1, 0, none⟩) (k + 1) N)) := by
  have hs1 := hl.size
  have hs := h.size
  have hz : (w1.alloc (.cells x.cells.toArray ty)).heap.size = w1.heap.size + 1 := by simp
  have hs3 := hg.size
  have hb : ∀ b, b < w1.heap.size → b ≠ s0 + 1 → w3.heap[b]? = w1.heap[b]? := fun b hb hn => (hg.block b (by omega) (by simpa using hn)).trans (Below.heap_alloc _ _ _ hb)
  refine ⟨by simp [World.setCell]; omega, ?_, ?_, ?_⟩
  · rw [Below.heap_setCell _ _ _ _ (by simp only; omega), hb s0 (by omega) (by omega), hl.b0, h.b0]
  · have h2 : w3.heap[s0 + 1 + 1]? = some (.cells #[.int .i64 R, .int .i64 C, .slice (some ⟨s0 + 1, 0, none⟩) k N] 24) := by rw [hb (s0 + 1 + 1) (by omega) (by omega), hl.b2, h.b2]
    simp [World.setCell, Array.getElem?_modify, h2]
  · have : vcells (l ++ [x]) = vcells l ++ x.cells := by simp [vcells]
    rw [this]
    exact ho.kept (row := some (s0 + 1 + 1)) ⟨rfl, rfl, rfl, by simp [World.setCell], fun b hb hne => Below.heap_setCell _ _ _ _ (fun e => hne (by simp [e]))⟩ (.inr (by simp [Value.ownBlock]))
end Go.Proofs.YtljgagjipamdeaaDoor
namespace Go.Proofs.YtljgagjipamdeaaDoor
open Go.RowKit
theorem wp_append_fits {P : Program} (w : World) {o : Oper} {a : Act} {K : Act → World → Prop} {Q : Exit → Act → World → Prop} (s x : Operand) (t : TypeId)
    (ho : o.op = .call { callee := .builtin .append, args := #[s, x], argTypes := #[t, t] })
    (base : Nat) (e : TypeId) (i : TypeInfo) (size : Nat) (ht : P.underlying t = some (.slice e)) (hi : P.info? e = some i) (hsize : i.size = size)
    (g n cap : Nat) (xs : List Value) (hs : a.eval s = .slice (some ⟨g, 0, none⟩) n cap) (hown : w.ownsRow base e size (.slice (some ⟨g, 0, none⟩) n cap) n xs)
    (ad : Addr) (m c : Nat) (news : List Value) (hx : a.eval x = .slice (some ad) m c) (hl : news.length = m * size) (hnews : ∀ j u, news[j]? = some u → w.cell? (ad.add j) = some u) (h1 : ∀ u ∈ news, u.oneCell' = true)
    (hroom : n + m ≤ cap)
    (h : ∀ w', w'.ownsRow base e size (.slice (some ⟨g, 0, none⟩) (n + m) cap) (n + m) (xs ++ news) → w.grownBy w' (some g) → K (a.put o.dst (.slice (some ⟨g, 0, none⟩) (n + m) cap)) w') : o.wp P a w K Q := by
  obtain ⟨w', hr, h2, h3⟩ := run_append_fits (P := P) w base t o.type e i size ht hi hsize g n cap xs hown ad m c news hl hnews h1 hroom
  unfold Oper.wp execOp
  simp only [ho, resolve, invoke, builtin, Sem.run_bind, Sem.run_pure, Result.andThen_ok, List.map_toArray, List.map_cons, List.map_nil, hs, hx, hr]
  exact h w' h2 h3
theorem BSt.start {w : World} {R C : Nat} (N : Nat) (hN : N ≤ 4096) :
    BSt w.heap.size R C N 0 [] (((w.alloc (Obj.cells #[.int .i64 0, .int .i64 0, .slice none 0 0] 24)).alloc (Obj.cells (madeCells #[.int .i64 0, .int .i64 0, .int .i64 0, .string ⟨#[]⟩, .bool false, .int .i64 0] (N * 6)) 28)).alloc (Obj.cells #[.int .i64 R, .int .i64 C, .slice (some ⟨w.heap.size + 1, 0, none⟩) 0 N] 24)) := by
  refine ⟨by simp, ?_, ?_, ?_⟩
  · rw [Below.heap_alloc _ _ _ (by simp; omega), Below.heap_alloc _ _ _ (by simp), heap_alloc_new]
  · have := heap_alloc_new ((w.alloc (Obj.cells #[.int .i64 0, .int .i64 0, .slice none 0 0] 24)).alloc (Obj.cells (madeCells #[.int .i64 0, .int .i64 0, .int .i64 0, .string ⟨#[]⟩, .bool false, .int .i64 0] (N * 6)) 28)) (Obj.cells #[.int .i64 R, .int .i64 C, .slice (some ⟨w.heap.size + 1, 0, none⟩) 0 N] 24)
    simpa using this
  · refine World.ownsRow.alloc ?_ _
    have := World.ownsRow_made (base := w.heap.size + 1) (e := 28) (size := 6) (w.alloc (Obj.cells #[.int .i64 0, .int .i64 0, .slice none 0 0] 24)) (madeCells #[.int .i64 0, .int .i64 0, .int .i64 0, .string ⟨#[]⟩, .bool false, .int .i64 0] (N * 6)) N (by simp) (by simp only [maxLen]; omega) (by rw [size_madeCells])
    simpa [vcells] using this
theorem BSt.own_later {s0 R C N k : Nat} {l : List Val} {wr w1 : World} (h : BSt s0 R C N k l wr) (hl : Leaves s0 wr w1) (o : Obj) : (w1.alloc o).ownsRow (s0 + 1) 28 6 (.slice (some ⟨s0 + 1, 0, none⟩) k N) k (vcells l) := by
  refine World.ownsRow.alloc ?_ _
  obtain ⟨h1, h2⟩ := h.own
  refine ⟨h1, ?_⟩
  rcases h2 with ⟨h2, _⟩ | ⟨g, cap, cur, hv, hg, hh, r⟩
  · simp at h2
  · simp only [Value.slice.injEq, Option.some.injEq, Addr.mk.injEq, and_true, true_and] at hv
    obtain ⟨rfl, rfl⟩ := hv
    exact .inr ⟨s0 + 1, N, cur, rfl, hg, hl.b1.trans hh, r⟩
theorem Keep.three (s0 : Nat) (a : World) (u v x : Value) : Keep s0 a (((a.setCell ⟨s0, 0, none⟩ u).setCell ⟨s0, 1, none⟩ v).setCell ⟨s0, 2, none⟩ x) :=
  ((Keep.of_set (s0 := s0) a (p := ⟨s0, 0, none⟩) u (.inl rfl)).trans (Keep.of_set (s0 := s0) _ (p := ⟨s0, 1, none⟩) v (.inl rfl))).trans (Keep.of_set (s0 := s0) _ (p := ⟨s0, 2, none⟩) x (.inl rfl))
theorem Rd.set_far {base : Nat} {w : World} {A : Option Addr} {cs : List Value} (h : Rd base w A cs) {p : Addr} (v : Value) (hp : p.block < base) : Rd base (w.setCell p v) A cs :=
  h.blocks fun b hb => Below.heap_setCell _ _ _ _ (by omega)
theorem new_cells (w : World) (cs : List Value) (ty : TypeId) : ∀ j u, cs[j]? = some u → (w.alloc (.cells cs.toArray ty)).cell? ((⟨w.heap.size, 0, none⟩ : Addr).add j) = some u := fun j u hu => by
  rw [Addr.add_mid, World.cell?_alloc_at _ _ _ _ rfl]
  simpa using hu
theorem cells_one (x : Val) : ∀ u ∈ x.cells, u.oneCell' = true := by
  intro u hu
  simp only [Val.cells, List.mem_cons, List.not_mem_nil, or_false] at hu
  rcases hu with rfl | rfl | rfl | rfl | rfl | rfl <;> rfl
set_option maxHeartbeats 1000000 in
theorem build_any (R C : Nat) (cl : FuncId) (capt : Array Value) (g : Nat → Nat → Val) (w : World) (J : Nat → World → Prop) (hR : 1 ≤ R) (hC : 1 ≤ C) (hN : R * C ≤ 4096) (hR' : R ≤ 4096) (hC' : C ≤ 4096)
    (hent : ∀ (args : Array Value) (W : World), (callFunc cl args).run Tryd.prog W = .ok (.enter cl args) W) (hJ0 : J 0 w) (hJ : ∀ k W W', Keep w.heap.size W W' → J k W → J k W')
    (hcall : ∀ i j W, i < R → j < C → J (i * C + j) W → w.heap.size + 3 ≤ W.heap.size →
      Calls Tryd.prog cl (#[.int .i64 i, .int .i64 j] ++ capt) W fun e W' => e = .returned (VV (g i j).kind (g i j).mant (g i j).exp (g i j).text (g i j).truth (g i j).fault) ∧ J (i * C + j + 1) W' ∧ Leaves w.heap.size W W') :
    Calls Tryd.prog 64 #[.int .i64 R, .int .i64 C, .func (.func cl) #[] capt] w fun e w' => ∃ A c, e = .returned (AV R C (.slice A (R * C) c)) ∧ SlV w.heap.size w' A (vals g C (R * C)) ∧ R * C ≤ c ∧ J (R * C) w' := by
  obtain ⟨i0, hi, hz0, hz1, hz2⟩ := info_parts info_val
  have hw : IntKind.i64.wrap ((R : Int) * (C : Int)) = ((R * C : Nat) : Int) := by rw [IntKind.wrap_i64, Int.natCast_mul]; omega
  have hmk : ∀ (N : Nat) (W : World), N ≤ 4096 → (Instr.makeSlice 22 (.int .i64 0) (.int .i64 (N : Int))).run Tryd.prog W = .ok (.slice (some ⟨W.heap.size, 0, none⟩) 0 N) (W.alloc (.cells (madeCells (VV 0 0 0 ⟨#[]⟩ false 0).cells (N * 6)) 28)) := fun N W hN => by
    have := run_make (P := Tryd.prog) W 22 28 i0 _ Tryd.underlying22 hi hz0 .i64 .i64 0 (N : Int) (by omega) (by omega) (by rw [hz2]; omega) (by omega)
    simpa [hz1] using this
  generalize hNN : R * C = N at *
  have hmk' := fun W => hmk N W hN
  clear hmk
  have HN := Lib.hid hNN
  clear hNN
  have HC := Lib.hid hcall
  clear hcall
  have HJ := Lib.hid hJ
  clear hJ
  go_enter Tryd.func64, Tryd.ntmps64
  go_wp2
  have hst0 := BSt.start (w := w) (R := R) (C := C) N hN
  have hj0 : J 0 (((w.alloc (Obj.cells #[.int .i64 0, .int .i64 0, .slice none 0 0] 24)).alloc (Obj.cells (madeCells #[.int .i64 0, .int .i64 0, .int .i64 0, .string ⟨#[]⟩, .bool false, .int .i64 0] (N * 6)) 28)).alloc (Obj.cells #[.int .i64 R, .int .i64 C, .slice (some ⟨w.heap.size + 1, 0, none⟩) 0 N] 24)) := HJ.out 0 w _ (Keep.of_ext (by repeat (first | exact Ext.refl _ | apply Ext.drew | apply Ext.alloc | apply Ext.more_))) hJ0
  go_loopw [18] (fun i wr => ∃ r : Nat, r ≤ R ∧ i = .int .i64 r ∧ BSt w.heap.size R C N (r * C) (vals g C (r * C)) wr ∧ Hid (J (r * C) wr)) (fun i _ => R - (intOf i).toNat)
  case atStart => exact ⟨0, Nat.zero_le _, rfl, by simpa [vals] using hst0, by show J _ _; simpa using hj0⟩
  case round =>
    clear hst0 hj0
    obtain ⟨r, hr, rfl, hst, HJr⟩ := hrel
    by_cases hlt : r < R
    · go_wp2
      obtain ⟨wo, rfl⟩ : ∃ wo : World, wo = wr := ⟨_, rfl⟩
      go_loopw [22] (fun i wr => ∃ j : Nat, j ≤ C ∧ i = .int .i64 j ∧ BSt w.heap.size R C N (r * C + j) (vals g C (r * C + j)) wr ∧ Hid (J (r * C + j) wr)) (fun i _ => C - (intOf i).toNat)
      case atStart => exact ⟨0, Nat.zero_le _, rfl, by simpa using hst, by show J _ _; simpa using HJr.out⟩
      case round =>
        clear hst HJr
        obtain ⟨j, hj, rfl, hst, HJr⟩ := hrel
        by_cases hjt : j < C
        · go_wp2
          have hkN : r * C + j < N := by
            rw [← HN.out]
            have : (r + 1) * C ≤ R * C := Nat.mul_le_mul_right C hlt
            rw [Nat.succ_mul] at this
            omega
          refine wp_plan (S := fun W => W.heap[w.heap.size + 1 + 1]? = some (.cells #[.int .i64 R, .int .i64 C, .slice (some ⟨w.heap.size + 1, 0, none⟩) (r * C + j) N] 24)) [(0, 0), (1, 0), (2, 0), (3, 0), (4, 0), (5, 1), (6, 1), (7, 1), (8, 0), (9, 2)] [9] (by kernel_rfl) (by kernel_rfl) (by kernel_rfl) (fun _ _ d _ _ h => by cases d <;> exact h) hst.b2 ?_
          (refine wpPl_read (v := ?_) rfl ?_ (fun w1 h1 => ?_) ?_; rotate_left 1; rfl; (go_simp; first | done | rfl))
          try simp only [Act.put, zqA, zqB, zqC]
          (refine wpPl_read (v := ?_) rfl ?_ (fun w1 h1 => ?_) ?_; rotate_left 1; rfl; (have h2 := cell_of_row _ _ 2 _ _ _ h1; clear h1; go_simp; first | done | rfl))
          try simp only [Act.put, zqA, zqB, zqC]
          iterate 3 ((refine wpPl_read (v := ?_) rfl ?_ (fun w1 h1 => ?_) ?_; rotate_left 1; rfl; (clear h1; go_simp; first | done | rfl)); try simp only [Act.put, zqA, zqB, zqC])
          (refine wpPl_eff rfl ?_ (fun K hK => ?_); rfl; go_simp)
          refine (HC.out r j _ hlt hjt (HJ.out _ _ _ ((Keep.refl _ _).drew) HJr.out) hst.size).mono ?_
          rintro e w1 ⟨rfl, hJ1, hL1⟩
          have hL : Leaves w.heap.size wr w1 := ⟨hL1.size, hL1.b0, hL1.b1, hL1.b2⟩
          refine hK _ _ (hL.b2.trans hst.b2) ?_
          try simp only [Act.put, zqA, zqB, zqC]
          (refine wpPl_eff rfl ?_ (fun K hK => ?_); rfl; go_simp)
          refine hK _ _ ((Below.heap_alloc _ _ _ (by have := hL.size; have := hst.size; omega)).trans (hL.b2.trans hst.b2)) ?_
          try simp only [Act.put, zqA, zqB, zqC]
          (refine wpPl_eff rfl ?_ (fun K hK => ?_); rfl)
          refine wp_append_fits _ _ _ _ rfl (w.heap.size + 1) 28 i0 6 Tryd.underlying22 hi hz1 (w.heap.size + 1) (r * C + j) N (vcells (vals g C (r * C + j))) rfl (hst.own_later hL _) ⟨w1.heap.size, 0, none⟩ 1 1 (g r j).cells rfl rfl (new_cells _ _ _) (cells_one _) (by omega) ?_
          intro w3 ho3 hg3
          refine hK _ _ ((hg3.block _ (by have := hL.size; have := hst.size; simp; omega) (by simp)).trans ((Below.heap_alloc _ _ _ (by have := hL.size; have := hst.size; omega)).trans (hL.b2.trans hst.b2))) ?_
          try simp only [Act.put, zqA, zqB, zqC]
          (refine wpPl_read (v := ?_) rfl ?_ (fun w1 h1 => ?_) ?_; rotate_left 1; rfl; (clear h1; go_simp; first | done | rfl))
          try simp only [Act.put, zqA, zqB, zqC]
          have hb2 : w3.heap[w.heap.size + 1 + 1]? = some (.cells #[.int .i64 R, .int .i64 C, .slice (some ⟨w.heap.size + 1, 0, none⟩) (r * C + j) N] 24) := (hg3.block _ (by have := hL.size; have := hst.size; simp; omega) (by simp)).trans ((Below.heap_alloc _ _ _ (by have := hL.size; have := hst.size; omega)).trans (hL.b2.trans hst.b2))
          have c2 := cell_of_row _ _ 2 _ _ _ hb2
          have f2 := frozen_of_row _ _ 2 _ _ hb2
          have hst2 : BSt w.heap.size R C N (r * C + (j + 1)) (vals g C (r * C + (j + 1))) (w3.setCell ⟨w.heap.size + 1 + 1, 2, none⟩ (.slice (some ⟨w.heap.size + 1, 0, none⟩) (r * C + j + 1) N)) := by
            rw [show r * C + (j + 1) = r * C + j + 1 by omega, vals_succ g C r j hjt]
            exact hst.step hL hg3 ho3
          have hJ3 : Hid (J (r * C + (j + 1)) (w3.setCell ⟨w.heap.size + 1 + 1, 2, none⟩ (.slice (some ⟨w.heap.size + 1, 0, none⟩) (r * C + j + 1) N))) :=
            HJ.out _ _ _ (((Keep.of_ext ((Ext.refl w1).alloc _)).trans (Keep.of_grown hg3)).trans (Keep.of_set w3 _ (.inr (.inr rfl)))) hJ1
          clear hb2 ho3 hg3 hst
          (refine wpPl_tail rfl ?_ (fun K hK => ?_); rfl; go_simp)
          refine hK _ _ ?_
          try simp only [Act.put, zqA, zqB, zqC]
          refine wpPl_nil ?_
          go_wp2
          exact ⟨⟨j + 1, by omega, by go_num, hst2, hJ3⟩, by simp [intOf]; omega⟩
        · go_wp2
          obtain rfl : j = C := by omega
          refine ⟨⟨r + 1, by omega, by go_num, by rw [Nat.succ_mul]; exact hst, by rw [Nat.succ_mul]; exact HJr⟩, by simp [intOf]; omega⟩
    · obtain rfl : r = R := by omega
      have e := HN.out
      rw [e] at hst HJr
      clear e
      have c20 := cell_of_row _ _ 0 _ _ _ hst.b2
      have c21 := cell_of_row _ _ 1 _ _ _ hst.b2
      have c22 := cell_of_row _ _ 2 _ _ _ hst.b2
      have c00 := cell_of_row _ _ 0 _ _ _ hst.b0
      have c01 := cell_of_row _ _ 1 _ _ _ hst.b0
      have c02 := cell_of_row _ _ 2 _ _ _ hst.b0
      have f00 := frozen_of_row _ _ 0 _ _ hst.b0
      have f01 := frozen_of_row _ _ 1 _ _ hst.b0
      have f02 := frozen_of_row _ _ 2 _ _ hst.b0
      go_wp2
      refine bodyPost_ret (results_cell_row (by rfl) _ _ w.heap.size 24 #[.int .i64 r, .int .i64 C, .slice (some ⟨w.heap.size + 1, 0, none⟩) N N] (0, 0) _ (by rfl) ?_ Tryd.underlying24 (by rfl) (by kernel_rfl)) rfl ⟨some ⟨w.heap.size + 1, 0, none⟩, N, rfl, ?_, Nat.le_refl _, HJ.out _ _ _ (Keep.three _ _ _ _ _) HJr.out⟩
      · simp [World.setCell, Array.getElem?_modify, hst.b0]
      · obtain ⟨A, c, hA, hrd, _⟩ := Rd.of_own hst.own
        simp only [Value.slice.injEq, true_and] at hA
        obtain ⟨rfl, rfl⟩ := hA
        exact Rd.mono (((hrd.set_far _ (by simp)).set_far _ (by simp)).set_far _ (by simp)) (by omega)
end Go.Proofs.YtljgagjipamdeaaDoor
namespace Go.Proofs.YtljgagjipamdeaaDoor
open Go.RowKit
theorem Keep.ext {w W W' : World} (h : Keep w.heap.size W W') (hx : Ext w W) : Ext w W' :=
  ⟨h.os.trans hx.os, h.tape.trans hx.tape, h.output.trans hx.output, Nat.le_trans hx.size h.size, fun b hb => (h.block b (Nat.lt_of_lt_of_le hb hx.size) (by omega) (by omega) (by omega)).trans (hx.block hb)⟩
/-- build of a function that keeps nothing. -/
theorem build_pure (R C : Nat) (cl : FuncId) (capt : Array Value) (g : Nat → Nat → Val) (w : World) (hR : 1 ≤ R) (hC : 1 ≤ C) (hN : R * C ≤ 4096)
    (hent : ∀ (args : Array Value) (W : World), (callFunc cl args).run Tryd.prog W = .ok (.enter cl args) W)
    (hcall : ∀ i j W, i < R → j < C → Ext w W →
      Calls Tryd.prog cl (#[.int .i64 i, .int .i64 j] ++ capt) W fun e W' => e = .returned (VV (g i j).kind (g i j).mant (g i j).exp (g i j).text (g i j).truth (g i j).fault) ∧ Ext W W') :
    Calls Tryd.prog 64 #[.int .i64 R, .int .i64 C, .func (.func cl) #[] capt] w fun e w' => ∃ A c, e = .returned (AV R C (.slice A (R * C) c)) ∧ SlV w.heap.size w' A (vals g C (R * C)) ∧ R * C ≤ c ∧ Ext w w' := by
  have h1 : R * 1 ≤ R * C := Nat.mul_le_mul_left R hC
  have h2 : 1 * C ≤ R * C := Nat.mul_le_mul_right C hR
  exact build_any R C cl capt g w (fun _ W => Ext w W) hR hC hN (by omega) (by omega) hent (Ext.refl w) (fun _ _ _ h hx => h.ext hx)
    (fun i j W hi hj hx hs => (hcall i j W hi hj hx).mono fun e W' ⟨he, hb⟩ => ⟨he, hx.trans hb, Leaves.of_ext hb hs⟩)
/-- The three cells of an array's variable. -/
abbrev ABox (pb : Nat) (r c : Int) (A : Option Addr) (n cap : Nat) (W : World) : Prop :=
  pb < W.heap.size ∧ W.cell? ⟨pb, 0, none⟩ = some (.int .i64 r) ∧ W.cell? ⟨pb, 1, none⟩ = some (.int .i64 c) ∧ W.cell? ⟨pb, 2, none⟩ = some (.slice A n cap)
theorem ABox.ext {pb : Nat} {r c : Int} {A : Option Addr} {n cap : Nat} {W W' : World} (h : ABox pb r c A n cap W) (hb : Ext W W') : ABox pb r c A n cap W' :=
  ⟨by have := hb.size; have := h.1; omega, hb.cell_some h.2.1, hb.cell_some h.2.2.1, hb.cell_some h.2.2.2⟩
def getV (l : List Val) (k : Nat) : Val := (l[k]?).getD Val.zero
theorem ArrIn.get {w : World} {A : Option Addr} {n cap : Nat} {l : List Val} (h : ArrIn w A n cap l) {k : Nat} (hk : k < n) : ∃ b off, A = some ⟨b, off, none⟩ ∧ ValAt w b (off + k * 6) (getV l k) ∧ (getV l k).ok := by
  obtain ⟨x, b, off, hx, ho, hA, hv⟩ := h.at hk
  have : getV l k = x := by simp [getV, hx]
  rw [this]
  exact ⟨b, off, hA, hv, ho⟩
theorem cell_prod {C i j : Nat} (R : Nat) (hi : i < R) (hj : j < C) (hN : R * C ≤ 4096) : i * C + j < R * C ∧ i * C ≤ 4096 := by
  have : (i + 1) * C ≤ R * C := Nat.mul_le_mul_right C hi
  rw [Nat.succ_mul] at this
  omega
set_option maxHeartbeats 400000 in
theorem turn1_any (pb : Nat) (R C : Nat) (A : Option Addr) (n cap : Nat) (l : List Val) (i j : Nat) (W : World) (hb : ABox pb R C A n cap W) (h : ArrIn W A n cap l) (hn : n = R * C) (hN : n ≤ 4096) (hi : i < C) (hj : j < R) :
    Calls Tryd.prog 65 #[.int .i64 i, .int .i64 j, .pointer (some ⟨pb, 0, none⟩)] W fun e W' => e = .returned (VV (getV l (j * C + i)).kind (getV l (j * C + i)).mant (getV l (j * C + i)).exp (getV l (j * C + i)).text (getV l (j * C + i)).truth (getV l (j * C + i)).fault) ∧ Ext W W' := by
  subst hn
  obtain ⟨hk, hk2⟩ := cell_prod R hj hi hN
  obtain ⟨b, off, rfl, hv, ho⟩ := h.get hk
  generalize hx : getV l (j * C + i) = x at *
  clear hx
  obtain ⟨v0, v1, v2, v3, v4, v5⟩ := hv
  have hbl : b < W.heap.size := lt_of_cell v0
  obtain ⟨hp, b0, b1, b2⟩ := hb
  have w1 : IntKind.i64.wrap ((j : Int) * (C : Int)) = ((j * C : Nat) : Int) := by rw [IntKind.wrap_i64, Int.natCast_mul]; omega
  generalize hjc : j * C = jc at *
  generalize hrc : R * C = rc at *
  clear hjc hrc
  go_enter Tryd.func65, Tryd.ntmps65
  go_wp2
  exact bodyPost_ret (v := VV x.kind x.mant x.exp x.text x.truth x.fault) (by simp [results, Tryd.results65, go_sem]) rfl ⟨rfl, by repeat (first | exact Ext.refl _ | apply Ext.drew | apply Ext.alloc | apply Ext.more_)⟩
def turnL (R C : Nat) (l : List Val) : List Val := vals (fun i j => getV l (j * C + i)) R (C * R)
theorem right_parts {r c : Int} {l : List Val} (h : rightA r c l = true) : ∃ R C : Nat, r = R ∧ c = C ∧ 1 ≤ R ∧ 1 ≤ C ∧ R * C ≤ 4096 ∧ l.length = R * C ∧ (∀ x ∈ l, valRight x = true) := by
  simp only [rightA, Bool.and_eq_true, decide_eq_true_eq, List.all_eq_true] at h
  obtain ⟨⟨hf, hn⟩, ha⟩ := h
  obtain ⟨f1, f2, f3, f4, f5, f6⟩ := fits_mul hf
  obtain ⟨R, rfl⟩ := Int.eq_ofNat_of_zero_le (show 0 ≤ r by omega)
  obtain ⟨C, rfl⟩ := Int.eq_ofNat_of_zero_le (show 0 ≤ c by omega)
  rw [← Int.natCast_mul] at hn f6
  exact ⟨R, C, rfl, rfl, by omega, by omega, by omega, by omega, ha⟩
set_option maxHeartbeats 400000 in
theorem turn_yes (R C : Nat) (A : Option Addr) (n cap : Nat) (l : List Val) (w : World) (h : ArrIn w A n cap l) (hr : rightA R C l = true) :
    Calls Tryd.prog 44 #[AV R C (.slice A n cap)] w fun e w' => ArrO w.heap.size w' e C R (turnL R C l) ∧ Ext w w' := by
  have hX : ∀ o o' : Obj, Ext w ((w.alloc o).alloc o') := fun o o' => by repeat (first | exact Ext.refl _ | apply Ext.drew | apply Ext.alloc | apply Ext.more_)
  obtain ⟨R', C', e1, e2, r1, r2, r3, r4, _⟩ := right_parts hr
  obtain rfl : R = R' := by omega
  obtain rfl : C = C' := by omega
  clear e1 e2
  have hln := h.len
  have hN : n ≤ 4096 := by omega
  have hn : n = R * C := by omega
  have HN := Lib.hid hn
  clear hn r4 hln
  have hcr : C * R ≤ 4096 := by rw [Nat.mul_comm]; exact r3
  go_enter Tryd.func44, Tryd.ntmps44
  go_wp2_with (first | (go_at_call 19; refine (right_any _ _ _ _ _ _ _ (h.ext (hX _ _))).mono ?_; rintro e w' ⟨rfl, hb⟩; obtain ⟨os, d, rfl⟩ := hb.more) | fail)
  refine (build_pure C R 65 #[.pointer (some ⟨w.heap.size, 0, none⟩)] (fun i j => getV l (j * C + i)) _ r2 r1 hcr (fun _ _ => by kernel_rfl) ?_).mono ?_
  · intro i j W hi hj hx
    refine turn1_any w.heap.size R C A n cap l i j W (ABox.ext ?_ hx) (h.ext (Ext.trans ?_ hx)) HN.out hN hi hj
    · refine ⟨?_, ?_, ?_, ?_⟩ <;> simp [go_sem]
    · exact (by repeat (first | exact Ext.refl _ | apply Ext.drew | apply Ext.alloc | apply Ext.more_))
  rintro e w' ⟨A', c', rfl, hs, hc', hb⟩
  obtain ⟨os', d', rfl⟩ := hb.more
  go_wp2
  have hl : (turnL R C l).length = C * R := vals_length _ _ _
  exact bodyPost_ret (v := AV C R (.slice A' (C * R) c')) (by simp [results, Tryd.results44, go_sem]) rfl ⟨⟨A', c', by rw [hl], (by (try simp only [more_more] at hs); (try simp only [drew_more] at hs); (try simp only [more_drew] at hs); exact Rd.swap hs (by first | (simp; done) | (simp; omega) | omega) (by first | (simp; done) | (simp; omega) | omega) (by first | (simp; done) | (simp; omega) | omega)), by rw [hl]; exact hc'⟩, by repeat (first | exact Ext.refl _ | apply Ext.drew | apply Ext.alloc | apply Ext.more_)⟩
def hasB (r c i j : Int) : Bool := decide (0 ≤ i) && decide (i < r) && decide (0 ≤ j) && decide (j < c)
set_option maxHeartbeats 400000 in
theorem has_any (r c i j : Int) (s : Value) (w : World) (_hs : s.oneCell' = true) :
    Calls Tryd.prog 72 #[AV r c s, .int .i64 i, .int .i64 j] w fun e w' => e = .returned (.bool (hasB r c i j)) ∧ Ext w w' := by
  go_enter Tryd.func72, Tryd.ntmps72
  go_upto_region 1 with (fail)
  refine wp_region_lit ?_
  iterate 3 ((refine wpL_read (v := ?_) rfl ?_ ?_; rotate_left 1; (go_simp; first | done | rfl)); try simp only [Act.put, zqA, zqB, zqC])
  iterate 4 ((refine wpL_gread (v := ?_) (c := ?_) rfl rfl rfl ?_ (fun hc => ?_) ?_; rotate_left 2; (first | exact gc_t _ | exact gc_f _ | exact gc_gt _ _ | exact gc_gf _ _); ((try simp only [gv_of hc]); (try (have hc1 := and_l hc; (try simp only [gv_of hc1]); (try (have hc2 := and_l hc1; (try simp only [gv_of hc2]))))); go_simp; first | done | rfl)); try simp only [Act.put, zqA, zqB, zqC])
  first | (refine wpL_pick_and rfl rfl rfl rfl rfl ?_) | (refine wpL_pick_or rfl rfl rfl rfl rfl ?_)
  try simp only [Act.put, zqA, zqB, zqC]
  (refine wpL_read (v := ?_) rfl ?_ ?_; rotate_left 1; (go_simp; first | done | rfl))
  try simp only [Act.put, zqA, zqB, zqC]
  iterate 2 ((refine wpL_gread (v := ?_) (c := ?_) rfl rfl rfl ?_ (fun hc => ?_) ?_; rotate_left 2; (first | exact gc_t _ | exact gc_f _ | exact gc_gt _ _ | exact gc_gf _ _); ((try simp only [gv_of hc]); (try (have hc1 := and_l hc; (try simp only [gv_of hc1]); (try (have hc2 := and_l hc1; (try simp only [gv_of hc2]))))); go_simp; first | done | rfl)); try simp only [Act.put, zqA, zqB, zqC])
  first | (refine wpL_pick_and rfl rfl rfl rfl rfl ?_) | (refine wpL_pick_or rfl rfl rfl rfl rfl ?_)
  try simp only [Act.put, zqA, zqB, zqC]
  (refine wpL_read (v := ?_) rfl ?_ ?_; rotate_left 1; (go_simp; first | done | rfl))
  try simp only [Act.put, zqA, zqB, zqC]
  iterate 4 ((refine wpL_gread (v := ?_) (c := ?_) rfl rfl rfl ?_ (fun hc => ?_) ?_; rotate_left 2; (first | exact gc_t _ | exact gc_f _ | exact gc_gt _ _ | exact gc_gf _ _); ((try simp only [gv_of hc]); (try (have hc1 := and_l hc; (try simp only [gv_of hc1]); (try (have hc2 := and_l hc1; (try simp only [gv_of hc2]))))); go_simp; first | done | rfl)); try simp only [Act.put, zqA, zqB, zqC])
  first | (refine wpL_pick_and rfl rfl rfl rfl rfl ?_) | (refine wpL_pick_or rfl rfl rfl rfl rfl ?_)
  try simp only [Act.put, zqA, zqB, zqC]
  (refine wpL_read (v := ?_) rfl ?_ ?_; rotate_left 1; (go_simp; first | done | rfl))
  try simp only [Act.put, zqA, zqB, zqC]
  refine wpList_nil ?_
  try go_simp
  go_wp2
  go_ret
  exact ⟨rfl, by repeat (first | exact Ext.refl _ | apply Ext.drew | apply Ext.alloc | apply Ext.more_)⟩
end Go.Proofs.YtljgagjipamdeaaDoor
namespace Go.Proofs.YtljgagjipamdeaaDoor
open Go.RowKit
theorem right_bd {R C : Nat} {l : List Val} (h : rightA R C l = true) : 1 ≤ R ∧ 1 ≤ C ∧ R * C ≤ 4096 ∧ l.length = R * C ∧ R ≤ 4096 ∧ C ≤ 4096 := by
  obtain ⟨R', C', e1, e2, r1, r2, r3, r4, _⟩ := right_parts h
  obtain rfl : R = R' := by omega
  obtain rfl : C = C' := by omega
  have h1 : R * 1 ≤ R * C := Nat.mul_le_mul_left R r2
  have h2 : 1 * C ≤ R * C := Nat.mul_le_mul_right C r1
  exact ⟨r1, r2, r3, r4, by omega, by omega⟩
theorem fits_nat {a b : Nat} : fitsB a b = true ↔ 1 ≤ a ∧ 1 ≤ b ∧ a * b ≤ 4096 := by
  constructor
  · intro h
    obtain ⟨f1, f2, f3, f4, f5, f6⟩ := fits_mul h
    rw [← Int.natCast_mul] at f6
    exact ⟨by omega, by omega, by omega⟩
  · intro ⟨h1, h2, h3⟩
    have ha : a * 1 ≤ a * b := Nat.mul_le_mul_left a h2
    have hq : b ≤ 4096 / a := (Nat.le_div_iff_mul_le (by omega)).2 (by rw [Nat.mul_comm]; exact h3)
    simp only [fitsB, Bool.and_eq_true, decide_eq_true_eq]
    refine ⟨⟨⟨by omega, by omega⟩, by omega⟩, ?_⟩
    have : ((b : Nat) : Int) ≤ ((4096 / a : Nat) : Int) := by omega
    simpa using this
end Go.Proofs.YtljgagjipamdeaaDoor
namespace Go.Proofs.YtljgagjipamdeaaDoor
open Go.RowKit
theorem badV_ok (f : Int) (h : I64 f) : (badV f).ok := ⟨⟨by simp [badV], by simp [badV]⟩, ⟨by simp [badV], by simp [badV]⟩, ⟨by simp [badV], by simp [badV]⟩, by simp [badV, ByteArray.size], h⟩
theorem getV_mem {l : List Val} {k : Nat} (h : k < l.length) : getV l k ∈ l := by
  simp [getV, List.getElem?_eq_getElem h]
theorem getV_vals (g : Nat → Nat → Val) {R C i j : Nat} (hi : i < R) (hj : j < C) : getV (vals g C (R * C)) (i * C + j) = g i j := by
  have h1 : (i * C + j) / C = i := by rw [Nat.add_comm, Nat.add_mul_div_right _ _ (by omega), Nat.div_eq_of_lt hj]; omega
  have h2 : (i * C + j) % C = j := by rw [Nat.add_comm, Nat.add_mul_mod_self_right, Nat.mod_eq_of_lt hj]
  have h3 : i * C + j < R * C := by
    calc i * C + j < i * C + C := by omega
      _ = (i + 1) * C := by rw [Nat.succ_mul]
      _ ≤ R * C := Nat.mul_le_mul_right _ hi
  simp [getV, vals, h1, h2, h3]
theorem vals_congr {g g' : Nat → Nat → Val} {C R : Nat} (h : ∀ i j, i < R → j < C → g i j = g' i j) : vals g C (R * C) = vals g' C (R * C) := by
  unfold vals
  refine List.map_congr_left fun t ht => ?_
  have ht' : t < R * C := List.mem_range.1 ht
  have hC : 0 < C := by rcases Nat.eq_zero_or_pos C with rfl | h; · simp at ht'
                        · exact h
  exact h _ _ (Nat.div_lt_of_lt_mul (by rw [Nat.mul_comm]; exact ht')) (Nat.mod_lt _ hC)
/-- An array as data. -/
structure NA where
  R : Nat
  C : Nat
  l : List Val
def NA.right (a : NA) : Prop := rightA a.R a.C a.l = true
def NA.ok (a : NA) : Prop := ∀ x ∈ a.l, x.ok
theorem rightA_nat {R C : Nat} {l : List Val} : rightA R C l = true ↔ 1 ≤ R ∧ 1 ≤ C ∧ R * C ≤ 4096 ∧ l.length = R * C ∧ ∀ x ∈ l, valRight x = true := by
  simp only [rightA, Bool.and_eq_true, fits_nat, decide_eq_true_eq, List.all_eq_true]
  constructor
  · rintro ⟨⟨⟨h1, h2, h3⟩, h4⟩, h5⟩
    refine ⟨h1, h2, h3, ?_, h5⟩
    have : ((l.length : Nat) : Int) = ((R * C : Nat) : Int) := by rw [h4]; simp
    omega
  · rintro ⟨h1, h2, h3, h4, h5⟩
    exact ⟨⟨⟨h1, h2, h3⟩, by rw [h4]; simp⟩, h5⟩
end Go.Proofs.YtljgagjipamdeaaDoor
namespace Go.Proofs.YtljgagjipamdeaaDoor
open Go.RowKit NM
/-- An argument: an array that may be, and where its values lie. -/
structure Ar where
  x : NA
  A : Option Addr
  n : Nat
  cap : Nat
def Ar.cells (a : Ar) : List Value := [.int .i64 a.x.R, .int .i64 a.x.C, .slice a.A a.n a.cap]
def acells (xs : List Ar) : List Value := xs.flatMap Ar.cells
/-- The three cells of an array anywhere. -/
def ArAt (w : World) (b o : Nat) (a : Ar) : Prop :=
  w.cell? ⟨b, o, none⟩ = some (.int .i64 a.x.R) ∧ w.cell? ⟨b, o + 1, none⟩ = some (.int .i64 a.x.C) ∧ w.cell? ⟨b, o + 2, none⟩ = some (.slice a.A a.n a.cap)
theorem acells_at : ∀ (xs : List Ar) (i : Nat) (a : Ar), xs[i]? = some a → ∀ j, j < 3 → (acells xs)[i * 3 + j]? = a.cells[j]?
  | [], i, x, h, j, hj => by simp at h
  | y :: l, 0, x, h, j, hj => by
    obtain rfl : y = x := by simpa using h
    rw [acells, List.flatMap_cons, List.getElem?_append_left (by simp [Ar.cells]; omega)]
    simp
  | y :: l, i + 1, x, h, j, hj => by
    rw [acells, List.flatMap_cons, List.getElem?_append_right (by simp [Ar.cells]; omega)]
    rw [show (i + 1) * 3 + j - y.cells.length = i * 3 + j by simp [Ar.cells]; omega]
    exact acells_at l i x (by simpa using h) j hj
/-- An array whose values lie, and may be. -/
structure ArOk (w : World) (a : Ar) : Prop where
  arr : ArrIn w a.A a.n a.cap a.x.l
  right : a.x.right
theorem ArOk.ext {w w' : World} {a : Ar} (h : ArOk w a) (hx : Ext w w') : ArOk w' a := ⟨h.arr.ext hx, h.right⟩
structure ArgsIn (w : World) (A : Option Addr) (n cap : Nat) (xs : List Ar) : Prop where
  rd : Rd 0 w A (acells xs)
  len : xs.length = n
  cap : n ≤ cap
  small : n ≤ 9223372036854775807
  all : ∀ a ∈ xs, ArOk w a
theorem ArgsIn.ext {w w' : World} {A : Option Addr} {n cap : Nat} {xs : List Ar} (h : ArgsIn w A n cap xs) (hx : Ext w w') : ArgsIn w' A n cap xs :=
  ⟨h.rd.ext hx, h.len, h.cap, h.small, fun a ha => (h.all a ha).ext hx⟩
theorem ArgsIn.get {w : World} {A : Option Addr} {n cap : Nat} {xs : List Ar} (h : ArgsIn w A n cap xs) {k : Nat} {a : Ar} (hk : xs[k]? = some a) :
    ∃ b off, A = some ⟨b, off, none⟩ ∧ ArAt w b (off + k * 3) a ∧ ArOk w a := by
  have hc : ∀ j, j < 3 → (acells xs)[k * 3 + j]? = a.cells[j]? := acells_at xs k a hk
  obtain ⟨b, off, rfl, _, h0⟩ := h.rd (k * 3 + 0) (.int .i64 a.x.R) (by rw [hc 0 (by omega)]; rfl)
  refine ⟨b, off, rfl, ?_, h.all a (List.mem_of_getElem? hk)⟩
  have hg : ∀ j u, j < 3 → a.cells[j]? = some u → w.cell? ⟨b, off + k * 3 + j, none⟩ = some u := fun j u hj hu => by
    obtain ⟨b', off', he, _, h1⟩ := h.rd (k * 3 + j) u (by rw [hc j hj]; exact hu)
    simp only [Option.some.injEq, Addr.mk.injEq, and_true] at he
    obtain ⟨rfl, rfl⟩ := he
    rw [← h1]; congr 2; omega
  exact ⟨hg 0 _ (by omega) rfl, hg 1 _ (by omega) rfl, hg 2 _ (by omega) rfl⟩
theorem ArgsIn.at {w : World} {A : Option Addr} {n cap : Nat} {xs : List Ar} (h : ArgsIn w A n cap xs) {k : Nat} (hk : k < n) :
    ∃ a b off, xs[k]? = some a ∧ A = some ⟨b, off, none⟩ ∧ ArAt w b (off + k * 3) a ∧ ArOk w a := by
  have hl : k < xs.length := by rw [h.len]; exact hk
  obtain ⟨b, off, e, h1, h2⟩ := h.get (List.getElem?_eq_getElem hl)
  exact ⟨_, b, off, List.getElem?_eq_getElem hl, e, h1, h2⟩
/-- What lies in one block from its start on. -/
theorem Rd.of_row {w : World} {b : Nat} {cs : List Value} {t : TypeId} (h : w.heap[b]? = some (.cells cs.toArray t)) (base : Nat) (hb : base ≤ b) : Rd base w (some ⟨b, 0, none⟩) cs := fun j u hu => by
  refine ⟨b, 0, rfl, hb, ?_⟩
  simp only [World.cell?, h, Nat.zero_add]
  simpa using hu
/-- What a function of arrays hands back. -/
def ResA (w : World) (x : NA) (e : Ending) (w' : World) : Prop :=
  ∃ D m cc, e = .returned (AV x.R x.C (.slice D m cc)) ∧ ArrN w.heap.size w' D m cc x.l ∧ Ext w w'
def oneA (v : Val) : NA := ⟨1, 1, [v]⟩
def aloneO (f : Int) : NA := oneA (bad_ f)
end Go.Proofs.YtljgagjipamdeaaDoor
namespace Go.Proofs.YtljgagjipamdeaaDoor
open Go.RowKit NM
theorem ArrO.res {w w' : World} {e : Ending} {x : NA} (h : ArrO w.heap.size w' e x.R x.C x.l) (hl : x.l.length ≤ 9223372036854775807) (ho : x.ok) (hx : Ext w w') : ResA w x e w' := by
  obtain ⟨A, cap, rfl, h1, h2⟩ := h
  exact ⟨A, _, cap, rfl, ⟨h1, rfl, h2, hl, ho⟩, hx⟩
theorem one_res (v : Val) (w : World) (hv : v.ok) (hr : v.right) :
    Calls Tryd.prog 28 #[VV v.kind v.mant v.exp v.text v.truth v.fault] w fun e w' => ResA w (oneA v) e w' :=
  (one_right v.kind v.mant v.exp v.fault v.text v.truth w hv.2.1 hv.2.2.2.1 hr).mono fun e w' ⟨h1, h2⟩ => ArrO.res (x := oneA v) h1 (by simp [oneA]) (fun y hy => by rw [show y = v by simpa [oneA] using hy]; exact hv) h2
theorem ok_bad (f : Int) : (bad_ f).ok := badV_ok _ (by have := badF_bd f; unfold I64; omega)
set_option maxHeartbeats 1000000 in
theorem alone_any (f : Int) (w : World) : Calls Tryd.prog 18 #[.int .i64 f] w fun e w' => ResA w (aloneO f) e w' := by
  go_enter Tryd.func18, Tryd.ntmps18
  go_wp2_with (go_at_call 29; (with_reducible refine (bad_any _ _).mono ?_); rintro e w' ⟨rfl, hb⟩; obtain ⟨os, d, rfl⟩ := hb.more; clear hb)
  go_at_call 28
  refine (one_res (bad_ f) _ (ok_bad f) (right_bad f)).mono ?_
  rintro e w' ⟨D, m, cc, rfl, hD, hb⟩
  obtain ⟨os2, d2, rfl⟩ := hb.more
  clear hb
  have hDr := hD.rd
  go_wp2_with fail
  exact bodyPost_ret (v := AV (oneA (bad_ f)).R (oneA (bad_ f)).C (.slice D m cc)) (by simp [results, Tryd.results18, go_sem]) rfl ⟨D, m, cc, rfl, ⟨(by (try simp only [more_more] at hDr); (try simp only [drew_more] at hDr); (try simp only [more_drew] at hDr); (try simp only [Array.append_assoc] at hDr); exact Rd.swap hDr (by first | (simp; done) | (simp; omega) | omega) (by first | (simp; done) | (simp; omega) | omega) (by first | (simp; done) | (simp; omega) | omega)), hD.len, hD.cap, hD.small, hD.ok⟩, by with_reducible repeat (first | exact Ext.refl _ | apply Ext.drew | apply Ext.alloc | apply Ext.more_)⟩
abbrev fnE (lo hi : Int) (f : FuncId) : Value := .agg #[.int .i64 lo, .int .i64 hi, fn0 f]
def flookL : Tab1 := [([73, 78, 68, 69, 88], fnE 2 3 23), ([77, 65, 84, 67, 72], fnE 2 3 24), ([88, 76, 79, 79, 75, 85, 80], fnE 3 5 25), ([86, 76, 79, 79, 75, 85, 80], fnE 3 4 26), ([72, 76, 79, 79, 75, 85, 80], fnE 3 4 27)]
theorem flookL_pair : flookL.Pairwise (fun p q => p.1 ≠ q.1) := by simp [flookL]
set_option maxHeartbeats 1000000 in
theorem table_any (w : World) :
    Calls Tryd.prog 17 #[] w fun e w' => ∃ b, e = .returned (.map (some b)) ∧ TabS Tryd.prog 9 w b flookL [] w' := by
  have hmm := @run_makeMap Tryd.prog
  have hT := TabS.start w Tryd.prog 9
  go_enter Tryd.func17, Tryd.ntmps17
  go_wp2_with (first | (refine wpL_insert rfl _ _ _ _ rfl 9 47 Tryd.underlying9 Tryd.underlying49 _ _ rfl hT.tab (by simp only [List.length_append, List.length_nil, List.length_cons, maxLen]; omega) _ rfl (by simp only [maxLen, ByteArray.size, List.size_toArray, List.length_cons, List.length_nil]; omega) _ rfl ?_; intro w1 ht1 hg1; have hT := hT.put ht1 hg1; clear ht1 hg1))
  go_ret
  exact ⟨w.heap.size, rfl, hT⟩
end Go.Proofs.YtljgagjipamdeaaDoor
namespace Go.Proofs.YtljgagjipamdeaaDoor
open Go.RowKit NM
theorem zero_fn (w : World) : (zeroValue 47).run Tryd.prog w = .ok (.agg #[.int .i64 0, .int .i64 0, .nilFunc]) w := by kernel_rfl
set_option maxHeartbeats 1000000 in
/-- A function that there is, of arguments enough and not too many. -/
theorem call_yes (s : ByteArray) (fid : FuncId) (lo hi : Nat) (hs : s.size ≤ maxLen) (ht : tabAt flookL s.data.toList = some (fnE lo hi fid)) (hent : ∀ (args : Array Value) (W : World), (callFunc fid args).run Tryd.prog W = .ok (.enter fid args) W)
    (A : Option Addr) (n cap : Nat) (xs : List Ar) (w : World) (h : ArgsIn w A n cap xs) (hlo : lo ≤ n) (hhi : n ≤ hi) (x : NA)
    (hf : ∀ W, Ext w W → Calls Tryd.prog fid #[.slice A n cap] W fun e W' => ResA W x e W') :
    Calls Tryd.prog 9 #[.string s, .slice A n cap] w fun e w' => ∃ D m cc, e = .returned (.tuple #[AV x.R x.C (.slice D m cc), .bool true]) ∧ ArrN w.heap.size w' D m cc x.l ∧ Ext w w' := by
  have HT := Lib.hid ht
  clear ht
  have hsm := h.small
  have q1 : ¬ n < lo := by omega
  have q2 : ¬ hi < n := by omega
  go_enter Tryd.func9, Tryd.ntmps9
  go_wp2_with (first | (go_at_call 17; (with_reducible refine (table_any _).mono ?_); rintro e w' ⟨bm, rfl, hT⟩; have hbm := hT.hb; have hxT := hT.ext; obtain ⟨os1, d1, rfl⟩ := hxT.more) | (refine wpL_look rfl _ _ _ rfl 9 47 Tryd.underlying9 Tryd.underlying49 _ _ rfl ?_ flookL_pair _ (zero_fn _) _ rfl hs (fnE lo hi fid) true (by rw [HT.out]; rfl) (by rw [HT.out]; rfl) ?_))
  · exact hT.tab.ext (by with_reducible repeat (first | exact Ext.refl _ | apply Ext.drew | apply Ext.alloc | apply Ext.more_))
  go_loopw [34] (fun i wr => ∃ k : Nat, k ≤ n ∧ i = .int .i64 k ∧ Ext ((more (w.alloc (Obj.cells #[.int .i64 0, .int .i64 0, .slice none 0 0] 24)) os1 d1).alloc (Obj.cells #[.int .i64 lo, .int .i64 hi, fn0 fid] 47)) wr) (fun i _ => n - (intOf i).toNat)
  case atStart => exact ⟨0, Nat.zero_le _, rfl, Ext.refl _⟩
  case round =>
    obtain ⟨k, hk, rfl, hX⟩ := hrel
    obtain ⟨os, d, rfl⟩ := hX.more
    clear hX
    by_cases hlt : k < n
    · obtain ⟨a, b, off, ha, rfl, hat, hok⟩ := h.at hlt
      obtain ⟨v0, v1, v2⟩ := hat
      have hbl : b < w.heap.size := lt_of_cell v0
      have hr : rightA a.x.R a.x.C a.x.l = true := hok.right
      have hra := fun W => (hr ▸ right_any a.x.R a.x.C a.A a.n a.cap a.x.l W : ArrIn W a.A a.n a.cap a.x.l → _)
      clear hT hxT hr
      go_wp2_with (go_at_call 19; refine (hra _ (hok.arr.ext (by with_reducible repeat (first | exact Ext.refl _ | apply Ext.drew | apply Ext.alloc | apply Ext.more_)))).mono ?_; rintro e w' ⟨rfl, hb⟩; obtain ⟨os', d', rfl⟩ := hb.more; clear hb)
      refine ⟨⟨k + 1, by omega, by go_num, by with_reducible repeat (first | exact Ext.refl _ | apply Ext.drew | apply Ext.alloc | apply Ext.more_)⟩, by simp [intOf]; omega⟩
    · clear hT hxT
      go_wp2_with fail
      refine (hf _ (by with_reducible repeat (first | exact Ext.refl _ | apply Ext.drew | apply Ext.alloc | apply Ext.more_))).mono ?_
      rintro e w' ⟨D, m, cc, rfl, hD, hb⟩
      obtain ⟨os2, d2, rfl⟩ := hb.more
      clear hb
      have hDr := hD.rd
      go_wp2_with fail
      exact bodyPost_ret (v := .tuple #[AV x.R x.C (.slice D m cc), .bool true]) (by simp [results, Tryd.results9, go_sem]) rfl ⟨D, m, cc, rfl, ⟨(by (try simp only [more_more] at hDr); (try simp only [drew_more] at hDr); (try simp only [more_drew] at hDr); (try simp only [Array.append_assoc] at hDr); exact Rd.swap hDr (by first | (simp; done) | (simp; omega) | omega) (by first | (simp; done) | (simp; omega) | omega) (by first | (simp; done) | (simp; omega) | omega)), hD.len, hD.cap, hD.small, hD.ok⟩, by with_reducible repeat (first | exact Ext.refl _ | apply Ext.drew | apply Ext.alloc | apply Ext.more_)⟩
end Go.Proofs.YtljgagjipamdeaaDoor
namespace Go.Proofs.YtljgagjipamdeaaDoor
open Go.RowKit NM
theorem upB_yes {b : UInt8} (h1 : 97 ≤ b.toNat) (h2 : b.toNat ≤ 122) : (upB b).toNat = b.toNat - 32 := by
  unfold upB
  rw [if_pos ⟨UInt8.le_iff_toNat_le.2 h1, UInt8.le_iff_toNat_le.2 h2⟩, UInt8.toNat_sub_of_le]
  · rfl
  · rw [UInt8.le_iff_toNat_le]; show 32 ≤ b.toNat; omega
theorem upB_no {b : UInt8} (h : b.toNat < 97 ∨ 122 < b.toNat) : upB b = b := by
  unfold upB
  rw [if_neg]
  rintro ⟨h1, h2⟩
  have h1 : 97 ≤ b.toNat := UInt8.le_iff_toNat_le.1 h1
  have h2 : b.toNat ≤ 122 := UInt8.le_iff_toNat_le.1 h2
  omega
theorem bytes_ext_ (w : World) (e : TypeId) (s : ByteArray) : Ext w (Lib.bytesWorld w e s) :=
  ⟨rfl, rfl, rfl, by rw [Lib.bytesWorld_size]; omega, fun b hb => Lib.bytesWorld_at_old w e s b hb⟩
theorem tl_get (s : ByteArray) (j : Nat) (h : j < s.size) : (tl s)[j]? = some (s[j]'h) := by
  unfold tl
  rw [List.getElem?_eq_getElem (by exact h)]
  rfl
theorem fold_get (s : ByteArray) (j : Nat) (h : j < s.size) : (foldB s)[j]'(by rw [foldB_size]; exact h) = upB (s[j]'h) := by
  have h1 := tl_get (foldB s) j (by rw [foldB_size]; exact h)
  rw [tl_fold, List.getElem?_map, tl_get s j h] at h1
  exact (Option.some.inj h1).symm
/-- What the loop of folded keeps. -/
structure FS (w : World) (s : ByteArray) (k : Nat) (wr : World) : Prop where
  ext : Ext w wr
  cell : ∀ j (h : j < s.size), wr.cell? ⟨w.heap.size, j, none⟩ = some (.int .u8 ((if j < k then upB (s[j]'h) else s[j]'h).toNat : Int))
  fz : ∀ j, j < s.size → wr.frozen? ⟨w.heap.size, j, none⟩ = false
theorem FS.start (w : World) (s : ByteArray) : FS w s 0 (Lib.bytesWorld w 5 s) := by
  refine ⟨bytes_ext_ _ _ _, fun j h => ?_, fun j h => ?_⟩
  · rw [Lib.bytesWorld_cell _ _ _ _ h]
    have h1 := tl_get s j h
    unfold tl at h1
    rw [List.getD_eq_getElem?_getD, h1]
    rfl
  · have hc : s.size ≤ (Lib.bytesCells w 5 s).size := by
      unfold Lib.bytesCells
      rw [Array.size_append, Array.size_map]
      exact Nat.le_add_right _ _
    unfold World.frozen?
    rw [Lib.bytesWorld_at_new]
    simp
    omega
theorem FS.lt {w : World} {s : ByteArray} {k : Nat} {wr : World} (h : FS w s k wr) (h0 : 0 < s.size) : w.heap.size < wr.heap.size := lt_of_cell (h.cell 0 h0)
theorem FS.up {w : World} {s : ByteArray} {k : Nat} {wr : World} (h : FS w s k wr) (hk : k < s.size) (v : Int) (hv : v = ((upB (s[k]'hk)).toNat : Int)) : FS w s (k + 1) (wr.setCell ⟨w.heap.size, k, none⟩ (.int .u8 v)) := by
  subst hv
  refine ⟨h.ext.set _ (Nat.le_refl _), fun j hj => ?_, fun j hj => by rw [World.frozen?_setCell]; exact h.fz j hj⟩
  by_cases hjk : j = k
  · subst hjk
    rw [World.cell?_setCell_same _ _ _ (h.cell j hj), if_pos (by omega)]
  · rw [World.cell?_setCell_other _ _ _ _ (by intro e; injection e with _ e; omega), h.cell j hj]
    congr 4
    by_cases h1 : j < k
    · rw [if_pos h1, if_pos (by omega)]
    · rw [if_neg h1, if_neg (by omega)]
theorem FS.keep {w : World} {s : ByteArray} {k : Nat} {wr : World} (h : FS w s k wr) (hk : k < s.size) (hv : upB (s[k]'hk) = s[k]'hk) : FS w s (k + 1) wr := by
  refine ⟨h.ext, fun j hj => ?_, h.fz⟩
  rw [h.cell j hj]
  by_cases hjk : j = k
  · subst hjk
    rw [if_neg (by omega), if_pos (by omega), hv]
  · congr 4
    by_cases h1 : j < k
    · rw [if_pos h1, if_pos (by omega)]
    · rw [if_neg h1, if_neg (by omega)]
theorem FS.done {w : World} {s : ByteArray} {wr : World} (h : FS w s s.size wr) : Lib.Bytes wr w.heap.size 0 (foldB s) := by
  intro j hj
  have hj' : j < s.size := by rw [foldB_size] at hj; exact hj
  rw [Nat.zero_add, h.cell j hj', if_pos hj', fold_get s j hj']
set_option maxHeartbeats 1000000 in
theorem folded_any (s : ByteArray) (w : World) (h0 : 0 < s.size) (hs : s.size ≤ 9223372036854775807) :
    Calls Tryd.prog 80 #[.string s] w fun e w' => e = .returned (.string (foldB s)) ∧ Ext w w' := by
  have hc1 := Lib.run_convert_string_bytes (P := Tryd.prog) w 9 97 5 s Tryd.underlying9 Tryd.underlying97 Tryd.underlying5
  have hst := FS.start w s
  generalize Lib.bytesWorld w 5 s = W at *
  generalize grownCap w s.size 0 5 = cap at *
  have HST := Lib.hid hst
  clear hst
  go_enter Tryd.func80, Tryd.ntmps80
  go_wp2_with fail
  go_loopw [10] (fun v10 wr => ∃ k : Nat, k ≤ s.size ∧ v10 = .int .i64 (k : Int) ∧ Hid (FS w s k wr)) (fun v10 _ => s.size - (intOf v10).toNat)
  case atStart => exact ⟨0, Nat.zero_le _, rfl, HST⟩
  case round =>
    obtain ⟨k, hk, rfl, H⟩ := hrel
    by_cases hks : k < s.size
    · have hc := H.out.cell k hks
      rw [if_neg (Nat.lt_irrefl k)] at hc
      have hf := H.out.fz k hks
      have hl := H.out.lt h0
      have hb := (s[k]'hks).toNat_lt
      by_cases h97 : 97 ≤ (s[k]'hks).toNat
      · by_cases h122 : (s[k]'hks).toNat ≤ 122
        · have HU := Lib.hid (H.out.up hks (((s[k]'hks).toNat : Int) - 97 + 65) (by rw [upB_yes h97 h122]; omega))
          have g1 : (97 : Int) ≤ ((s[k]'hks).toNat : Int) := by omega
          have g2 : ((s[k]'hks).toNat : Int) ≤ 122 := by omega
          generalize (s[k]'hks).toNat = c at *
          have w1 : IntKind.u8.wrap ((c : Int) - 97) = (c : Int) - 97 := by rw [IntKind.wrap_u8]; omega
          have w2 : IntKind.u8.wrap ((c : Int) - 97 + 65) = (c : Int) - 97 + 65 := by rw [IntKind.wrap_u8]; omega
          clear h97 h122
          go_wp2_with fail
          exact ⟨⟨k + 1, by omega, by go_num, HU⟩, by simp [intOf]; omega⟩
        · have HU := Lib.hid (H.out.keep hks (upB_no (by omega)))
          have g1 : (97 : Int) ≤ ((s[k]'hks).toNat : Int) := by omega
          have g2 : ¬ ((s[k]'hks).toNat : Int) ≤ 122 := by omega
          generalize (s[k]'hks).toNat = c at *
          clear h97 h122
          go_wp2_with fail
          exact ⟨⟨k + 1, by omega, by go_num, HU⟩, by simp [intOf]; omega⟩
      · have HU := Lib.hid (H.out.keep hks (upB_no (by omega)))
        have g1 : ¬ (97 : Int) ≤ ((s[k]'hks).toNat : Int) := by omega
        generalize (s[k]'hks).toNat = c at *
        clear h97
        go_wp2_with fail
        exact ⟨⟨k + 1, by omega, by go_num, HU⟩, by simp [intOf]; omega⟩
    · obtain rfl : k = s.size := by omega
      have hcv := Lib.run_convert_whole (P := Tryd.prog) wr 97 5 9 Tryd.underlying97 Tryd.underlying5 Tryd.underlying9 w.heap.size 0 (foldB s) H.out.done cap
      rw [foldB_size] at hcv
      go_wp2_with fail
      exact bodyPost_ret (v := .string (foldB s)) (by simp [results, Tryd.results80, go_sem]) rfl ⟨rfl, H.out.ext⟩
set_option maxHeartbeats 1000000 in
theorem fold_any (s : ByteArray) (w : World) (hs : s.size ≤ 9223372036854775807) :
    Calls Tryd.prog 63 #[.string s] w fun e w' => e = .returned (.string (foldB s)) ∧ Ext w w' := by
  go_enter Tryd.func63, Tryd.ntmps63
  go_wp2_with fail
  go_loop [6] (fun v6 => ∃ k : Nat, k ≤ s.size ∧ v6 = .int .i64 (k : Int) ∧ Hid (∀ j (h : j < s.size), j < k → upB (s[j]'h) = s[j]'h)) (fun v6 => s.size - (intOf v6).toNat)
  case atStart => exact ⟨0, Nat.zero_le _, rfl, fun j _ h => by omega⟩
  case round =>
    obtain ⟨k, hk, rfl, H⟩ := hrel
    have hstep : ∀ hks : k < s.size, upB (s[k]'hks) = s[k]'hks → Hid (∀ j (h : j < s.size), j < k + 1 → upB (s[j]'h) = s[j]'h) := by
      intro hks hu j hj hjk
      by_cases h : j = k
      · subst h; exact hu
      · exact H.out j hj (by omega)
    by_cases hks : k < s.size
    · have HS := fun hu => hstep hks hu
      by_cases h97 : 97 ≤ (s[k]'hks).toNat
      · have g1 : (97 : Int) ≤ ((s[k]'hks).toNat : Int) := by omega
        by_cases h122 : (s[k]'hks).toNat ≤ 122
        · have g2 : ((s[k]'hks).toNat : Int) ≤ 122 := by omega
          have hfd := folded_any s w (by omega) hs
          clear HS hstep h97 h122
          go_wp2_with (go_at_call 80; (with_reducible refine hfd.mono ?_); rintro e w' ⟨rfl, hb⟩)
          exact bodyPost_ret (v := .string (foldB s)) (by simp [results, Tryd.results63, go_sem]) rfl ⟨rfl, hb⟩
        · have g2 : ¬ ((s[k]'hks).toNat : Int) ≤ 122 := by omega
          have HU := HS (upB_no (by omega))
          clear HS hstep h97 h122
          go_wp2_with fail
          exact ⟨⟨k + 1, by omega, by go_num, HU⟩, by simp [intOf]; omega⟩
      · have g1 : ¬ (97 : Int) ≤ ((s[k]'hks).toNat : Int) := by omega
        have HU := HS (upB_no (by omega))
        clear HS hstep h97
        go_wp2_with fail
        exact ⟨⟨k + 1, by omega, by go_num, HU⟩, by simp [intOf]; omega⟩
    · have hfs : Hid (foldB s = s) := by
        show _ = _
        have h1 : tl (foldB s) = tl s := by
          rw [tl_fold]
          conv => rhs; rw [← List.map_id (tl s)]
          apply List.map_congr_left
          intro b hb
          obtain ⟨j, hj, rfl⟩ := List.mem_iff_getElem.1 hb
          exact H.out j hj (by have : j < s.size := hj; omega)
        rw [tl_eq h1]
        cases s; simp [tl]
      have hks' : ¬ (k : Int) < (s.size : Int) := by omega
      clear hstep
      go_wp2_with fail
      exact bodyPost_ret (v := .string s) (by simp [results, Tryd.results63, go_sem]) rfl ⟨by rw [hfs.out], Ext.refl _⟩
end Go.Proofs.YtljgagjipamdeaaDoor
