/- What the rows' proofs lean on: the contracts of the functions that they reach, and plain facts (part M3). -/
import Derived.WalkKit
import Derived.WalkLawsBesides
import Derived.WalkSpells
import Derived.Outline
import Derived.Below
import Derived.Deep.RegionHeld3
import Derived.Deep.DeepCutAuto
import Derived.Deep.AppendLies
import Derived.Maps.AppendAt
import Derived.Lib.Hide
import Derived.OrdersHeld
import Derived.Test.YteigcfflljoioaaGreatDoorProg
import Derived.Shelf.Strings.Builder1
import Derived.Shelf.Strings.Builder2
import Derived.Shelf.Small.Bits
import Derived.Shelf.Small.Strs
import Derived.Shelf.Strings.BuilderF
import Derived.Shelf.Strconv.Itoa0
import Derived.Shelf.Strconv.Itoa1
import Derived.Shelf.LaysM
import Derived.Shelf.Strconv.Itoa2
import Derived.Shelf.Strings.Prefix
import Derived.Shelf.Bits.Mul64
import Derived.Shelf.Strings.Repeat
import Derived.Lib.ItoaMem
import Derived.Lib.OthersKept
import Derived.Deep.CutBlock
import Derived.Laws.Bits64b
import Derived.Lib.AppendZeros
import Derived.Lib.Bytealg
import Derived.Laws.RangeAny
import Derived.Test.YteigcfflljoioaaGreatDoorM2
set_option linter.unusedSimpArgs false
set_option linter.unusedVariables false
set_option maxRecDepth 100000
namespace Go.Proofs.YteigcfflljoioaaGreatDoor
open Go.RowKit NM
theorem sg_ng_ (ma mb : Int) : sg (ngB ma mb) (ma.natAbs * mb.natAbs) = ma * mb := by
  unfold ngB
  have h := sg_nat ma
  have h' := sg_nat mb
  cases ha : decide (ma < 0) <;> cases hb : decide (mb < 0) <;> rw [ha] at h <;> rw [hb] at h' <;> simp only [sg] at * <;> (conv => rhs; rw [← h, ← h']) <;> simp [Int.neg_mul, Int.mul_neg]
set_option maxHeartbeats 2000000 in
theorem rmul_any (ma ea mb eb : Int) (w : World) (hma : I64 ma) (hmb : I64 mb) :
    Calls Tryz.prog 105 #[NV ma ea, NV mb eb] w fun e w' => e = .returned (rnV (mulS ma ea mb eb)) ∧ Ext w w' := by
  by_cases h1 : Rt ma ea
  · have r1 := rtB_yes h1
    by_cases h2 : Rt mb eb
    · have r2 := rtB_yes h2
      have hs : mulS ma ea mb eb = rnd (!(decide (ma < 0) == decide (mb < 0))) (ma.natAbs * mb.natAbs) false (ea + eb) := by
        unfold mulS; rw [if_pos ⟨h1, h2⟩, ← sg_ng_, ← rnd_sg]; rfl
      rw [hs]
      obtain ⟨b1, b2, b3⟩ := Rt_bd h1
      obtain ⟨b4, b5, b6⟩ := Rt_bd h2
      have hT15 : T 15 = 1000000000000000 := by decide
      have n1 : nd ma.natAbs ≤ 15 := (nd_le_iff _ _).2 (by omega)
      have n2 : nd mb.natAbs ≤ 15 := (nd_le_iff _ _).2 (by omega)
      have hof1 := fun W => rof_any ma ea W hma
      have hof2 := fun W => rof_any mb eb W hmb
      have hpl := fun A B ca cb W h3 h4 => times_any (decide (ma < 0)) (decide (mb < 0)) A B ca cb (nd ma.natAbs) (nd mb.natAbs) (dig ma.natAbs) (dig mb.natAbs) ea eb W h3 h4 (dig_length _) (dig_length _) (by omega) (by omega) (dig_all _) (dig_all _) (by omega) (by omega)
      simp only [val_dig] at hpl
      have hL : nd ma.natAbs + nd mb.natAbs + 1 ≤ 1000 := by omega
      have hnr := fun (A : Option Addr) (cap : Nat) (l : List Nat) (W : World) (a1 : l.length = nd ma.natAbs + nd mb.natAbs + 1) (a2 : Rd 0 W A (i6 l)) (a3 : nd ma.natAbs + nd mb.natAbs + 1 ≤ cap) (a4 : AllD l) (a5 : val l = ma.natAbs * mb.natAbs) => near_any 0 (!(decide (ma < 0) == decide (mb < 0))) A (nd ma.natAbs + nd mb.natAbs + 1) cap l (ma.natAbs * mb.natAbs) (ea + eb) false W a1 a2 a3 hL a4 a5 (by omega) (Nat.zero_le _)
      generalize rnd (!(decide (ma < 0) == decide (mb < 0))) (ma.natAbs * mb.natAbs) false (ea + eb) = R at *
      generalize nd ma.natAbs + nd mb.natAbs + 1 = L at *
      generalize ma.natAbs * mb.natAbs = P at *
      clear h1 h2 n1 n2 hT15 hs
      generalize ma.natAbs = Na at *
      generalize mb.natAbs = Nb at *
      go_enter Tryz.func105, Tryz.ntmps105
      go_wp2_with (go_at_call 38; (with_reducible refine (rright_rt _ _ _ (by assumption)).mono ?_); rintro e w' ⟨rfl, hbr⟩; obtain ⟨osr, dr, rfl⟩ := hbr.more)
      refine wp_plan (S := Ext _) [(0, 0), (2, 0), (1, 1), (3, 1), (4, 1), (5, 1), (6, 0), (7, 0), (8, 2), (9, 2)] [8, 9] (by kernel_rfl) (by kernel_rfl) (by kernel_rfl) (fun _ _ d _ _ h => by cases d <;> exact h) (Ext.drew (Ext.refl _)) ?_
      iterate 2 ((refine wpPl_read (v := ?_) rfl ?_ (fun _ h => ?_) ?_; rotate_left 1; rfl; (obtain ⟨_, _, rfl⟩ := h.more; go_simp; try rfl)); try simp only [Act.put, zqA, zqB, zqC])
      (refine wpPl_eff rfl ?_ (fun K hK => ?_); rfl; go_simp; (go_at_call 64; (with_reducible refine (hof1 _).mono ?_); rintro e w' ⟨A1, c1, rfl, hrd1, hcp1, hx⟩; obtain ⟨os1, d1, rfl⟩ := hx.more; have hrd1 := hrd1.mono (Nat.zero_le _); (try simp only [more_more, more_drew, drew_more, Array.append_assoc] at hrd1)); refine hK _ _ ?_ ?_; (repeat (first | (with_reducible (first | exact Ext.refl _ | exact ext_d _ _ _ _ | exact ext_app _ _ _ _ _ | exact ext_app2 _ _ _ _ _ _ | exact ext_app3 _ _ _ _ _ _ _ | exact ext_app4 _ _ _ _ _ _ _ _ | exact ext_app5 _ _ _ _ _ _ _ _ _)) | ((with_reducible refine ext_suffix ⟨_, ?_⟩); (try simp only [Array.append_assoc]); rfl) | (with_reducible (first | apply Ext.drew | apply Ext.alloc | apply Ext.more_)) | apply Ext.drew | apply Ext.alloc | apply Ext.more_)))
      try simp only [Act.put, zqA, zqB, zqC]
      (refine wpPl_eff rfl ?_ (fun K hK => ?_); rfl; go_simp; (go_at_call 64; (with_reducible refine (hof2 _).mono ?_); rintro e w' ⟨A2, c2, rfl, hrd2, hcp2, hx⟩; obtain ⟨os2, d2, rfl⟩ := hx.more; have hrd2 := hrd2.mono (Nat.zero_le _); (try simp only [more_more, more_drew, drew_more, Array.append_assoc] at hrd2)); refine hK _ _ ?_ ?_; (repeat (first | (with_reducible (first | exact Ext.refl _ | exact ext_d _ _ _ _ | exact ext_app _ _ _ _ _ | exact ext_app2 _ _ _ _ _ _ | exact ext_app3 _ _ _ _ _ _ _ | exact ext_app4 _ _ _ _ _ _ _ _ | exact ext_app5 _ _ _ _ _ _ _ _ _)) | ((with_reducible refine ext_suffix ⟨_, ?_⟩); (try simp only [Array.append_assoc]); rfl) | (with_reducible (first | apply Ext.drew | apply Ext.alloc | apply Ext.more_)) | apply Ext.drew | apply Ext.alloc | apply Ext.more_)))
      try simp only [Act.put, zqA, zqB, zqC]
      (refine wpPl_eff rfl ?_ (fun K hK => ?_); rfl; go_simp; (go_at_call 147; (with_reducible refine (hpl _ _ _ _ _ (Rd.ext hrd1 (by (try simp only [more_more, more_drew, drew_more, Array.append_assoc]); repeat (first | (with_reducible (first | exact Ext.refl _ | exact ext_d _ _ _ _ | exact ext_app _ _ _ _ _ | exact ext_app2 _ _ _ _ _ _ | exact ext_app3 _ _ _ _ _ _ _)) | ((with_reducible refine ext_suffix ⟨_, ?_⟩); (try simp only [Array.append_assoc]); rfl) | (with_reducible (first | apply Ext.drew | apply Ext.alloc | apply Ext.more_))))) (Rd.ext hrd2 (by (try simp only [more_more, more_drew, drew_more, Array.append_assoc]); repeat (first | (with_reducible (first | exact Ext.refl _ | exact ext_d _ _ _ _ | exact ext_app _ _ _ _ _ | exact ext_app2 _ _ _ _ _ _ | exact ext_app3 _ _ _ _ _ _ _)) | ((with_reducible refine ext_suffix ⟨_, ?_⟩); (try simp only [Array.append_assoc]); rfl) | (with_reducible (first | apply Ext.drew | apply Ext.alloc | apply Ext.more_)))))).mono ?_); rintro e w' ⟨⟨A3, c3, X3, rfl, hrx3, hn3, ha3, hv3, hc3⟩, hx⟩; obtain ⟨os3, d3, rfl⟩ := hx.more; (try simp only [more_more, more_drew, drew_more, Array.append_assoc] at hrx3)); refine hK _ _ ?_ ?_; (repeat (first | (with_reducible (first | exact Ext.refl _ | exact ext_d _ _ _ _ | exact ext_app _ _ _ _ _ | exact ext_app2 _ _ _ _ _ _ | exact ext_app3 _ _ _ _ _ _ _ | exact ext_app4 _ _ _ _ _ _ _ _ | exact ext_app5 _ _ _ _ _ _ _ _ _)) | ((with_reducible refine ext_suffix ⟨_, ?_⟩); (try simp only [Array.append_assoc]); rfl) | (with_reducible (first | apply Ext.drew | apply Ext.alloc | apply Ext.more_)) | apply Ext.drew | apply Ext.alloc | apply Ext.more_)))
      try simp only [Act.put, zqA, zqB, zqC]
      (refine wpPl_eff rfl ?_ (fun K hK => ?_); rfl; go_simp; (go_at_call 62; (with_reducible refine (hnr _ _ _ _ hn3 (Rd.mono hrx3 (Nat.zero_le _)) hc3 ha3 hv3).mono ?_); rintro e w' ⟨rfl, hx⟩; obtain ⟨os4, d4, rfl⟩ := hx.more); refine hK _ _ ?_ ?_; (repeat (first | (with_reducible (first | exact Ext.refl _ | exact ext_d _ _ _ _ | exact ext_app _ _ _ _ _ | exact ext_app2 _ _ _ _ _ _ | exact ext_app3 _ _ _ _ _ _ _ | exact ext_app4 _ _ _ _ _ _ _ _ | exact ext_app5 _ _ _ _ _ _ _ _ _)) | ((with_reducible refine ext_suffix ⟨_, ?_⟩); (try simp only [Array.append_assoc]); rfl) | (with_reducible (first | apply Ext.drew | apply Ext.alloc | apply Ext.more_)) | apply Ext.drew | apply Ext.alloc | apply Ext.more_)))
      try simp only [Act.put, zqA, zqB, zqC]
      iterate 2 ((refine wpPl_read (v := ?_) rfl ?_ (fun _ h => ?_) ?_; rotate_left 1; rfl; (obtain ⟨_, _, rfl⟩ := h.more; go_simp; try rfl)); try simp only [Act.put, zqA, zqB, zqC])
      (refine wpPl_tail rfl ?_ (fun K hK => ?_); rfl; go_simp; refine hK _ _ ?_)
      try simp only [Act.put]
      (refine wpPl_tail rfl ?_ (fun K hK => ?_); rfl; go_simp; refine hK _ _ ?_)
      try simp only [Act.put, zqA, zqB, zqC]
      refine wpPl_nil ?_
      go_wp2
      exact bodyPost_ret (v := rnV R) (by simp [results, Tryz.results105, go_sem]) rfl ⟨rfl, by with_reducible repeat (first | exact Ext.refl _ | apply Ext.drew | apply Ext.alloc | apply Ext.more_)⟩
    · have r2 := rtB_no h2
      have hs : mulS ma ea mb eb = none := by unfold mulS; rw [if_neg (fun h => h2 h.2)]
      rw [hs]
      clear h1 h2 hs
      go_enter Tryz.func105, Tryz.ntmps105
      go_wp2_with (go_at_call 38; (with_reducible refine (rright_rt _ _ _ (by assumption)).mono ?_); rintro e w' ⟨rfl, hbr⟩; obtain ⟨osr, dr, rfl⟩ := hbr.more)
      exact bodyPost_ret (v := .tuple #[NV 0 0, .bool false]) (by simp [results, Tryz.results105, go_sem]) rfl ⟨rfl, by with_reducible repeat (first | exact Ext.refl _ | apply Ext.drew | apply Ext.alloc | apply Ext.more_)⟩
  · have r1 := rtB_no h1
    have hs : mulS ma ea mb eb = none := by unfold mulS; rw [if_neg (fun h => h1 h.1)]
    rw [hs]
    clear h1 hs
    go_enter Tryz.func105, Tryz.ntmps105
    go_wp2_with (go_at_call 38; (with_reducible refine (rright_rt _ _ _ (by assumption)).mono ?_); rintro e w' ⟨rfl, hbr⟩; obtain ⟨osr, dr, rfl⟩ := hbr.more)
    exact bodyPost_ret (v := .tuple #[NV 0 0, .bool false]) (by simp [results, Tryz.results105, go_sem]) rfl ⟨rfl, by with_reducible repeat (first | exact Ext.refl _ | apply Ext.drew | apply Ext.alloc | apply Ext.more_)⟩
theorem ldiv_step {v x Q : Nat} (hQ : 0 < Q) (hx : x < 10) : (10 * v + x) / Q = 10 * (v / Q) + (10 * (v % Q) + x) / Q ∧ (10 * v + x) % Q = (10 * (v % Q) + x) % Q ∧ (10 * (v % Q) + x) / Q < 10 := by
  have h2 := Nat.div_add_mod v Q
  have h3 := Nat.mod_lt v hQ
  generalize v / Q = q at *
  generalize v % Q = r at *
  have h4 : 10 * v + x = Q * (10 * q) + (10 * r + x) := by rw [← h2, Nat.mul_add, Nat.mul_left_comm]; omega
  refine ⟨by rw [h4, Nat.mul_add_div hQ], by rw [h4, Nat.mul_add_mod], ?_⟩
  rw [Nat.div_lt_iff_lt_mul hQ]; omega
def sliceA : Value → Option Addr
  | .slice A _ _ => A
  | _ => none
def sliceC : Value → Nat
  | .slice _ _ c => c
  | _ => 0
/-- What the long division has after i digits. -/
structure LSt (W : World) (X : List Nat) (Q i r : Nat) (v : Value) (O : List Nat) (wr : World) : Prop where
  own : wr.ownsRow W.heap.size 3 1 v O.length (i6 O)
  all : AllD O
  len : O.length = i
  value : val O = val (X.take i) / Q
  rest : r = val (X.take i) % Q
  ext : Ext W wr
set_option maxHeartbeats 4000000 in
theorem rdiv_yes (ma ea mb eb : Int) (w : World) (h1 : Rt ma ea) (h2 : Rt mb eb) (h3 : mb ≠ 0) :
    Calls Tryz.prog 106 #[NV ma ea, NV mb eb] w fun e w' => e = .returned (rnV (divR (ngB ma mb) ma.natAbs mb.natAbs (ea - eb))) ∧ Ext w w' := by
  obtain ⟨b1, b2, b3⟩ := Rt_bd h1
  obtain ⟨b4, b5, b6⟩ := Rt_bd h2
  have r1 := rtB_yes h1
  have r2 := rtB_yes h2
  have hma : I64 ma := by unfold I64; omega
  have hmb : I64 mb := by unfold I64; omega
  have h3' : (mb == 0) = false := by simp [h3]
  have hQ : 0 < mb.natAbs := by omega
  have hT15 : T 15 = 1000000000000000 := by decide
  have n1 : nd ma.natAbs ≤ 15 := (nd_le_iff _ _).2 (by omega)
  have hdi := fun W => rdigits ma W hma
  have hwi := fun A c W h => wide_any A (nd ma.natAbs) c 40 (dig ma.natAbs) W (dig_length _) h (by omega)
  simp only [show ((40 : Nat) : Int) = 40 from rfl] at hwi
  have hXl : (dig ma.natAbs ++ List.replicate 40 0).length = nd ma.natAbs + 40 := by simp [dig_length]
  have hXv : val (dig ma.natAbs ++ List.replicate 40 0) = ma.natAbs * T 40 := by rw [val_zeros, val_dig]
  have hXa : AllD (dig ma.natAbs ++ List.replicate 40 0) := (dig_all _).append (AllD.rep _ _ (by omega))
  generalize dig ma.natAbs ++ List.replicate 40 0 = X at *
  unfold divR ngB
  have hpq : ∀ Q : Nat, mb.natAbs = Q → (mb < 0 → -mb = (Q : Int)) ∧ (0 ≤ mb → mb = (Q : Int)) := by intro Q hq; omega
  generalize ma.natAbs * T 40 = PT at *
  generalize hLn : nd ma.natAbs + 40 = Ln at *
  have hLn2 : Ln ≤ 100 := by omega
  obtain ⟨hp1, hp2⟩ := hpq _ rfl
  generalize mb.natAbs = Q at *
  clear hpq h1 h2 h3 hT15 hLn
  generalize hRR : rnd (!(decide (ma < 0) == decide (mb < 0))) (PT / Q) (decide (PT % Q ≠ 0)) (ea - eb - 40) = R
  have HRR := Lib.hid hRR
  have HXL := Lib.hid hXl
  have HXV := Lib.hid hXv
  have HXA := Lib.hid hXa
  have HP1 := Lib.hid hp1
  have HP2 := Lib.hid hp2
  clear hRR hXl hXv hXa hp1 hp2
  have hQ0 : ((Q : Int) == 0) = false := by simp; omega
  have hQ1 : (Q == 0) = false := by simp; omega
  have hQne : ¬ Q = 0 := by omega
  obtain ⟨i0, hi, hz0', hz1', hz2'⟩ := info_parts info_int_
  go_enter Tryz.func106, Tryz.ntmps106
  go_upto_region 3 with (go_at_call 38; (with_reducible refine (rright_rt _ _ _ (by assumption)).mono ?_); rintro e w' ⟨rfl, hbr⟩; obtain ⟨osr, dr, rfl⟩ := hbr.more)
  refine wp_world fun W hW => ?_
  have c0 : W.cell? ⟨w.heap.size, 0, none⟩ = some (.int .i64 ma) := by rw [hW]; go_simp
  have c1 : W.cell? ⟨w.heap.size, 1, none⟩ = some (.int .i64 ea) := by rw [hW]; go_simp
  have c2 : W.cell? ⟨w.heap.size + 1, 0, none⟩ = some (.int .i64 mb) := by rw [hW]; go_simp
  have c3 : W.cell? ⟨w.heap.size + 1, 1, none⟩ = some (.int .i64 eb) := by rw [hW]; go_simp
  have c4 : W.cell? ⟨w.heap.size + 1 + 1, 0, none⟩ = some (.int .i64 0) := by rw [hW]; go_simp
  have c5 : W.cell? ⟨w.heap.size + 1 + 1, 1, none⟩ = some (.int .i64 0) := by rw [hW]; go_simp
  have f4 : W.frozen? ⟨w.heap.size + 1 + 1, 0, none⟩ = false := by rw [hW]; go_simp
  have f5 : W.frozen? ⟨w.heap.size + 1 + 1, 1, none⟩ = false := by rw [hW]; go_simp
  have hz : w.heap.size + 1 + 1 < W.heap.size := by rw [hW]; simp; try omega
  have hz1 : w.heap.size + 1 < W.heap.size := by omega
  have hz0 : w.heap.size < W.heap.size := by omega
  have hxW : Ext w W := by rw [hW]; exact by with_reducible repeat (first | exact Ext.refl _ | apply Ext.drew | apply Ext.alloc | apply Ext.more_)
  clear hW
  go_upto_if 28 with fail
  go_cut [6] (fun s6 wx => s6 = .int .i64 (Q : Int) ∧ wx = W)
  case first =>
    by_cases hng : mb < 0
    · have HE := Lib.hid (HP1.out hng)
      have w1 : wrap64 (-mb) = -mb := by have := HP1.out hng; exact IntWalk.wrap64_in _ (by omega)
      go_wp2
      go_meet
      exact ⟨by first | rw [w1, HE.out] | rw [HE.out], rfl⟩
    · have HE := Lib.hid (HP2.out (by omega))
      go_wp2
      go_meet
      exact ⟨by rw [← HE.out], rfl⟩
  case rest =>
  obtain ⟨rfl, rfl⟩ := hcut
  go_upto_region 9 with (first | (go_at_call 63; (with_reducible refine (hdi _).mono ?_); rintro e w' ⟨A1, k1, rfl, hr1, hk1, hx1⟩; obtain ⟨os1, d1, rfl⟩ := hx1.more) | (go_at_call 148; (with_reducible refine (hwi _ _ _ (Rd.mono hr1 (Nat.zero_le _))).mono ?_); rintro e w' ⟨v2, rfl, ho2, hx2⟩; obtain ⟨os2, d2, rfl⟩ := hx2.more))
  refine wp_world fun W2 hW2 => ?_
  have hx12 : Ext wc W2 := by rw [hW2]; exact by with_reducible repeat (first | exact Ext.refl _ | apply Ext.drew | apply Ext.alloc | apply Ext.more_)
  have hrx : Rd 0 W2 (sliceA v2) (i6 X) ∧ v2 = .slice (sliceA v2) Ln (sliceC v2) := by
    obtain ⟨A, c, rfl, hd, _⟩ := Dg.of_own (l := X) (k := .i64) ho2
    refine ⟨by rw [hW2, ← more_more]; exact hd.rd.mono (Nat.zero_le _), by rw [HXL.out]; rfl⟩
  clear hW2 ho2 hx1 hx2 hr1 hdi hwi
  obtain ⟨hrx, hv2⟩ := hrx
  generalize sliceA v2 = AX at *
  generalize sliceC v2 = CX at *
  subst hv2
  have HRX := Lib.hid hrx
  clear hrx
  have HL0 : Hid (LSt W2 X Q 0 0 (.slice none 0 0) [] W2) := ⟨World.ownsRow_nil _ _ _ _, AllD.nil, rfl, by simp [val_nil], by simp [val_nil], Ext.refl _⟩
  have c0 := hx12.cell_some c0
  have c1 := hx12.cell_some c1
  have c2 := hx12.cell_some c2
  have c3 := hx12.cell_some c3
  have c4 := hx12.cell_some c4
  have c5 := hx12.cell_some c5
  have f4 := (hx12.frozen (p := ⟨w.heap.size + 1 + 1, 0, none⟩) hz).trans f4
  have f5 := (hx12.frozen (p := ⟨w.heap.size + 1 + 1, 1, none⟩) hz).trans f5
  have hs12 := hx12.size
  have hz : w.heap.size + 1 + 1 < W2.heap.size := by omega
  have hz1 : w.heap.size + 1 < W2.heap.size := by omega
  have hz0 : w.heap.size < W2.heap.size := by omega
  have hxW := hxW.trans hx12
  go_wp2
  go_loopw [8, 9, 10] (fun a v i wr => ∃ (j r : Nat) (O : List Nat), j ≤ Ln ∧ r < Q ∧ i = .int .i64 (j : Int) ∧ a = .int .i64 (r : Int) ∧ Hid (LSt W2 X Q j r v O wr)) (fun _ _ i _ => Ln - (intOf i).toNat)
  case atStart => exact ⟨0, 0, [], Nat.zero_le _, hQ, rfl, rfl, HL0⟩
  case round =>
    obtain ⟨j, r, O, hj, hr, rfl, rfl, H⟩ := hrel
    have hxr := H.out.ext
    have hsz := hxr.size
    have hOl := H.out.len
    by_cases hlt : j < Ln
    · obtain ⟨x, hxj⟩ : ∃ x, X[j]? = some x := ⟨X[j]'(by have := HXL.out; omega), by rw [List.getElem?_eq_getElem]⟩
      have hx10 := HXA.out.at hxj
      obtain ⟨bx, ox, rfl, _, hcx⟩ := Rd.at_ (HRX.out.ext hxr) hxj
      have hst := ldiv_step (v := val (X.take j)) (x := x) hQ hx10
      rw [← H.out.rest, ← H.out.value, ← val_snoc, ← take_at hxj] at hst
      have HST := Lib.hid hst
      clear hst hxj
      have t1 : (10 : Int) * (r : Int) + (x : Int) = ((10 * r + x : Nat) : Int) := by omega
      have hnb : 10 * r + x < 100000000000000000 := by omega
      have hd10 : (10 * r + x) / Q < 10 := HST.out.2.2
      have hr2 : (10 * r + x) % Q < Q := Nat.mod_lt _ hQ
      generalize 10 * r + x = nn at *
      have t2 : (nn : Int).tdiv (Q : Int) = ((nn / Q : Nat) : Int) := rfl
      have t3 : (nn : Int).tmod (Q : Int) = ((nn % Q : Nat) : Int) := rfl
      have t2' : (nn : Int) / (Q : Int) = ((nn / Q : Nat) : Int) := rfl
      have t3' : (nn : Int) % (Q : Int) = ((nn % Q : Nat) : Int) := rfl
      generalize nn / Q = dd at *
      generalize nn % Q = rr at *
      have w1 : IntKind.i64.wrap (nn : Int) = nn := i64w (by omega) (by omega)
      have w2 : IntKind.i64.wrap (dd : Int) = dd := i64w (by omega) (by omega)
      have w3 : IntKind.i64.wrap (rr : Int) = rr := i64w (by omega) (by omega)
      go_wp2_with (at_builtin; refine wpList_append_own _ rfl _ _ _ rfl W2.heap.size 3 i0 (.int .i64 0) 1 8 Tryz.underlying94 hi hz0' hz1' hz2' rfl (by decide) _ O.length (i6 O) rfl (own_allocT H.out.own _) _ 1 1 [.int .i64 (dd : Int)] rfl rfl (Rd.one_ _ _ (by simp)).add (one_i6 [dd]) (by simp [maxLen]; omega) (by omega) (by simp; omega) ?_; intro v3 w3' ho3 hg3 _)
      have hx3 := ext_grown (hxr.alloc _) (own_allocT H.out.own _) hg3
      refine ⟨⟨j + 1, rr, O ++ [dd], by omega, hr2, by go_num, rfl, ⟨?_, H.out.all.append (AllD.cons hd10 AllD.nil), by simp; omega, ?_, ?_, hx3⟩⟩, by simp [intOf]; omega⟩
      · unfold i6; rw [List.map_append]; simpa using ho3
      · rw [val_snoc]; exact HST.out.1.symm
      · exact HST.out.2.1.symm
    · obtain rfl : j = Ln := by omega
      obtain ⟨os, d, rfl⟩ := hxr.more
      obtain ⟨Ao, co, rfl, hdo, _⟩ := Dg.of_own (l := O) (k := .i64) H.out.own
      have hNv : val O = PT / Q := by
        have := H.out.value
        rw [List.take_of_length_le (by have := HXL.out; omega), HXV.out] at this
        exact this
      have hNr : r = PT % Q := by
        have := H.out.rest
        rw [List.take_of_length_le (by have := HXL.out; omega), HXV.out] at this
        exact this
      have hnr := near_any 0 (!(decide (ma < 0) == decide (mb < 0))) Ao O.length co O (PT / Q) (ea - eb - 40) (decide (PT % Q ≠ 0)) (more W2 os d) rfl (hdo.rd.mono (Nat.zero_le _)) hdo.1 (by omega) H.out.all hNv (by omega) (Nat.zero_le _)
      rw [HRR.out, ← hNr, hOl] at hnr
      have hb1 : (!((r : Int) == 0)) = decide (r ≠ 0) := by by_cases h0 : r = 0 <;> simp [h0]
      have hb2 : ((r : Int) != 0) = decide (r ≠ 0) := by by_cases h0 : r = 0 <;> simp [h0]
      have hb3 : (!(r == 0)) = decide (r ≠ 0) := by by_cases h0 : r = 0 <;> simp [h0]
      generalize decide (r ≠ 0) = mm at *
      have w1 : IntKind.i64.wrap (ea - eb) = ea - eb := i64w (by omega) (by omega)
      have w2 : IntKind.i64.wrap (ea - eb - 40) = ea - eb - 40 := i64w (by omega) (by omega)
      clear hNv hNr hdo H
      go_wp2_with (go_at_call 62; (with_reducible refine hnr.mono ?_); rintro e w' ⟨rfl, hx⟩; obtain ⟨os9, d9, rfl⟩ := hx.more)
      exact bodyPost_ret (v := rnV R) (by simp [results, Tryz.results106, go_sem, c4, c5, hz]) rfl ⟨rfl, ((hxW.set _ (by show w.heap.size ≤ w.heap.size + 1 + 1; omega)).set _ (by show w.heap.size ≤ w.heap.size + 1 + 1; omega)).more_ _ _⟩
set_option maxHeartbeats 2000000 in
theorem rdiv_any (ma ea mb eb : Int) (w : World) (hma : I64 ma) (hmb : I64 mb) :
    Calls Tryz.prog 106 #[NV ma ea, NV mb eb] w fun e w' => e = .returned (rnV (divS ma ea mb eb)) ∧ Ext w w' := by
  unfold divS
  by_cases h1 : Rt ma ea
  · have r1 := rtB_yes h1
    by_cases h2 : Rt mb eb
    · have r2 := rtB_yes h2
      by_cases h3 : mb = 0
      · rw [if_neg (fun h => h.2.2 h3)]
        have h4 : (mb == 0) = true := by simp [h3]
        clear h1 h2 h3
        go_enter Tryz.func106, Tryz.ntmps106
        go_wp2_with (go_at_call 38; (with_reducible refine (rright_rt _ _ _ (by assumption)).mono ?_); rintro e w' ⟨rfl, hbr⟩; obtain ⟨osr, dr, rfl⟩ := hbr.more)
        exact bodyPost_ret (v := .tuple #[NV 0 0, .bool false]) (by simp [results, Tryz.results106, go_sem]) rfl ⟨rfl, by with_reducible repeat (first | exact Ext.refl _ | apply Ext.drew | apply Ext.alloc | apply Ext.more_)⟩
      · rw [if_pos ⟨h1, h2, h3⟩]
        exact rdiv_yes ma ea mb eb w h1 h2 h3
    · have r2 := rtB_no h2
      rw [if_neg (fun h => h2 h.2.1)]
      clear h1 h2
      go_enter Tryz.func106, Tryz.ntmps106
      go_wp2_with (go_at_call 38; (with_reducible refine (rright_rt _ _ _ (by assumption)).mono ?_); rintro e w' ⟨rfl, hbr⟩; obtain ⟨osr, dr, rfl⟩ := hbr.more)
      exact bodyPost_ret (v := .tuple #[NV 0 0, .bool false]) (by simp [results, Tryz.results106, go_sem]) rfl ⟨rfl, by with_reducible repeat (first | exact Ext.refl _ | apply Ext.drew | apply Ext.alloc | apply Ext.more_)⟩
  · have r1 := rtB_no h1
    rw [if_neg (fun h => h1 h.1)]
    clear h1
    go_enter Tryz.func106, Tryz.ntmps106
    go_wp2_with (go_at_call 38; (with_reducible refine (rright_rt _ _ _ (by assumption)).mono ?_); rintro e w' ⟨rfl, hbr⟩; obtain ⟨osr, dr, rfl⟩ := hbr.more)
    exact bodyPost_ret (v := .tuple #[NV 0 0, .bool false]) (by simp [results, Tryz.results106, go_sem]) rfl ⟨rfl, by with_reducible repeat (first | exact Ext.refl _ | apply Ext.drew | apply Ext.alloc | apply Ext.more_)⟩
end Go.Proofs.YteigcfflljoioaaGreatDoor
namespace Go.Proofs.YteigcfflljoioaaGreatDoor
open Go.RowKit NM
/-- a, n times a factor. -/
def powN (m e : Int) : Nat → Option (Int × Int)
  | 0 => some (1, 0)
  | n + 1 => (powN m e n).bind fun p => mulS p.1 p.2 m e
/-- P1.2's power. -/
def powS (m e n : Int) : Option (Int × Int) :=
  if ¬ Rt m e ∨ n < -1000 ∨ 1000 < n then none
  else if n < 0 then (powN m e (-n).toNat).bind fun p => divS 1 0 p.1 p.2
  else powN m e n.toNat
theorem mul_rt {ma ea mb eb : Int} {p : Int × Int} (h : mulS ma ea mb eb = some p) : Rt p.1 p.2 := by
  unfold mulS at h
  split at h
  · exact rnd_right h
  · cases h
theorem pow_rt {m e : Int} : ∀ {n : Nat} {p : Int × Int}, powN m e n = some p → Rt p.1 p.2
  | 0, p, h => by cases h; exact rt_one
  | n + 1, p, h => by
    rw [powN] at h
    cases hp : powN m e n with
    | none => rw [hp] at h; cases h
    | some q => rw [hp] at h; exact mul_rt h
theorem pow_step {m e : Int} {n : Nat} {p : Int × Int} (h : powN m e n = some p) : powN m e (n + 1) = mulS p.1 p.2 m e := by rw [powN, h]; rfl
theorem pow_none {m e : Int} {n : Nat} (h : powN m e n = none) : ∀ k, powN m e (n + k) = none
  | 0 => h
  | k + 1 => by rw [← Nat.add_assoc, powN, pow_none h k]; rfl
theorem Rt_i64 {m e : Int} (h : Rt m e) : I64 m ∧ I64 e := by
  obtain ⟨b1, b2, b3⟩ := Rt_bd h
  unfold I64; omega
/-- A variable of type Num in block p. -/
def PV (w : World) (p : Nat) (m e : Int) : Prop := w.heap[p]? = some (.cells #[.int .i64 m, .int .i64 e] 24 (0, 0))
theorem PV.c0 {w : World} {p : Nat} {m e : Int} (h : PV w p m e) : w.cell? ⟨p, 0, none⟩ = some (.int .i64 m) := by rw [cell_of_row w p 0 _ _ (0, 0) h]; rfl
theorem PV.c1 {w : World} {p : Nat} {m e : Int} (h : PV w p m e) : w.cell? ⟨p, 1, none⟩ = some (.int .i64 e) := by rw [cell_of_row w p 1 _ _ (0, 0) h]; rfl
theorem PV.fz {w : World} {p : Nat} {m e : Int} (h : PV w p m e) (o : Nat) : w.frozen? ⟨p, o, none⟩ = false := frozen_of_row w p o _ _ h
theorem PV.lt {w : World} {p : Nat} {m e : Int} (h : PV w p m e) : p < w.heap.size := lt_block h
theorem PV.ext {w w' : World} {p : Nat} {m e : Int} (h : PV w p m e) (hx : Ext w w') : PV w' p m e := by unfold PV; rw [hx.block h.lt]; exact h
theorem PV.set {w : World} {p : Nat} {m e : Int} (h : PV w p m e) (m' e' : Int) : PV ((w.setCell ⟨p, 0, none⟩ (.int .i64 m')).setCell ⟨p, 1, none⟩ (.int .i64 e')) p m' e' := by
  have h1 := heap_setCell_same w p 0 _ _ (.int .i64 m') h
  have h2 := heap_setCell_same _ p 1 _ _ (.int .i64 e') h1
  exact h2
theorem PV.new {w : World} {n : Nat} (m e : Int) (hn : n = w.heap.size) : PV (w.alloc (.cells #[.int .i64 m, .int .i64 e] 24)) n m e := by subst hn; exact Array.getElem?_push_size
set_option maxHeartbeats 4000000 in
theorem pow_pos (m ex : Int) (n : Nat) (w : World) (htab : Tab w) (h : Rt m ex) (hn : n ≤ 1000) :
    Calls Tryz.prog 140 #[NV m ex, .int .i64 (n : Int)] w fun e w' => e = .returned (rnV (powN m ex n)) ∧ Ext w w' := by
  have r1 := rtB_yes h
  obtain ⟨hm, he⟩ := Rt_i64 h
  generalize hRR : powN m ex n = R
  have HRR := Lib.hid hRR
  have HT := Lib.hid htab
  have HR := Lib.hid h
  clear hRR htab h
  have hn1 : ¬ ((n : Int) < -1000) := by omega
  have hn2 : ¬ (1000 < (n : Int)) := by omega
  have hn3 : ¬ ((n : Int) < 0) := by omega
  go_enter Tryz.func140, Tryz.ntmps140
  go_upto_region 9 with (go_at_call 111; (with_reducible refine (right_rt _ _ _ (by assumption)).mono ?_); rintro e w' ⟨rfl, hbr⟩; obtain ⟨osr, dr, rfl⟩ := hbr.more)
  refine wp_world fun W hW => ?_
  have c0 : W.cell? ⟨w.heap.size, 0, none⟩ = some (.int .i64 m) := by rw [hW]; go_simp
  have c1 : W.cell? ⟨w.heap.size, 1, none⟩ = some (.int .i64 ex) := by rw [hW]; go_simp
  have c2 : W.cell? ⟨w.heap.size + 1, 0, none⟩ = some (.int .i64 0) := by rw [hW]; go_simp
  have c3 : W.cell? ⟨w.heap.size + 1, 1, none⟩ = some (.int .i64 0) := by rw [hW]; go_simp
  have f2 : W.frozen? ⟨w.heap.size + 1, 0, none⟩ = false := by rw [hW]; go_simp
  have f3 : W.frozen? ⟨w.heap.size + 1, 1, none⟩ = false := by rw [hW]; go_simp
  have o0 : W.cell? ⟨w.heap.size + 1 + 1 + osr.size, 0, none⟩ = some (.int .i64 1) := by rw [hW]; go_simp
  have o1 : W.cell? ⟨w.heap.size + 1 + 1 + osr.size, 1, none⟩ = some (.int .i64 0) := by rw [hW]; go_simp
  have hz1 : w.heap.size + 1 < W.heap.size := by rw [hW]; simp; try omega
  have hz0 : w.heap.size < W.heap.size := by omega
  have hxW : Ext w W := by rw [hW]; exact by with_reducible repeat (first | exact Ext.refl _ | apply Ext.drew | apply Ext.alloc | apply Ext.more_)
  clear hW hbr
  have hPV : PV (W.alloc (.cells #[.int .i64 1, .int .i64 0] 24)) W.heap.size 1 0 := PV.new 1 0 rfl
  have HPV := Lib.hid hPV
  clear hPV
  go_wp2
  go_loopw [44] (fun i wr => ∃ (j : Nat) (p : Int × Int), j ≤ n ∧ i = .int .i64 (j : Int) ∧ Hid (PV wr W.heap.size p.1 p.2) ∧ Hid (powN m ex j = some p) ∧ Ext W wr) (fun i _ => n - (intOf i).toNat)
  case atStart => exact ⟨0, (1, 0), Nat.zero_le _, rfl, HPV, by show _ = _; rfl, (Ext.refl _).alloc _⟩
  case round =>
    obtain ⟨j, p, hj, rfl, HP, HJ, hxr⟩ := hrel
    have p0 := HP.out.c0
    have p1 := HP.out.c1
    have pf0 := HP.out.fz 0
    have pf1 := HP.out.fz 1
    have plt := HP.out.lt
    have hsz := hxr.size
    have c0' := hxr.cell_some c0
    have c1' := hxr.cell_some c1
    have hz1' : w.heap.size + 1 < wr.heap.size := by omega
    have hz0' : w.heap.size < wr.heap.size := by omega
    by_cases hlt : j < n
    · have hst := pow_step HJ.out
      have hmu := mul_any p.1 p.2 m ex wr ((HT.out.ext hxW).ext hxr) (Rt_i64 (pow_rt HJ.out)).1 hm
      rw [← hst] at hmu
      cases hq : powN m ex (j + 1) with
      | none =>
        rw [hq] at hmu
        have HN : Hid (R = none) := by
          show _ = _
          have := pow_none hq (n - (j + 1))
          rw [show j + 1 + (n - (j + 1)) = n by omega] at this
          rw [← HRR.out, this]
        have c2' := hxr.cell_some c2
        have c3' := hxr.cell_some c3
        have f2' := (hxr.frozen (p := ⟨w.heap.size + 1, 0, none⟩) hz1).trans f2
        have f3' := (hxr.frozen (p := ⟨w.heap.size + 1, 1, none⟩) hz1).trans f3
        clear hst hq
        go_wp2_with (go_at_call 79; (with_reducible refine hmu.mono ?_); rintro e w' ⟨rfl, hx⟩; obtain ⟨os2, d2, rfl⟩ := hx.more)
        refine bodyPost_ret (v := .tuple #[NV 0 0, .bool false]) (by simp [results, Tryz.results140, go_sem, hz1', c2', c3']) rfl ⟨?_, ((((hxW.trans hxr).set _ (Nat.le_succ _)).set _ (Nat.le_succ _)).more_ _ _).alloc _⟩
        rw [HN.out]; rfl
      | some q =>
        rw [hq] at hmu
        have HQ := Lib.hid hq
        clear hst hq
        go_wp2_with (go_at_call 79; (with_reducible refine hmu.mono ?_); rintro e w' ⟨rfl, hx⟩; obtain ⟨os2, d2, rfl⟩ := hx.more)
        exact ⟨⟨j + 1, q, by omega, by go_num, (((HP.out.set q.1 q.2).ext (ext_more _ os2 d2)).ext ((Ext.refl _).alloc _)), HQ, ((((hxr.set _ (Nat.le_refl _)).set _ (Nat.le_refl _)).more_ _ _).alloc _)⟩, by simp [intOf]; omega⟩
    · obtain rfl : j = n := by omega
      have HN : Hid (R = some p) := by show _ = _; rw [← HRR.out, HJ.out]
      have c2' := hxr.cell_some c2
      have c3' := hxr.cell_some c3
      have f2' := (hxr.frozen (p := ⟨w.heap.size + 1, 0, none⟩) hz1).trans f2
      have f3' := (hxr.frozen (p := ⟨w.heap.size + 1, 1, none⟩) hz1).trans f3
      go_wp2
      refine bodyPost_ret (v := .tuple #[NV p.1 p.2, .bool true]) (by simp [results, Tryz.results140, go_sem, hz1', c2', c3']) rfl ⟨?_, ((hxW.trans hxr).set _ (Nat.le_succ _)).set _ (Nat.le_succ _)⟩
      rw [HN.out]; rfl
set_option maxHeartbeats 4000000 in
theorem pow_any (m ex n : Int) (w : World) (htab : Tab w) (hm : I64 m) (hn : I64 n) :
    Calls Tryz.prog 140 #[NV m ex, .int .i64 n] w fun e w' => e = .returned (rnV (powS m ex n)) ∧ Ext w w' := by
  by_cases h : Rt m ex
  · have r1 := rtB_yes h
    by_cases h1 : n < -1000
    · have hs : powS m ex n = none := by unfold powS; rw [if_pos (Or.inr (Or.inl h1))]
      rw [hs]
      clear hs h
      go_enter Tryz.func140, Tryz.ntmps140
      go_wp2_with (go_at_call 111; (with_reducible refine (right_rt _ _ _ (by assumption)).mono ?_); rintro e w' ⟨rfl, hbr⟩; obtain ⟨osr, dr, rfl⟩ := hbr.more)
      exact bodyPost_ret (v := .tuple #[NV 0 0, .bool false]) (by simp [results, Tryz.results140, go_sem]) rfl ⟨rfl, by with_reducible repeat (first | exact Ext.refl _ | apply Ext.drew | apply Ext.alloc | apply Ext.more_)⟩
    · by_cases h2 : 1000 < n
      · have hs : powS m ex n = none := by unfold powS; rw [if_pos (Or.inr (Or.inr h2))]
        rw [hs]
        clear hs h
        go_enter Tryz.func140, Tryz.ntmps140
        go_wp2_with (go_at_call 111; (with_reducible refine (right_rt _ _ _ (by assumption)).mono ?_); rintro e w' ⟨rfl, hbr⟩; obtain ⟨osr, dr, rfl⟩ := hbr.more)
        exact bodyPost_ret (v := .tuple #[NV 0 0, .bool false]) (by simp [results, Tryz.results140, go_sem]) rfl ⟨rfl, by with_reducible repeat (first | exact Ext.refl _ | apply Ext.drew | apply Ext.alloc | apply Ext.more_)⟩
      · by_cases h3 : n < 0
        · obtain ⟨k, hk⟩ : ∃ k : Nat, -n = (k : Int) := ⟨(-n).toNat, by omega⟩
          have hs : powS m ex n = (powN m ex k).bind fun p => divS 1 0 p.1 p.2 := by
            unfold powS; rw [if_neg (by rintro (h4 | h4 | h4); exact h4 h; omega; omega), if_pos h3, hk]; rfl
          have hpp := fun W hW => pow_pos m ex k W hW h (by omega)
          have hdv := fun W hW (p : Int × Int) (hp : powN m ex k = some p) => div_any 1 0 p.1 p.2 W hW (Rt_i64 rt_one).1 (Rt_i64 (pow_rt hp)).1
          have w1 : wrap64 (-n) = -n := IntWalk.wrap64_in _ (by omega)
          have HT := Lib.hid htab
          rw [hs]
          cases hp : powN m ex k with
          | none =>
            rw [hp] at hpp
            clear hs h hdv hp htab
            go_enter Tryz.func140, Tryz.ntmps140
            go_wp2_with (first | (go_at_call 111; (with_reducible refine (right_rt _ _ _ (by assumption)).mono ?_); rintro e w' ⟨rfl, hbr⟩; obtain ⟨osr, dr, rfl⟩ := hbr.more) | (go_at_call 140; (with_reducible refine (hpp _ (HT.out.ext (by with_reducible repeat (first | exact Ext.refl _ | apply Ext.drew | apply Ext.alloc | apply Ext.more_)))).mono ?_); rintro e w' ⟨rfl, hx⟩; obtain ⟨os2, d2, rfl⟩ := hx.more))
            exact bodyPost_ret (v := .tuple #[NV 0 0, .bool false]) (by simp [results, Tryz.results140, go_sem]) rfl ⟨rfl, by with_reducible repeat (first | exact Ext.refl _ | apply Ext.drew | apply Ext.alloc | apply Ext.more_)⟩
          | some p =>
            have hd := fun W hW => hdv W hW p hp
            rw [hp] at hpp
            show Calls _ _ _ _ fun e w' => e = .returned (rnV (divS 1 0 p.1 p.2)) ∧ Ext w w'
            generalize divS 1 0 p.1 p.2 = R at *
            clear hs h hdv hp htab
            go_enter Tryz.func140, Tryz.ntmps140
            go_wp2_with (first | (go_at_call 111; (with_reducible refine (right_rt _ _ _ (by assumption)).mono ?_); rintro e w' ⟨rfl, hbr⟩; obtain ⟨osr, dr, rfl⟩ := hbr.more) | (go_at_call 140; (with_reducible refine (hpp _ (HT.out.ext (by with_reducible repeat (first | exact Ext.refl _ | apply Ext.drew | apply Ext.alloc | apply Ext.more_)))).mono ?_); rintro e w' ⟨rfl, hx⟩; obtain ⟨os2, d2, rfl⟩ := hx.more) | (go_at_call 60; refine (hd _ (HT.out.ext (by with_reducible repeat (first | exact Ext.refl _ | apply Ext.drew | apply Ext.alloc | apply Ext.more_)))).mono ?_; rintro e w' ⟨rfl, hx⟩; obtain ⟨os3, d3, rfl⟩ := hx.more))
            exact bodyPost_ret (v := rnV R) (by simp [results, Tryz.results140, go_sem]) rfl ⟨rfl, by with_reducible repeat (first | exact Ext.refl _ | apply Ext.drew | apply Ext.alloc | apply Ext.more_)⟩
        · obtain ⟨k, rfl⟩ : ∃ k : Nat, n = (k : Int) := ⟨n.toNat, by omega⟩
          have hs : powS m ex (k : Int) = powN m ex k := by
            unfold powS; rw [if_neg (by rintro (h4 | h4 | h4); exact h4 h; omega; omega), if_neg h3]; rfl
          rw [hs]
          exact pow_pos m ex k w htab h (by omega)
  · have r1 := rtB_no h
    have hs : powS m ex n = none := by unfold powS; rw [if_pos (Or.inl h)]
    rw [hs]
    clear hs h
    go_enter Tryz.func140, Tryz.ntmps140
    go_wp2_with (go_at_call 111; (with_reducible refine (right_rt _ _ _ (by assumption)).mono ?_); rintro e w' ⟨rfl, hbr⟩; obtain ⟨osr, dr, rfl⟩ := hbr.more)
    exact bodyPost_ret (v := .tuple #[NV 0 0, .bool false]) (by simp [results, Tryz.results140, go_sem]) rfl ⟨rfl, by with_reducible repeat (first | exact Ext.refl _ | apply Ext.drew | apply Ext.alloc | apply Ext.more_)⟩
set_option maxHeartbeats 4000000 in
theorem rpow_yes (m ex n : Int) (k : Nat) (w : World) (h : Rt m ex) (hn1 : ¬ n < -1000) (hn2 : ¬ 1000 < n) (hk : k = n.natAbs) :
    Calls Tryz.prog 107 #[NV m ex, .int .i64 n] w fun e w' => e = .returned (rnV (if n < 0 then (powN m ex k).bind fun p => divS 1 0 p.1 p.2 else powN m ex k)) ∧ Ext w w' := by
  have r1 := rtB_yes h
  obtain ⟨hm, he⟩ := Rt_i64 h
  generalize hRR : (if n < 0 then (powN m ex k).bind fun p => divS 1 0 p.1 p.2 else powN m ex k) = R
  have HRR := Lib.hid hRR
  have HR := Lib.hid h
  have HK := Lib.hid hk
  have hkb : k ≤ 1000 := by omega
  clear hRR h hk
  go_enter Tryz.func107, Tryz.ntmps107
  go_upto_region 3 with (go_at_call 38; (with_reducible refine (rright_rt _ _ _ (by assumption)).mono ?_); rintro e w' ⟨rfl, hbr⟩; obtain ⟨osr, dr, rfl⟩ := hbr.more)
  refine wp_world fun W hW => ?_
  have c0 : W.cell? ⟨w.heap.size, 0, none⟩ = some (.int .i64 m) := by rw [hW]; go_simp
  have c1 : W.cell? ⟨w.heap.size, 1, none⟩ = some (.int .i64 ex) := by rw [hW]; go_simp
  have c2 : W.cell? ⟨w.heap.size + 1, 0, none⟩ = some (.int .i64 0) := by rw [hW]; go_simp
  have c3 : W.cell? ⟨w.heap.size + 1, 1, none⟩ = some (.int .i64 0) := by rw [hW]; go_simp
  have f2 : W.frozen? ⟨w.heap.size + 1, 0, none⟩ = false := by rw [hW]; go_simp
  have f3 : W.frozen? ⟨w.heap.size + 1, 1, none⟩ = false := by rw [hW]; go_simp
  have hz1 : w.heap.size + 1 < W.heap.size := by rw [hW]; simp; try omega
  have hz0 : w.heap.size < W.heap.size := by omega
  have hxW : Ext w W := by rw [hW]; exact by with_reducible repeat (first | exact Ext.refl _ | apply Ext.drew | apply Ext.alloc | apply Ext.more_)
  clear hW hbr
  go_upto_if 25 with fail
  go_cut [6] (fun s6 wx => s6 = .int .i64 (k : Int) ∧ wx = W)
  case first =>
    by_cases hng : n < 0
    · have w1 : wrap64 (-n) = -n := IntWalk.wrap64_in _ (by omega)
      have HE : Hid (-n = (k : Int)) := by show _ = _; rw [HK.out]; omega
      go_wp2
      go_meet
      exact ⟨by first | rw [w1, HE.out] | rw [HE.out], rfl⟩
    · have HE : Hid (n = (k : Int)) := by show _ = _; rw [HK.out]; omega
      go_wp2
      go_meet
      exact ⟨by rw [← HE.out], rfl⟩
  case rest =>
  obtain ⟨rfl, rfl⟩ := hcut
  have HPV := Lib.hid (PV.new (w := wc) 1 0 rfl)
  go_wp2
  go_loopw [8] (fun i wr => ∃ (j : Nat) (p : Int × Int), j ≤ k ∧ i = .int .i64 (j : Int) ∧ Hid (PV wr wc.heap.size p.1 p.2) ∧ Hid (powN m ex j = some p) ∧ Ext wc wr) (fun i _ => k - (intOf i).toNat)
  case atStart => exact ⟨0, (1, 0), Nat.zero_le _, rfl, HPV, by show _ = _; rfl, (Ext.refl _).alloc _⟩
  case round =>
    obtain ⟨j, p, hj, rfl, HP, HJ, hxr⟩ := hrel
    have p0 := HP.out.c0
    have p1 := HP.out.c1
    have pf0 := HP.out.fz 0
    have pf1 := HP.out.fz 1
    have plt := HP.out.lt
    have hsz := hxr.size
    have c0' := hxr.cell_some c0
    have c1' := hxr.cell_some c1
    have hz1' : w.heap.size + 1 < wr.heap.size := by omega
    have hz0' : w.heap.size < wr.heap.size := by omega
    have c2' := hxr.cell_some c2
    have c3' := hxr.cell_some c3
    have f2' := (hxr.frozen (p := ⟨w.heap.size + 1, 0, none⟩) hz1).trans f2
    have f3' := (hxr.frozen (p := ⟨w.heap.size + 1, 1, none⟩) hz1).trans f3
    by_cases hlt : j < k
    · have hst := pow_step HJ.out
      have hmu := rmul_any p.1 p.2 m ex wr (Rt_i64 (pow_rt HJ.out)).1 hm
      rw [← hst] at hmu
      cases hq : powN m ex (j + 1) with
      | none =>
        rw [hq] at hmu
        have HN : Hid (R = none) := by
          show _ = _
          have := pow_none hq (k - (j + 1))
          rw [show j + 1 + (k - (j + 1)) = k by omega] at this
          rw [← HRR.out, this]
          split <;> rfl
        clear hst hq
        go_wp2_with (go_at_call 105; (with_reducible refine hmu.mono ?_); rintro e w' ⟨rfl, hx⟩; obtain ⟨os2, d2, rfl⟩ := hx.more)
        refine bodyPost_ret (v := .tuple #[NV 0 0, .bool false]) (by simp [results, Tryz.results107, go_sem, hz1', c2', c3']) rfl ⟨?_, ((((hxW.trans hxr).set _ (Nat.le_succ _)).set _ (Nat.le_succ _)).more_ _ _).alloc _⟩
        rw [HN.out]; rfl
      | some q =>
        rw [hq] at hmu
        have HQ := Lib.hid hq
        clear hst hq
        go_wp2_with (go_at_call 105; (with_reducible refine hmu.mono ?_); rintro e w' ⟨rfl, hx⟩; obtain ⟨os2, d2, rfl⟩ := hx.more)
        exact ⟨⟨j + 1, q, by omega, by go_num, (((HP.out.set q.1 q.2).ext (ext_more _ os2 d2)).ext ((Ext.refl _).alloc _)), HQ, ((((hxr.set _ (Nat.le_refl _)).set _ (Nat.le_refl _)).more_ _ _).alloc _)⟩, by simp [intOf]; omega⟩
    · obtain rfl : j = k := by omega
      by_cases hng : n < 0
      · have HN : Hid (R = divS 1 0 p.1 p.2) := by show _ = _; rw [← HRR.out, if_pos hng, HJ.out]; rfl
        have hdv := rdiv_any 1 0 p.1 p.2 wr (Rt_i64 rt_one).1 (Rt_i64 (pow_rt HJ.out)).1
        rw [← HN.out] at hdv
        go_wp2_with (go_at_call 106; (refine hdv.mono ?_); rintro e w' ⟨rfl, hx⟩; obtain ⟨os2, d2, rfl⟩ := hx.more)
        exact bodyPost_ret (v := rnV R) (by simp [results, Tryz.results107, go_sem, hz1', c2', c3']) rfl ⟨rfl, (((hxW.trans hxr).set _ (Nat.le_succ _)).set _ (Nat.le_succ _)).more_ _ _⟩
      · have HN : Hid (R = some p) := by show _ = _; rw [← HRR.out, if_neg hng, HJ.out]
        go_wp2
        refine bodyPost_ret (v := .tuple #[NV p.1 p.2, .bool true]) (by simp [results, Tryz.results107, go_sem, hz1', c2', c3']) rfl ⟨?_, ((hxW.trans hxr).set _ (Nat.le_succ _)).set _ (Nat.le_succ _)⟩
        rw [HN.out]; rfl
set_option maxHeartbeats 4000000 in
theorem rpow_any (m ex n : Int) (w : World) (hm : I64 m) (hn : I64 n) :
    Calls Tryz.prog 107 #[NV m ex, .int .i64 n] w fun e w' => e = .returned (rnV (powS m ex n)) ∧ Ext w w' := by
  by_cases h : Rt m ex
  · have r1 := rtB_yes h
    by_cases h1 : n < -1000
    · have hs : powS m ex n = none := by unfold powS; rw [if_pos (Or.inr (Or.inl h1))]
      rw [hs]
      clear hs h
      go_enter Tryz.func107, Tryz.ntmps107
      go_wp2_with (go_at_call 38; (with_reducible refine (rright_rt _ _ _ (by assumption)).mono ?_); rintro e w' ⟨rfl, hbr⟩; obtain ⟨osr, dr, rfl⟩ := hbr.more)
      exact bodyPost_ret (v := .tuple #[NV 0 0, .bool false]) (by simp [results, Tryz.results107, go_sem]) rfl ⟨rfl, by with_reducible repeat (first | exact Ext.refl _ | apply Ext.drew | apply Ext.alloc | apply Ext.more_)⟩
    · by_cases h2 : 1000 < n
      · have hs : powS m ex n = none := by unfold powS; rw [if_pos (Or.inr (Or.inr h2))]
        rw [hs]
        clear hs h
        go_enter Tryz.func107, Tryz.ntmps107
        go_wp2_with (go_at_call 38; (with_reducible refine (rright_rt _ _ _ (by assumption)).mono ?_); rintro e w' ⟨rfl, hbr⟩; obtain ⟨osr, dr, rfl⟩ := hbr.more)
        exact bodyPost_ret (v := .tuple #[NV 0 0, .bool false]) (by simp [results, Tryz.results107, go_sem]) rfl ⟨rfl, by with_reducible repeat (first | exact Ext.refl _ | apply Ext.drew | apply Ext.alloc | apply Ext.more_)⟩
      · have hs : powS m ex n = if n < 0 then (powN m ex n.natAbs).bind fun p => divS 1 0 p.1 p.2 else powN m ex n.natAbs := by
          unfold powS
          rw [if_neg (by rintro (h4 | h4 | h4); exact h4 h; omega; omega)]
          by_cases h3 : n < 0
          · rw [if_pos h3, if_pos h3, show (-n).toNat = n.natAbs by omega]
          · rw [if_neg h3, if_neg h3, show n.toNat = n.natAbs by omega]
        rw [hs]
        exact rpow_yes m ex n _ w h h1 h2 rfl
  · have r1 := rtB_no h
    have hs : powS m ex n = none := by unfold powS; rw [if_pos (Or.inl h)]
    rw [hs]
    clear hs h
    go_enter Tryz.func107, Tryz.ntmps107
    go_wp2_with (go_at_call 38; (with_reducible refine (rright_rt _ _ _ (by assumption)).mono ?_); rintro e w' ⟨rfl, hbr⟩; obtain ⟨osr, dr, rfl⟩ := hbr.more)
    exact bodyPost_ret (v := .tuple #[NV 0 0, .bool false]) (by simp [results, Tryz.results107, go_sem]) rfl ⟨rfl, by with_reducible repeat (first | exact Ext.refl _ | apply Ext.drew | apply Ext.alloc | apply Ext.more_)⟩
end Go.Proofs.YteigcfflljoioaaGreatDoor
namespace Go.Proofs.YteigcfflljoioaaGreatDoor
open Go.RowKit NM
set_option maxHeartbeats 1000000 in
theorem sign_any (m ex : Int) (w : World) :
    Calls Tryz.prog 177 #[NV m ex] w fun e w' => e = .returned (.int .i64 m.sign) ∧ Ext w w' := by
  rcases Int.lt_trichotomy m 0 with h | h | h
  · rw [Int.sign_eq_neg_one_of_neg h]
    go_enter Tryz.func177, Tryz.ntmps177
    go_wp2
    go_ret
    exact ⟨rfl, by with_reducible repeat (first | exact Ext.refl _ | apply Ext.drew | apply Ext.alloc | apply Ext.more_)⟩
  · subst h
    go_enter Tryz.func177, Tryz.ntmps177
    go_wp2
    go_ret
    exact ⟨rfl, by with_reducible repeat (first | exact Ext.refl _ | apply Ext.drew | apply Ext.alloc | apply Ext.more_)⟩
  · rw [Int.sign_eq_one_of_pos h]
    have h' : ¬ m < 0 := by omega
    go_enter Tryz.func177, Tryz.ntmps177
    go_wp2
    go_ret
    exact ⟨rfl, by with_reducible repeat (first | exact Ext.refl _ | apply Ext.drew | apply Ext.alloc | apply Ext.more_)⟩
def cmpN (x y : Nat) : Int := if x < y then -1 else if y < x then 1 else 0
theorem cmp_top {x y ka kb : Nat} (hx : x ≠ 0) (hy : y ≠ 0) (h : nd x + ka < nd y + kb) : x * T ka < y * T kb := by
  have h1 := lt_T_nd (x * T ka)
  rw [nd_mul_T ka hx] at h1
  have h2 := T_le_of_nd (Nat.mul_ne_zero hy (by have := T_pos kb; omega) : y * T kb ≠ 0)
  rw [nd_mul_T kb hy] at h2
  have h3 : T (nd x + ka) ≤ T (nd y + kb - 1) := T_mono (by omega)
  omega
theorem cmp_same {x y ka kb : Nat} (hx : nd x ≤ 15) (hy : nd y ≤ 15) (h : nd x + ka = nd y + kb) : cmpN (x * T ka) (y * T kb) = cmpN (x * T (15 - nd x)) (y * T (15 - nd y)) := by
  have e1 : x * T (15 - nd x) * T (nd x + ka) = x * T ka * T 15 := by
    rw [Nat.mul_assoc, ← T_add, Nat.mul_assoc, ← T_add]; congr 2; omega
  have e2 : y * T (15 - nd y) * T (nd x + ka) = y * T kb * T 15 := by
    rw [Nat.mul_assoc, ← T_add, Nat.mul_assoc, ← T_add]; congr 2; omega
  have p1 := T_pos (nd x + ka)
  have p2 := T_pos 15
  have i1 : x * T ka < y * T kb ↔ x * T (15 - nd x) < y * T (15 - nd y) := by
    rw [← Nat.mul_lt_mul_right p2, ← e1, ← e2, Nat.mul_lt_mul_right p1]
  have i2 : y * T kb < x * T ka ↔ y * T (15 - nd y) < x * T (15 - nd x) := by
    rw [← Nat.mul_lt_mul_right p2, ← e1, ← e2, Nat.mul_lt_mul_right p1]
  unfold cmpN
  rw [ite_iff _ _ i1, ite_iff _ _ i2]
theorem count_nat (n : Nat) (w : World) (h : n < 18446744073709551616) (h0 : n ≠ 0) :
    Calls Tryz.prog 150 #[.int .u64 (n : Int)] w fun e w' => e = .returned (.int .i64 ((nd n : Nat) : Int)) ∧ w = w' := by
  have := count_any n w (by omega) (by omega)
  rw [show countI (n : Int) = ((nd n : Nat) : Int) by unfold countI; rw [Int.toNat_natCast, cnt_nd h0]] at this
  exact this
set_option maxHeartbeats 4000000 in
theorem cmpSize_any (ma ea mb eb : Int) (ka kb : Nat) (w : World) (h1 : Rt ma ea) (h2 : Rt mb eb) (h0 : ma = 0 ↔ mb = 0) (hk : ea - (ka : Int) = eb - (kb : Int)) :
    Calls Tryz.prog 178 #[NV ma ea, NV mb eb] w fun e w' => e = .returned (.int .i64 (cmpN (ma.natAbs * T ka) (mb.natAbs * T kb))) ∧ Ext w w' := by
  by_cases hz : ma = 0
  · have hz' := h0.1 hz
    rw [hz, hz', show (0 : Int).natAbs = 0 from rfl, Nat.zero_mul, Nat.zero_mul]
    go_enter Tryz.func178, Tryz.ntmps178
    go_wp2
    go_ret
    exact ⟨rfl, by with_reducible repeat (first | exact Ext.refl _ | apply Ext.drew | apply Ext.alloc | apply Ext.more_)⟩
  · have hz' : mb ≠ 0 := fun h => hz (h0.2 h)
    have e0 : (ma == 0) = false := by simp [hz]
    obtain ⟨b1, b2, b3⟩ := Rt_bd h1
    obtain ⟨b4, b5, b6⟩ := Rt_bd h2
    have hma : I64 ma := by unfold I64; omega
    have hmb : I64 mb := by unfold I64; omega
    have hsa := fun W => size_nat ma W hma
    have hsb := fun W => size_nat mb W hmb
    have hca := fun W => count_nat ma.natAbs W (by omega) (by omega)
    have hcb := fun W => count_nat mb.natAbs W (by omega) (by omega)
    have hT15 : T 15 = 1000000000000000 := by decide
    have n1 : nd ma.natAbs ≤ 15 := (nd_le_iff _ _).2 (by omega)
    have n2 : nd mb.natAbs ≤ 15 := (nd_le_iff _ _).2 (by omega)
    have hpa := fun W => power_any (15 - nd ma.natAbs) W (by omega)
    have hpb := fun W => power_any (15 - nd mb.natAbs) W (by omega)
    have hna : ma.natAbs ≠ 0 := by omega
    have hnb : mb.natAbs ≠ 0 := by omega
    have l1 : ma.natAbs * T (15 - nd ma.natAbs) < 1000000000000000 := by
      have := Nat.mul_lt_mul_of_pos_right (lt_T_nd ma.natAbs) (T_pos (15 - nd ma.natAbs))
      rw [← T_add, show nd ma.natAbs + (15 - nd ma.natAbs) = 15 by omega, hT15] at this; exact this
    have l2 : mb.natAbs * T (15 - nd mb.natAbs) < 1000000000000000 := by
      have := Nat.mul_lt_mul_of_pos_right (lt_T_nd mb.natAbs) (T_pos (15 - nd mb.natAbs))
      rw [← T_add, show nd mb.natAbs + (15 - nd mb.natAbs) = 15 by omega, hT15] at this; exact this
    have ct1 := cmp_top (x := ma.natAbs) (y := mb.natAbs) (ka := ka) (kb := kb) hna hnb
    have ct2 := cmp_top (x := mb.natAbs) (y := ma.natAbs) (ka := kb) (kb := ka) hnb hna
    have ct3 := cmp_same (x := ma.natAbs) (y := mb.natAbs) (ka := ka) (kb := kb) n1 n2
    clear h1 h2 h0 hz hz' hna hnb hT15
    generalize ma.natAbs = Na at *
    generalize mb.natAbs = Nb at *
    have ca : (15 : Int) - (nd Na : Int) = ((15 - nd Na : Nat) : Int) := by omega
    have cb : (15 : Int) - (nd Nb : Int) = ((15 - nd Nb : Nat) : Int) := by omega
    generalize hda : nd Na = da at *
    generalize hdb : nd Nb = db at *
    clear hda hdb
    rcases Int.lt_trichotomy ((da : Int) + ea) ((db : Int) + eb) with ht | ht | ht
    · have hR : cmpN (Na * T ka) (Nb * T kb) = -1 := by unfold cmpN; rw [if_pos (ct1 (by omega))]
      rw [hR]
      have e1 : ((da : Int) + ea == (db : Int) + eb) = false := by simp; omega
      clear ct1 ct2 ct3 hk
      go_enter Tryz.func178, Tryz.ntmps178
      go_wp2
      refine wp_plan (S := Ext _) [(0, 0), (1, 0), (3, 0), (4, 0), (2, 1), (5, 1), (6, 0), (7, 0)] [] (by kernel_rfl) (by kernel_rfl) (by kernel_rfl) (fun _ _ d _ _ h => by cases d <;> exact h) (Ext.drew (Ext.refl _)) ?_
      iterate 4 ((refine wpPl_read (v := ?_) rfl ?_ (fun _ h => ?_) ?_; rotate_left 1; rfl; (obtain ⟨_, _, rfl⟩ := h.more; go_simp; try rfl)); try simp only [Act.put, zqA, zqB, zqC])
      (refine wpPl_eff rfl ?_ (fun K hK => ?_); rfl; go_simp; (go_at_call 113; (with_reducible refine (hsa _).mono ?_); rintro e w' ⟨rfl, rfl⟩); refine hK _ _ ?_ ?_; (repeat (first | (with_reducible (first | exact Ext.refl _ | exact ext_d _ _ _ _ | exact ext_app _ _ _ _ _ | exact ext_app2 _ _ _ _ _ _ | exact ext_app3 _ _ _ _ _ _ _ | exact ext_app4 _ _ _ _ _ _ _ _ | exact ext_app5 _ _ _ _ _ _ _ _ _)) | ((with_reducible refine ext_suffix ⟨_, ?_⟩); (try simp only [Array.append_assoc]); rfl) | (with_reducible (first | apply Ext.drew | apply Ext.alloc | apply Ext.more_)) | apply Ext.drew | apply Ext.alloc | apply Ext.more_)))
      try simp only [Act.put, zqA, zqB, zqC]
      (refine wpPl_eff rfl ?_ (fun K hK => ?_); rfl; go_simp; (go_at_call 113; (with_reducible refine (hsb _).mono ?_); rintro e w' ⟨rfl, rfl⟩); refine hK _ _ ?_ ?_; (repeat (first | (with_reducible (first | exact Ext.refl _ | exact ext_d _ _ _ _ | exact ext_app _ _ _ _ _ | exact ext_app2 _ _ _ _ _ _ | exact ext_app3 _ _ _ _ _ _ _ | exact ext_app4 _ _ _ _ _ _ _ _ | exact ext_app5 _ _ _ _ _ _ _ _ _)) | ((with_reducible refine ext_suffix ⟨_, ?_⟩); (try simp only [Array.append_assoc]); rfl) | (with_reducible (first | apply Ext.drew | apply Ext.alloc | apply Ext.more_)) | apply Ext.drew | apply Ext.alloc | apply Ext.more_)))
      try simp only [Act.put, zqA, zqB, zqC]
      iterate 2 ((refine wpPl_read (v := ?_) rfl ?_ (fun _ h => ?_) ?_; rotate_left 1; rfl; (obtain ⟨_, _, rfl⟩ := h.more; go_simp; try rfl)); try simp only [Act.put, zqA, zqB, zqC])
      refine wpPl_nil ?_
      go_wp2_with (first | (go_at_call_of 150 (Value.int IntKind.u64 (Na : Int)); (with_reducible refine (hca _).mono ?_); rintro e w' ⟨rfl, rfl⟩) | (go_at_call 150; (with_reducible refine (hcb _).mono ?_); rintro e w' ⟨rfl, rfl⟩))
      refine wp_plan (S := Ext _) [(0, 0), (1, 0), (2, 0), (3, 0), (4, 0), (5, 0), (6, 0), (7, 0), (8, 0), (9, 0)] [] (by kernel_rfl) (by kernel_rfl) (by kernel_rfl) (fun _ _ d _ _ h => by cases d <;> exact h) (Ext.drew (Ext.refl _)) ?_
      iterate 10 ((refine wpPl_read (v := ?_) rfl ?_ (fun _ h => ?_) ?_; rotate_left 1; rfl; (obtain ⟨_, _, rfl⟩ := h.more; go_simp; try rfl)); try simp only [Act.put, zqA, zqB, zqC])
      refine wpPl_nil ?_
      go_wp2
      go_ret
      exact ⟨rfl, by with_reducible repeat (first | exact Ext.refl _ | apply Ext.drew | apply Ext.alloc | apply Ext.more_)⟩
    · have hR := ct3 (by omega)
      rw [hR]
      have e1 : ((da : Int) + ea == (db : Int) + eb) = true := by simp; omega
      clear ct1 ct2 ct3 hk hR
      generalize T (15 - da) = Ta at *
      generalize T (15 - db) = Tb at *
      have m1 : (Na : Int) * (Ta : Int) = ((Na * Ta : Nat) : Int) := by rw [Int.natCast_mul]
      have m2 : (Nb : Int) * (Tb : Int) = ((Nb * Tb : Nat) : Int) := by rw [Int.natCast_mul]
      generalize Na * Ta = Pa at *
      generalize Nb * Tb = Pb at *
      have w1 : IntKind.u64.wrap (Pa : Int) = Pa := by rw [IntKind.wrap_u64]; omega
      have w2 : IntKind.u64.wrap (Pb : Int) = Pb := by rw [IntKind.wrap_u64]; omega
      rcases Nat.lt_trichotomy Pa Pb with hc | hc | hc
      · have hR : cmpN Pa Pb = -1 := by unfold cmpN; rw [if_pos hc]
        rw [hR]
        go_enter Tryz.func178, Tryz.ntmps178
        go_wp2
        refine wp_plan (S := Ext _) [(0, 0), (1, 0), (3, 0), (4, 0), (2, 1), (5, 1), (6, 0), (7, 0)] [] (by kernel_rfl) (by kernel_rfl) (by kernel_rfl) (fun _ _ d _ _ h => by cases d <;> exact h) (Ext.drew (Ext.refl _)) ?_
        iterate 4 ((refine wpPl_read (v := ?_) rfl ?_ (fun _ h => ?_) ?_; rotate_left 1; rfl; (obtain ⟨_, _, rfl⟩ := h.more; go_simp; try rfl)); try simp only [Act.put, zqA, zqB, zqC])
        (refine wpPl_eff rfl ?_ (fun K hK => ?_); rfl; go_simp; (go_at_call 113; (with_reducible refine (hsa _).mono ?_); rintro e w' ⟨rfl, rfl⟩); refine hK _ _ ?_ ?_; (repeat (first | (with_reducible (first | exact Ext.refl _ | exact ext_d _ _ _ _ | exact ext_app _ _ _ _ _ | exact ext_app2 _ _ _ _ _ _ | exact ext_app3 _ _ _ _ _ _ _ | exact ext_app4 _ _ _ _ _ _ _ _ | exact ext_app5 _ _ _ _ _ _ _ _ _)) | ((with_reducible refine ext_suffix ⟨_, ?_⟩); (try simp only [Array.append_assoc]); rfl) | (with_reducible (first | apply Ext.drew | apply Ext.alloc | apply Ext.more_)) | apply Ext.drew | apply Ext.alloc | apply Ext.more_)))
        try simp only [Act.put, zqA, zqB, zqC]
        (refine wpPl_eff rfl ?_ (fun K hK => ?_); rfl; go_simp; (go_at_call 113; (with_reducible refine (hsb _).mono ?_); rintro e w' ⟨rfl, rfl⟩); refine hK _ _ ?_ ?_; (repeat (first | (with_reducible (first | exact Ext.refl _ | exact ext_d _ _ _ _ | exact ext_app _ _ _ _ _ | exact ext_app2 _ _ _ _ _ _ | exact ext_app3 _ _ _ _ _ _ _ | exact ext_app4 _ _ _ _ _ _ _ _ | exact ext_app5 _ _ _ _ _ _ _ _ _)) | ((with_reducible refine ext_suffix ⟨_, ?_⟩); (try simp only [Array.append_assoc]); rfl) | (with_reducible (first | apply Ext.drew | apply Ext.alloc | apply Ext.more_)) | apply Ext.drew | apply Ext.alloc | apply Ext.more_)))
        try simp only [Act.put, zqA, zqB, zqC]
        iterate 2 ((refine wpPl_read (v := ?_) rfl ?_ (fun _ h => ?_) ?_; rotate_left 1; rfl; (obtain ⟨_, _, rfl⟩ := h.more; go_simp; try rfl)); try simp only [Act.put, zqA, zqB, zqC])
        refine wpPl_nil ?_
        go_wp2_with (first | (go_at_call_of 150 (Value.int IntKind.u64 (Na : Int)); (with_reducible refine (hca _).mono ?_); rintro e w' ⟨rfl, rfl⟩) | (go_at_call 150; (with_reducible refine (hcb _).mono ?_); rintro e w' ⟨rfl, rfl⟩))
        refine wp_plan (S := Ext _) [(0, 0), (1, 0), (2, 0), (3, 0), (4, 0), (5, 0), (6, 0), (7, 0), (8, 0), (9, 0)] [] (by kernel_rfl) (by kernel_rfl) (by kernel_rfl) (fun _ _ d _ _ h => by cases d <;> exact h) (Ext.drew (Ext.refl _)) ?_
        iterate 10 ((refine wpPl_read (v := ?_) rfl ?_ (fun _ h => ?_) ?_; rotate_left 1; rfl; (obtain ⟨_, _, rfl⟩ := h.more; go_simp; try rfl)); try simp only [Act.put, zqA, zqB, zqC])
        refine wpPl_nil ?_
        go_wp2_with (first | (go_at_call 165; (with_reducible refine (hpa _).mono ?_); rintro e w' ⟨rfl, rfl⟩) | (go_at_call 165; (with_reducible refine (hpb _).mono ?_); rintro e w' ⟨rfl, rfl⟩))
        go_ret
        exact ⟨rfl, by with_reducible repeat (first | exact Ext.refl _ | apply Ext.drew | apply Ext.alloc | apply Ext.more_)⟩
      · have hR : cmpN Pa Pb = 0 := by unfold cmpN; rw [if_neg (by omega), if_neg (by omega)]
        rw [hR]
        go_enter Tryz.func178, Tryz.ntmps178
        go_wp2
        refine wp_plan (S := Ext _) [(0, 0), (1, 0), (3, 0), (4, 0), (2, 1), (5, 1), (6, 0), (7, 0)] [] (by kernel_rfl) (by kernel_rfl) (by kernel_rfl) (fun _ _ d _ _ h => by cases d <;> exact h) (Ext.drew (Ext.refl _)) ?_
        iterate 4 ((refine wpPl_read (v := ?_) rfl ?_ (fun _ h => ?_) ?_; rotate_left 1; rfl; (obtain ⟨_, _, rfl⟩ := h.more; go_simp; try rfl)); try simp only [Act.put, zqA, zqB, zqC])
        (refine wpPl_eff rfl ?_ (fun K hK => ?_); rfl; go_simp; (go_at_call 113; (with_reducible refine (hsa _).mono ?_); rintro e w' ⟨rfl, rfl⟩); refine hK _ _ ?_ ?_; (repeat (first | (with_reducible (first | exact Ext.refl _ | exact ext_d _ _ _ _ | exact ext_app _ _ _ _ _ | exact ext_app2 _ _ _ _ _ _ | exact ext_app3 _ _ _ _ _ _ _ | exact ext_app4 _ _ _ _ _ _ _ _ | exact ext_app5 _ _ _ _ _ _ _ _ _)) | ((with_reducible refine ext_suffix ⟨_, ?_⟩); (try simp only [Array.append_assoc]); rfl) | (with_reducible (first | apply Ext.drew | apply Ext.alloc | apply Ext.more_)) | apply Ext.drew | apply Ext.alloc | apply Ext.more_)))
        try simp only [Act.put, zqA, zqB, zqC]
        (refine wpPl_eff rfl ?_ (fun K hK => ?_); rfl; go_simp; (go_at_call 113; (with_reducible refine (hsb _).mono ?_); rintro e w' ⟨rfl, rfl⟩); refine hK _ _ ?_ ?_; (repeat (first | (with_reducible (first | exact Ext.refl _ | exact ext_d _ _ _ _ | exact ext_app _ _ _ _ _ | exact ext_app2 _ _ _ _ _ _ | exact ext_app3 _ _ _ _ _ _ _ | exact ext_app4 _ _ _ _ _ _ _ _ | exact ext_app5 _ _ _ _ _ _ _ _ _)) | ((with_reducible refine ext_suffix ⟨_, ?_⟩); (try simp only [Array.append_assoc]); rfl) | (with_reducible (first | apply Ext.drew | apply Ext.alloc | apply Ext.more_)) | apply Ext.drew | apply Ext.alloc | apply Ext.more_)))
        try simp only [Act.put, zqA, zqB, zqC]
        iterate 2 ((refine wpPl_read (v := ?_) rfl ?_ (fun _ h => ?_) ?_; rotate_left 1; rfl; (obtain ⟨_, _, rfl⟩ := h.more; go_simp; try rfl)); try simp only [Act.put, zqA, zqB, zqC])
        refine wpPl_nil ?_
        go_wp2_with (first | (go_at_call_of 150 (Value.int IntKind.u64 (Na : Int)); (with_reducible refine (hca _).mono ?_); rintro e w' ⟨rfl, rfl⟩) | (go_at_call 150; (with_reducible refine (hcb _).mono ?_); rintro e w' ⟨rfl, rfl⟩))
        refine wp_plan (S := Ext _) [(0, 0), (1, 0), (2, 0), (3, 0), (4, 0), (5, 0), (6, 0), (7, 0), (8, 0), (9, 0)] [] (by kernel_rfl) (by kernel_rfl) (by kernel_rfl) (fun _ _ d _ _ h => by cases d <;> exact h) (Ext.drew (Ext.refl _)) ?_
        iterate 10 ((refine wpPl_read (v := ?_) rfl ?_ (fun _ h => ?_) ?_; rotate_left 1; rfl; (obtain ⟨_, _, rfl⟩ := h.more; go_simp; try rfl)); try simp only [Act.put, zqA, zqB, zqC])
        refine wpPl_nil ?_
        go_wp2_with (first | (go_at_call 165; (with_reducible refine (hpa _).mono ?_); rintro e w' ⟨rfl, rfl⟩) | (go_at_call 165; (with_reducible refine (hpb _).mono ?_); rintro e w' ⟨rfl, rfl⟩))
        go_ret
        exact ⟨rfl, by with_reducible repeat (first | exact Ext.refl _ | apply Ext.drew | apply Ext.alloc | apply Ext.more_)⟩
      · have hR : cmpN Pa Pb = 1 := by unfold cmpN; rw [if_neg (by omega), if_pos (by omega)]
        rw [hR]
        have hc' : ¬ Pa < Pb := by omega
        go_enter Tryz.func178, Tryz.ntmps178
        go_wp2
        refine wp_plan (S := Ext _) [(0, 0), (1, 0), (3, 0), (4, 0), (2, 1), (5, 1), (6, 0), (7, 0)] [] (by kernel_rfl) (by kernel_rfl) (by kernel_rfl) (fun _ _ d _ _ h => by cases d <;> exact h) (Ext.drew (Ext.refl _)) ?_
        iterate 4 ((refine wpPl_read (v := ?_) rfl ?_ (fun _ h => ?_) ?_; rotate_left 1; rfl; (obtain ⟨_, _, rfl⟩ := h.more; go_simp; try rfl)); try simp only [Act.put, zqA, zqB, zqC])
        (refine wpPl_eff rfl ?_ (fun K hK => ?_); rfl; go_simp; (go_at_call 113; (with_reducible refine (hsa _).mono ?_); rintro e w' ⟨rfl, rfl⟩); refine hK _ _ ?_ ?_; (repeat (first | (with_reducible (first | exact Ext.refl _ | exact ext_d _ _ _ _ | exact ext_app _ _ _ _ _ | exact ext_app2 _ _ _ _ _ _ | exact ext_app3 _ _ _ _ _ _ _ | exact ext_app4 _ _ _ _ _ _ _ _ | exact ext_app5 _ _ _ _ _ _ _ _ _)) | ((with_reducible refine ext_suffix ⟨_, ?_⟩); (try simp only [Array.append_assoc]); rfl) | (with_reducible (first | apply Ext.drew | apply Ext.alloc | apply Ext.more_)) | apply Ext.drew | apply Ext.alloc | apply Ext.more_)))
        try simp only [Act.put, zqA, zqB, zqC]
        (refine wpPl_eff rfl ?_ (fun K hK => ?_); rfl; go_simp; (go_at_call 113; (with_reducible refine (hsb _).mono ?_); rintro e w' ⟨rfl, rfl⟩); refine hK _ _ ?_ ?_; (repeat (first | (with_reducible (first | exact Ext.refl _ | exact ext_d _ _ _ _ | exact ext_app _ _ _ _ _ | exact ext_app2 _ _ _ _ _ _ | exact ext_app3 _ _ _ _ _ _ _ | exact ext_app4 _ _ _ _ _ _ _ _ | exact ext_app5 _ _ _ _ _ _ _ _ _)) | ((with_reducible refine ext_suffix ⟨_, ?_⟩); (try simp only [Array.append_assoc]); rfl) | (with_reducible (first | apply Ext.drew | apply Ext.alloc | apply Ext.more_)) | apply Ext.drew | apply Ext.alloc | apply Ext.more_)))
        try simp only [Act.put, zqA, zqB, zqC]
        iterate 2 ((refine wpPl_read (v := ?_) rfl ?_ (fun _ h => ?_) ?_; rotate_left 1; rfl; (obtain ⟨_, _, rfl⟩ := h.more; go_simp; try rfl)); try simp only [Act.put, zqA, zqB, zqC])
        refine wpPl_nil ?_
        go_wp2_with (first | (go_at_call_of 150 (Value.int IntKind.u64 (Na : Int)); (with_reducible refine (hca _).mono ?_); rintro e w' ⟨rfl, rfl⟩) | (go_at_call 150; (with_reducible refine (hcb _).mono ?_); rintro e w' ⟨rfl, rfl⟩))
        refine wp_plan (S := Ext _) [(0, 0), (1, 0), (2, 0), (3, 0), (4, 0), (5, 0), (6, 0), (7, 0), (8, 0), (9, 0)] [] (by kernel_rfl) (by kernel_rfl) (by kernel_rfl) (fun _ _ d _ _ h => by cases d <;> exact h) (Ext.drew (Ext.refl _)) ?_
        iterate 10 ((refine wpPl_read (v := ?_) rfl ?_ (fun _ h => ?_) ?_; rotate_left 1; rfl; (obtain ⟨_, _, rfl⟩ := h.more; go_simp; try rfl)); try simp only [Act.put, zqA, zqB, zqC])
        refine wpPl_nil ?_
        go_wp2_with (first | (go_at_call 165; (with_reducible refine (hpa _).mono ?_); rintro e w' ⟨rfl, rfl⟩) | (go_at_call 165; (with_reducible refine (hpb _).mono ?_); rintro e w' ⟨rfl, rfl⟩))
        go_ret
        exact ⟨rfl, by with_reducible repeat (first | exact Ext.refl _ | apply Ext.drew | apply Ext.alloc | apply Ext.more_)⟩
    · have hR : cmpN (Na * T ka) (Nb * T kb) = 1 := by
        have := ct2 (by omega)
        unfold cmpN; rw [if_neg (by omega), if_pos this]
      rw [hR]
      have e1 : ((da : Int) + ea == (db : Int) + eb) = false := by simp; omega
      have e2 : ¬ ((da : Int) + ea < (db : Int) + eb) := by omega
      clear ct1 ct2 ct3 hk
      go_enter Tryz.func178, Tryz.ntmps178
      go_wp2
      refine wp_plan (S := Ext _) [(0, 0), (1, 0), (3, 0), (4, 0), (2, 1), (5, 1), (6, 0), (7, 0)] [] (by kernel_rfl) (by kernel_rfl) (by kernel_rfl) (fun _ _ d _ _ h => by cases d <;> exact h) (Ext.drew (Ext.refl _)) ?_
      iterate 4 ((refine wpPl_read (v := ?_) rfl ?_ (fun _ h => ?_) ?_; rotate_left 1; rfl; (obtain ⟨_, _, rfl⟩ := h.more; go_simp; try rfl)); try simp only [Act.put, zqA, zqB, zqC])
      (refine wpPl_eff rfl ?_ (fun K hK => ?_); rfl; go_simp; (go_at_call 113; (with_reducible refine (hsa _).mono ?_); rintro e w' ⟨rfl, rfl⟩); refine hK _ _ ?_ ?_; (repeat (first | (with_reducible (first | exact Ext.refl _ | exact ext_d _ _ _ _ | exact ext_app _ _ _ _ _ | exact ext_app2 _ _ _ _ _ _ | exact ext_app3 _ _ _ _ _ _ _ | exact ext_app4 _ _ _ _ _ _ _ _ | exact ext_app5 _ _ _ _ _ _ _ _ _)) | ((with_reducible refine ext_suffix ⟨_, ?_⟩); (try simp only [Array.append_assoc]); rfl) | (with_reducible (first | apply Ext.drew | apply Ext.alloc | apply Ext.more_)) | apply Ext.drew | apply Ext.alloc | apply Ext.more_)))
      try simp only [Act.put, zqA, zqB, zqC]
      (refine wpPl_eff rfl ?_ (fun K hK => ?_); rfl; go_simp; (go_at_call 113; (with_reducible refine (hsb _).mono ?_); rintro e w' ⟨rfl, rfl⟩); refine hK _ _ ?_ ?_; (repeat (first | (with_reducible (first | exact Ext.refl _ | exact ext_d _ _ _ _ | exact ext_app _ _ _ _ _ | exact ext_app2 _ _ _ _ _ _ | exact ext_app3 _ _ _ _ _ _ _ | exact ext_app4 _ _ _ _ _ _ _ _ | exact ext_app5 _ _ _ _ _ _ _ _ _)) | ((with_reducible refine ext_suffix ⟨_, ?_⟩); (try simp only [Array.append_assoc]); rfl) | (with_reducible (first | apply Ext.drew | apply Ext.alloc | apply Ext.more_)) | apply Ext.drew | apply Ext.alloc | apply Ext.more_)))
      try simp only [Act.put, zqA, zqB, zqC]
      iterate 2 ((refine wpPl_read (v := ?_) rfl ?_ (fun _ h => ?_) ?_; rotate_left 1; rfl; (obtain ⟨_, _, rfl⟩ := h.more; go_simp; try rfl)); try simp only [Act.put, zqA, zqB, zqC])
      refine wpPl_nil ?_
      go_wp2_with (first | (go_at_call_of 150 (Value.int IntKind.u64 (Na : Int)); (with_reducible refine (hca _).mono ?_); rintro e w' ⟨rfl, rfl⟩) | (go_at_call 150; (with_reducible refine (hcb _).mono ?_); rintro e w' ⟨rfl, rfl⟩))
      refine wp_plan (S := Ext _) [(0, 0), (1, 0), (2, 0), (3, 0), (4, 0), (5, 0), (6, 0), (7, 0), (8, 0), (9, 0)] [] (by kernel_rfl) (by kernel_rfl) (by kernel_rfl) (fun _ _ d _ _ h => by cases d <;> exact h) (Ext.drew (Ext.refl _)) ?_
      iterate 10 ((refine wpPl_read (v := ?_) rfl ?_ (fun _ h => ?_) ?_; rotate_left 1; rfl; (obtain ⟨_, _, rfl⟩ := h.more; go_simp; try rfl)); try simp only [Act.put, zqA, zqB, zqC])
      refine wpPl_nil ?_
      go_wp2
      go_ret
      exact ⟨rfl, by with_reducible repeat (first | exact Ext.refl _ | apply Ext.drew | apply Ext.alloc | apply Ext.more_)⟩
theorem cmp_sign (A B : Int) : (A - B).sign = if A.sign = B.sign then A.sign * cmpN A.natAbs B.natAbs else if A.sign < B.sign then -1 else 1 := by
  have hp : ∀ x : Int, 0 < x → x.sign = 1 := fun x h => Int.sign_eq_one_of_pos h
  have hn : ∀ x : Int, x < 0 → x.sign = -1 := fun x h => Int.sign_eq_neg_one_of_neg h
  have hz : (0 : Int).sign = 0 := rfl
  rcases Int.lt_trichotomy A 0 with a | a | a <;> rcases Int.lt_trichotomy B 0 with b | b | b
  · rw [hn A a, hn B b, if_pos rfl]
    unfold cmpN
    rcases Int.lt_trichotomy A B with c | c | c
    · rw [hn _ (by omega), if_neg (by omega), if_pos (by omega)]; rfl
    · rw [c, Int.sub_self, if_neg (by omega), if_neg (by omega)]; rfl
    · rw [hp _ (by omega), if_pos (by omega)]; rfl
  · rw [hn A a, b, hz, hn _ (by omega)]; rfl
  · rw [hn A a, hp B b, hn _ (by omega)]; rfl
  · rw [hn B b, a, hz, hp _ (by omega)]; rfl
  · rw [a, b]; rfl
  · rw [hp B b, a, hz, hn _ (by omega)]; rfl
  · rw [hp A a, hn B b, hp _ (by omega)]; rfl
  · rw [hp A a, b, hz, hp _ (by omega)]; rfl
  · rw [hp A a, hp B b, if_pos rfl]
    unfold cmpN
    rcases Int.lt_trichotomy A B with c | c | c
    · rw [hn _ (by omega), if_pos (by omega)]; rfl
    · rw [c, Int.sub_self, if_neg (by omega), if_neg (by omega)]; rfl
    · rw [hp _ (by omega), if_neg (by omega), if_pos (by omega)]; rfl
theorem sign_T (m : Int) (k : Nat) : (m * (T k : Nat)).sign = m.sign := by
  have h : ((T k : Nat) : Int).sign = 1 := Int.sign_eq_one_of_pos (by have := T_pos k; omega)
  rw [Int.sign_mul, h, Int.mul_one]
theorem cmp_sum (ma ea mb eb : Int) : (sumI ma ea (-mb) eb).sign = if ma.sign = mb.sign then ma.sign * cmpN (ma.natAbs * T (ea - min ea eb).toNat) (mb.natAbs * T (eb - min ea eb).toNat) else if ma.sign < mb.sign then -1 else 1 := by
  unfold sumI
  rw [Int.neg_mul, ← Int.sub_eq_add_neg, cmp_sign, sign_T, sign_T, Int.natAbs_mul, Int.natAbs_mul, Int.natAbs_natCast, Int.natAbs_natCast]
theorem sign_bd (m : Int) : -1 ≤ m.sign ∧ m.sign ≤ 1 := by
  rcases Int.lt_trichotomy m 0 with a | a | a
  · rw [Int.sign_eq_neg_one_of_neg a]; omega
  · rw [a]; decide
  · rw [Int.sign_eq_one_of_pos a]; omega
theorem cmpN_bd (x y : Nat) : -1 ≤ cmpN x y ∧ cmpN x y ≤ 1 := by unfold cmpN; split <;> (try split) <;> omega
set_option maxHeartbeats 4000000 in
theorem cmp_yes (ma ea mb eb : Int) (w : World) (h1 : Rt ma ea) (h2 : Rt mb eb) :
    Calls Tryz.prog 168 #[NV ma ea, NV mb eb] w fun e w' => e = .returned (.int .i64 (sumI ma ea (-mb) eb).sign) ∧ Ext w w' := by
  obtain ⟨b1, b2, b3⟩ := Rt_bd h1
  obtain ⟨b4, b5, b6⟩ := Rt_bd h2
  have hma : I64 ma := by unfold I64; omega
  have hmb : I64 mb := by unfold I64; omega
  have r1 := rtB_yes h1
  have r2 := rtB_yes h2
  have hsa := fun W => sign_any ma ea W
  have hsb := fun W => sign_any mb eb W
  have s1 := sign_bd ma
  have s2 := sign_bd mb
  rw [cmp_sum]
  by_cases hs : ma.sign = mb.sign
  · have hcs := fun W => cmpSize_any ma ea mb eb (ea - min ea eb).toNat (eb - min ea eb).toNat W h1 h2 (by rw [← Int.sign_eq_zero_iff_zero, ← Int.sign_eq_zero_iff_zero (a := mb), hs]) (by omega)
    rw [if_pos hs]
    have s3 := cmpN_bd (ma.natAbs * T (ea - min ea eb).toNat) (mb.natAbs * T (eb - min ea eb).toNat)
    generalize cmpN (ma.natAbs * T (ea - min ea eb).toNat) (mb.natAbs * T (eb - min ea eb).toNat) = C at *
    rw [← hs] at hsb
    clear s2 hs h1 h2
    generalize ma.sign = sa at *
    have w1 : IntKind.i64.wrap (sa * C) = sa * C := by
      have h6 : sa = -1 ∨ sa = 0 ∨ sa = 1 := by omega
      rcases h6 with h | h | h <;> rw [h] <;> exact i64w (by omega) (by omega)
    have w2 : wrap64 (sa * C) = sa * C := by
      have h6 : sa = -1 ∨ sa = 0 ∨ sa = 1 := by omega
      rcases h6 with h | h | h <;> rw [h] <;> exact IntWalk.wrap64_in _ (by omega)
    go_enter Tryz.func168, Tryz.ntmps168
    go_wp2_with (go_at_call 111; (with_reducible refine (right_rt _ _ _ (by assumption)).mono ?_); rintro e w' ⟨rfl, hbr⟩; obtain ⟨osr, dr, rfl⟩ := hbr.more)
    refine wp_plan (S := Ext _) [(0, 0), (2, 0), (1, 1), (3, 1), (4, 0), (5, 0)] [] (by kernel_rfl) (by kernel_rfl) (by kernel_rfl) (fun _ _ d _ _ h => by cases d <;> exact h) (Ext.drew (Ext.refl _)) ?_
    iterate 2 ((refine wpPl_read (v := ?_) rfl ?_ (fun _ h => ?_) ?_; rotate_left 1; rfl; (obtain ⟨_, _, rfl⟩ := h.more; go_simp; try rfl)); try simp only [Act.put, zqA, zqB, zqC])
    (refine wpPl_eff rfl ?_ (fun K hK => ?_); rfl; go_simp; (go_at_call 177; (with_reducible refine (hsa _).mono ?_); rintro e w' ⟨rfl, hx⟩; obtain ⟨os1, d1, rfl⟩ := hx.more); refine hK _ _ ?_ ?_; (repeat (first | (with_reducible (first | exact Ext.refl _ | exact ext_d _ _ _ _ | exact ext_app _ _ _ _ _ | exact ext_app2 _ _ _ _ _ _ | exact ext_app3 _ _ _ _ _ _ _ | exact ext_app4 _ _ _ _ _ _ _ _ | exact ext_app5 _ _ _ _ _ _ _ _ _)) | ((with_reducible refine ext_suffix ⟨_, ?_⟩); (try simp only [Array.append_assoc]); rfl) | (with_reducible (first | apply Ext.drew | apply Ext.alloc | apply Ext.more_)) | apply Ext.drew | apply Ext.alloc | apply Ext.more_)))
    try simp only [Act.put, zqA, zqB, zqC]
    (refine wpPl_eff rfl ?_ (fun K hK => ?_); rfl; go_simp; (go_at_call 177; (with_reducible refine (hsb _).mono ?_); rintro e w' ⟨rfl, hx⟩; obtain ⟨os2, d2, rfl⟩ := hx.more); refine hK _ _ ?_ ?_; (repeat (first | (with_reducible (first | exact Ext.refl _ | exact ext_d _ _ _ _ | exact ext_app _ _ _ _ _ | exact ext_app2 _ _ _ _ _ _ | exact ext_app3 _ _ _ _ _ _ _ | exact ext_app4 _ _ _ _ _ _ _ _ | exact ext_app5 _ _ _ _ _ _ _ _ _)) | ((with_reducible refine ext_suffix ⟨_, ?_⟩); (try simp only [Array.append_assoc]); rfl) | (with_reducible (first | apply Ext.drew | apply Ext.alloc | apply Ext.more_)) | apply Ext.drew | apply Ext.alloc | apply Ext.more_)))
    try simp only [Act.put, zqA, zqB, zqC]
    iterate 2 ((refine wpPl_read (v := ?_) rfl ?_ (fun _ h => ?_) ?_; rotate_left 1; rfl; (obtain ⟨_, _, rfl⟩ := h.more; go_simp; try rfl)); try simp only [Act.put, zqA, zqB, zqC])
    refine wpPl_nil ?_
    go_wp2
    refine wp_plan (S := Ext _) [(0, 0), (2, 0), (3, 0), (1, 1), (4, 1), (5, 0), (6, 0)] [] (by kernel_rfl) (by kernel_rfl) (by kernel_rfl) (fun _ _ d _ _ h => by cases d <;> exact h) (Ext.drew (Ext.refl _)) ?_
    iterate 3 ((refine wpPl_read (v := ?_) rfl ?_ (fun _ h => ?_) ?_; rotate_left 1; rfl; (obtain ⟨_, _, rfl⟩ := h.more; go_simp; try rfl)); try simp only [Act.put, zqA, zqB, zqC])
    (refine wpPl_eff rfl ?_ (fun K hK => ?_); rfl; go_simp; (go_at_call 177; (with_reducible refine (hsa _).mono ?_); rintro e w' ⟨rfl, hx⟩; obtain ⟨os1, d1, rfl⟩ := hx.more); refine hK _ _ ?_ ?_; (repeat (first | (with_reducible (first | exact Ext.refl _ | exact ext_d _ _ _ _ | exact ext_app _ _ _ _ _ | exact ext_app2 _ _ _ _ _ _ | exact ext_app3 _ _ _ _ _ _ _ | exact ext_app4 _ _ _ _ _ _ _ _ | exact ext_app5 _ _ _ _ _ _ _ _ _)) | ((with_reducible refine ext_suffix ⟨_, ?_⟩); (try simp only [Array.append_assoc]); rfl) | (with_reducible (first | apply Ext.drew | apply Ext.alloc | apply Ext.more_)) | apply Ext.drew | apply Ext.alloc | apply Ext.more_)))
    try simp only [Act.put, zqA, zqB, zqC]
    (refine wpPl_eff rfl ?_ (fun K hK => ?_); rfl; go_simp; (go_at_call 178; (with_reducible refine (hcs _).mono ?_); rintro e w' ⟨rfl, hx⟩; obtain ⟨os2, d2, rfl⟩ := hx.more); refine hK _ _ ?_ ?_; (repeat (first | (with_reducible (first | exact Ext.refl _ | exact ext_d _ _ _ _ | exact ext_app _ _ _ _ _ | exact ext_app2 _ _ _ _ _ _ | exact ext_app3 _ _ _ _ _ _ _ | exact ext_app4 _ _ _ _ _ _ _ _ | exact ext_app5 _ _ _ _ _ _ _ _ _)) | ((with_reducible refine ext_suffix ⟨_, ?_⟩); (try simp only [Array.append_assoc]); rfl) | (with_reducible (first | apply Ext.drew | apply Ext.alloc | apply Ext.more_)) | apply Ext.drew | apply Ext.alloc | apply Ext.more_)))
    try simp only [Act.put, zqA, zqB, zqC]
    iterate 2 ((refine wpPl_read (v := ?_) rfl ?_ (fun _ h => ?_) ?_; rotate_left 1; rfl; (obtain ⟨_, _, rfl⟩ := h.more; go_simp; try rfl)); try simp only [Act.put, zqA, zqB, zqC])
    refine wpPl_nil ?_
    go_wp2
    go_ret
    exact ⟨rfl, by with_reducible repeat (first | exact Ext.refl _ | apply Ext.drew | apply Ext.alloc | apply Ext.more_)⟩
  · rw [if_neg hs]
    have e1 : (ma.sign == mb.sign) = false := by simp [hs]
    generalize ma.sign = sa at *
    generalize mb.sign = sb at *
    by_cases hl : sa < sb
    · rw [if_pos hl]
      clear h1 h2 hs
      go_enter Tryz.func168, Tryz.ntmps168
      go_wp2_with (go_at_call 111; (with_reducible refine (right_rt _ _ _ (by assumption)).mono ?_); rintro e w' ⟨rfl, hbr⟩; obtain ⟨osr, dr, rfl⟩ := hbr.more)
      refine wp_plan (S := Ext _) [(0, 0), (2, 0), (1, 1), (3, 1), (4, 0), (5, 0)] [] (by kernel_rfl) (by kernel_rfl) (by kernel_rfl) (fun _ _ d _ _ h => by cases d <;> exact h) (Ext.drew (Ext.refl _)) ?_
      iterate 2 ((refine wpPl_read (v := ?_) rfl ?_ (fun _ h => ?_) ?_; rotate_left 1; rfl; (obtain ⟨_, _, rfl⟩ := h.more; go_simp; try rfl)); try simp only [Act.put, zqA, zqB, zqC])
      (refine wpPl_eff rfl ?_ (fun K hK => ?_); rfl; go_simp; (go_at_call 177; (with_reducible refine (hsa _).mono ?_); rintro e w' ⟨rfl, hx⟩; obtain ⟨os1, d1, rfl⟩ := hx.more); refine hK _ _ ?_ ?_; (repeat (first | (with_reducible (first | exact Ext.refl _ | exact ext_d _ _ _ _ | exact ext_app _ _ _ _ _ | exact ext_app2 _ _ _ _ _ _ | exact ext_app3 _ _ _ _ _ _ _ | exact ext_app4 _ _ _ _ _ _ _ _ | exact ext_app5 _ _ _ _ _ _ _ _ _)) | ((with_reducible refine ext_suffix ⟨_, ?_⟩); (try simp only [Array.append_assoc]); rfl) | (with_reducible (first | apply Ext.drew | apply Ext.alloc | apply Ext.more_)) | apply Ext.drew | apply Ext.alloc | apply Ext.more_)))
      try simp only [Act.put, zqA, zqB, zqC]
      (refine wpPl_eff rfl ?_ (fun K hK => ?_); rfl; go_simp; (go_at_call 177; (with_reducible refine (hsb _).mono ?_); rintro e w' ⟨rfl, hx⟩; obtain ⟨os2, d2, rfl⟩ := hx.more); refine hK _ _ ?_ ?_; (repeat (first | (with_reducible (first | exact Ext.refl _ | exact ext_d _ _ _ _ | exact ext_app _ _ _ _ _ | exact ext_app2 _ _ _ _ _ _ | exact ext_app3 _ _ _ _ _ _ _ | exact ext_app4 _ _ _ _ _ _ _ _ | exact ext_app5 _ _ _ _ _ _ _ _ _)) | ((with_reducible refine ext_suffix ⟨_, ?_⟩); (try simp only [Array.append_assoc]); rfl) | (with_reducible (first | apply Ext.drew | apply Ext.alloc | apply Ext.more_)) | apply Ext.drew | apply Ext.alloc | apply Ext.more_)))
      try simp only [Act.put, zqA, zqB, zqC]
      iterate 2 ((refine wpPl_read (v := ?_) rfl ?_ (fun _ h => ?_) ?_; rotate_left 1; rfl; (obtain ⟨_, _, rfl⟩ := h.more; go_simp; try rfl)); try simp only [Act.put, zqA, zqB, zqC])
      refine wpPl_nil ?_
      go_wp2
      go_ret
      exact ⟨rfl, by with_reducible repeat (first | exact Ext.refl _ | apply Ext.drew | apply Ext.alloc | apply Ext.more_)⟩
    · rw [if_neg hl]
      clear h1 h2 hs
      go_enter Tryz.func168, Tryz.ntmps168
      go_wp2_with (go_at_call 111; (with_reducible refine (right_rt _ _ _ (by assumption)).mono ?_); rintro e w' ⟨rfl, hbr⟩; obtain ⟨osr, dr, rfl⟩ := hbr.more)
      refine wp_plan (S := Ext _) [(0, 0), (2, 0), (1, 1), (3, 1), (4, 0), (5, 0)] [] (by kernel_rfl) (by kernel_rfl) (by kernel_rfl) (fun _ _ d _ _ h => by cases d <;> exact h) (Ext.drew (Ext.refl _)) ?_
      iterate 2 ((refine wpPl_read (v := ?_) rfl ?_ (fun _ h => ?_) ?_; rotate_left 1; rfl; (obtain ⟨_, _, rfl⟩ := h.more; go_simp; try rfl)); try simp only [Act.put, zqA, zqB, zqC])
      (refine wpPl_eff rfl ?_ (fun K hK => ?_); rfl; go_simp; (go_at_call 177; (with_reducible refine (hsa _).mono ?_); rintro e w' ⟨rfl, hx⟩; obtain ⟨os1, d1, rfl⟩ := hx.more); refine hK _ _ ?_ ?_; (repeat (first | (with_reducible (first | exact Ext.refl _ | exact ext_d _ _ _ _ | exact ext_app _ _ _ _ _ | exact ext_app2 _ _ _ _ _ _ | exact ext_app3 _ _ _ _ _ _ _ | exact ext_app4 _ _ _ _ _ _ _ _ | exact ext_app5 _ _ _ _ _ _ _ _ _)) | ((with_reducible refine ext_suffix ⟨_, ?_⟩); (try simp only [Array.append_assoc]); rfl) | (with_reducible (first | apply Ext.drew | apply Ext.alloc | apply Ext.more_)) | apply Ext.drew | apply Ext.alloc | apply Ext.more_)))
      try simp only [Act.put, zqA, zqB, zqC]
      (refine wpPl_eff rfl ?_ (fun K hK => ?_); rfl; go_simp; (go_at_call 177; (with_reducible refine (hsb _).mono ?_); rintro e w' ⟨rfl, hx⟩; obtain ⟨os2, d2, rfl⟩ := hx.more); refine hK _ _ ?_ ?_; (repeat (first | (with_reducible (first | exact Ext.refl _ | exact ext_d _ _ _ _ | exact ext_app _ _ _ _ _ | exact ext_app2 _ _ _ _ _ _ | exact ext_app3 _ _ _ _ _ _ _ | exact ext_app4 _ _ _ _ _ _ _ _ | exact ext_app5 _ _ _ _ _ _ _ _ _)) | ((with_reducible refine ext_suffix ⟨_, ?_⟩); (try simp only [Array.append_assoc]); rfl) | (with_reducible (first | apply Ext.drew | apply Ext.alloc | apply Ext.more_)) | apply Ext.drew | apply Ext.alloc | apply Ext.more_)))
      try simp only [Act.put, zqA, zqB, zqC]
      iterate 2 ((refine wpPl_read (v := ?_) rfl ?_ (fun _ h => ?_) ?_; rotate_left 1; rfl; (obtain ⟨_, _, rfl⟩ := h.more; go_simp; try rfl)); try simp only [Act.put, zqA, zqB, zqC])
      refine wpPl_nil ?_
      go_wp2
      go_ret
      exact ⟨rfl, by with_reducible repeat (first | exact Ext.refl _ | apply Ext.drew | apply Ext.alloc | apply Ext.more_)⟩
set_option maxHeartbeats 2000000 in
theorem cmp_any (ma ea mb eb : Int) (w : World) (hma : I64 ma) (hmb : I64 mb) :
    Calls Tryz.prog 168 #[NV ma ea, NV mb eb] w fun e w' => e = .returned (.int .i64 (cmpS ma ea mb eb)) ∧ Ext w w' := by
  unfold cmpS
  by_cases h1 : Rt ma ea
  · have r1 := rtB_yes h1
    by_cases h2 : Rt mb eb
    · rw [if_pos ⟨h1, h2⟩]; exact cmp_yes ma ea mb eb w h1 h2
    · have r2 := rtB_no h2
      rw [if_neg (fun h => h2 h.2)]
      clear h1 h2
      go_enter Tryz.func168, Tryz.ntmps168
      go_wp2_with (go_at_call 111; (with_reducible refine (right_rt _ _ _ (by assumption)).mono ?_); rintro e w' ⟨rfl, hbr⟩; obtain ⟨osr, dr, rfl⟩ := hbr.more)
      go_ret
      exact ⟨rfl, by with_reducible repeat (first | exact Ext.refl _ | apply Ext.drew | apply Ext.alloc | apply Ext.more_)⟩
  · have r1 := rtB_no h1
    rw [if_neg (fun h => h1 h.1)]
    clear h1
    go_enter Tryz.func168, Tryz.ntmps168
    go_wp2_with (go_at_call 111; (with_reducible refine (right_rt _ _ _ (by assumption)).mono ?_); rintro e w' ⟨rfl, hbr⟩; obtain ⟨osr, dr, rfl⟩ := hbr.more)
    go_ret
    exact ⟨rfl, by with_reducible repeat (first | exact Ext.refl _ | apply Ext.drew | apply Ext.alloc | apply Ext.more_)⟩
end Go.Proofs.YteigcfflljoioaaGreatDoor
namespace Go.Proofs.YteigcfflljoioaaGreatDoor
open Go.RowKit NM
def tl (t : ByteArray) : List UInt8 := t.data.toList
theorem tl_append (a b : ByteArray) : tl (a ++ b) = tl a ++ tl b := by unfold tl; simp
theorem tl_size (a : ByteArray) : (tl a).length = a.size := rfl
theorem tl_eq {a : ByteArray} {l : List UInt8} (h : tl a = l) : a = ⟨l.toArray⟩ := bytes_eq h
theorem tl_extract (s : ByteArray) (i j : Nat) (hj : j ≤ s.size) : tl (s.extract i j) = ((tl s).take j).drop i := by
  unfold tl
  rw [ByteArray.data_extract, Array.toList_extract, List.extract_eq_take_drop, List.drop_take]
theorem digit_at {d : Nat} (h : d < 10) : tl ((⟨#[48, 49, 50, 51, 52, 53, 54, 55, 56, 57]⟩ : ByteArray).extract d (d + 1)) = [UInt8.ofNat (48 + d)] := by
  rw [tl_extract _ _ _ (by show d + 1 ≤ 10; omega)]
  match d, h with
  | 0, _ => rfl
  | 1, _ => rfl
  | 2, _ => rfl
  | 3, _ => rfl
  | 4, _ => rfl
  | 5, _ => rfl
  | 6, _ => rfl
  | 7, _ => rfl
  | 8, _ => rfl
  | 9, _ => rfl
theorem text_neg {m ex : Int} {n k E c5 : Nat} (hn : (Lib.decDigits m.natAbs).length = n) (hex : ex = -(E : Int)) (hE : 0 < E) (hk : n + k ≤ max n (E + 1)) (hc : ¬ n + k ≤ E) (h5 : n + k = E + c5) :
    (if m < 0 then [45] else []) ++ ((List.replicate k 48 ++ Lib.decDigits m.natAbs).take c5 ++ 46 :: (List.replicate k 48 ++ Lib.decDigits m.natAbs).drop c5) = textL m ex := by
  unfold textL
  congr 1
  rw [if_neg (show ¬ 0 ≤ ex by omega), hn]
  by_cases hnE : E < n
  · obtain rfl : k = 0 := by omega
    rw [if_pos (by omega), List.replicate_zero, List.nil_append]
    have : ((n : Int) + ex).toNat = c5 := by omega
    rw [this]
  · rw [if_neg (by omega)]
    obtain ⟨k', rfl⟩ : ∃ k', k = k' + 1 := ⟨k - 1, by omega⟩
    have h1 : c5 = 1 := by omega
    have h2 : (-((n : Int) + ex)).toNat = k' := by omega
    rw [h1, h2, List.replicate_succ]
    rfl
theorem text_pos {m ex : Int} {j : Nat} (hex : 0 ≤ ex) (hj : j = ex.toNat) : (if m < 0 then [45] else []) ++ (Lib.decDigits m.natAbs ++ List.replicate j 48) = textL m ex := by
  unfold textL
  rw [if_pos hex, hj]
def strLen : Value → Nat
  | .string t => t.size
  | _ => 0
set_option maxHeartbeats 2000000 in
theorem rtext_any (m ex : Int) (w : World) (hm : I64 m) :
    Calls Tryz.prog 146 #[NV m ex] w fun e w' => e = .returned (.string (textS m ex)) ∧ Ext w w' := by
  unfold textS
  by_cases h : Rt m ex
  · rw [if_pos h]
    have r1 := rtB_yes h
    by_cases h0 : m = 0
    · obtain rfl : ex = 0 := by
        rcases h with h | h
        · exact h.2
        · exact absurd h0 h.1
      subst h0
      have ht : textB 0 0 = ⟨#[48]⟩ := by
        unfold textB textL
        rw [show (0 : Int).natAbs = 0 from rfl, Lib.decDigits_one (by decide)]
        rfl
      rw [ht]
      clear ht h
      go_enter Tryz.func146, Tryz.ntmps146
      go_wp2_with (go_at_call 38; (with_reducible refine (rright_rt _ _ _ (by assumption)).mono ?_); rintro e w' ⟨rfl, hbr⟩; obtain ⟨osr, dr, rfl⟩ := hbr.more)
      exact bodyPost_ret (v := .string ⟨#[48]⟩) (by simp [results, Tryz.results146, go_sem]) rfl ⟨rfl, by with_reducible repeat (first | exact Ext.refl _ | apply Ext.drew | apply Ext.alloc | apply Ext.more_)⟩
    · obtain ⟨b1, b2, b3⟩ := Rt_bd h
      have hL : Lib.decDigits m.natAbs = (dig m.natAbs).map fun d => UInt8.ofNat (48 + d) := by rw [dec_dig, dig0_pos (by omega)]
      have hndp : 0 < nd m.natAbs := by
        rcases Nat.eq_zero_or_pos (nd m.natAbs) with h1 | h1
        · have := nd_eq_zero.1 h1; omega
        · exact h1
      have hdl := dig_length m.natAbs
      have hda := dig_all m.natAbs
      have hnd : nd m.natAbs ≤ 15 := (nd_le_iff _ _).2 (by have : T 15 = 1000000000000000 := by decide
                                                           omega)
      generalize hTX : textB m ex = TX
      have HTX := Lib.hid hTX
      have HL := Lib.hid hL
      have HDL := Lib.hid hdl
      have HDA := Lib.hid hda
      have h0' : (m == 0) = false := by simp [h0]
      have hdg := fun W => rdigits m W hm
      clear hTX hL hdl hda h h0
      generalize nd m.natAbs = n at *
      go_enter Tryz.func146, Tryz.ntmps146
      go_upto_block 0 with (first | (go_at_call 38; (with_reducible refine (rright_rt _ _ _ (by assumption)).mono ?_); rintro e w' ⟨rfl, hbr⟩; obtain ⟨osr, dr, rfl⟩ := hbr.more) | (go_at_call 63; (with_reducible refine (hdg _).mono ?_); rintro e w' ⟨A, c, rfl, hrd, hcap, hx⟩; obtain ⟨osd, dd, rfl⟩ := hx.more))
      refine wp_world fun W hW => ?_
      have a0 : W.cell? ⟨w.heap.size, 0, none⟩ = some (.int .i64 m) := by rw [hW]; go_simp
      have a1 : W.cell? ⟨w.heap.size, 1, none⟩ = some (.int .i64 ex) := by rw [hW]; go_simp
      have hz : w.heap.size < W.heap.size := by rw [hW]; simp; try omega
      have hxW : Ext w W := by rw [hW]; exact by with_reducible repeat (first | exact Ext.refl _ | apply Ext.drew | apply Ext.alloc | apply Ext.more_)
      have HRD : Hid (Rd 0 W A (i6 (dig m.natAbs))) := by show Rd _ _ _ _; rw [hW]; rw [more_more] at hrd; exact hrd.mono (Nat.zero_le _)
      clear hW hrd hx hbr
      go_wp2_with fail
      go_loopw [4, 5] (fun s4 s5 wr => ∃ (j : Nat) (t : ByteArray), j ≤ n ∧ s4 = .string t ∧ s5 = .int .i64 (j : Int) ∧ t.size = j ∧ Ext W wr ∧ Hid (tl t = ((dig m.natAbs).take j).map fun d => UInt8.ofNat (48 + d))) (fun _ s5 _ => n - (intOf s5).toNat)
      case atStart => exact ⟨0, ⟨#[]⟩, Nat.zero_le _, rfl, rfl, rfl, Ext.refl _, by show _ = _; rfl⟩
      case round =>
        obtain ⟨j, t, hj, rfl, rfl, htj, hxr, HT⟩ := hrel
        by_cases hjn : j < n
        · obtain ⟨d, hd⟩ : ∃ d, (dig m.natAbs)[j]? = some d := ⟨_, List.getElem?_eq_getElem (by rw [HDL.out]; exact hjn)⟩
          have hd10 : d < 10 := HDA.out d (List.mem_of_getElem? hd)
          obtain ⟨b, off, rfl, hb, hcell⟩ := Rd.at_ (HRD.out.ext hxr) hd
          have hbl := lt_of_cell hcell
          have HD := Lib.hid hd
          have HTJ := Lib.hid htj
          clear hd htj
          have w1 : IntKind.i64.wrap ((d : Int) + 1) = ((d + 1 : Nat) : Int) := i64w (by omega) (by omega)
          have g1 : (0 : Int) ≤ (d : Int) + 1 ∧ (d : Int) + 1 ≤ 10 := by omega
          have g2 : (d : Int) ≤ (d : Int) + 1 := by omega
          have g3 : t.size ≤ 15 := by have := HTJ.out; omega
          have g4 : min (d + 1) 10 - d = 1 := by omega
          have g5 : ¬ 9223372036854775807 < t.size + 1 := by omega
          go_upto_region 10 with fail
          refine wp_plan (S := Ext _) [(0, 0), (1, 0), (2, 0), (3, 0), (4, 0), (5, 0), (6, 0), (7, 0), (8, 0), (9, 0), (10, 0), (11, 0), (12, 0)] [] (by kernel_rfl) (by kernel_rfl) (by kernel_rfl) (fun _ _ d _ _ h => by cases d <;> exact h) (Ext.drew (Ext.refl _)) ?_
          iterate 13 ((refine wpPl_read (v := ?_) rfl ?_ (fun _ h => ?_) ?_; rotate_left 1; rfl; (obtain ⟨_, _, rfl⟩ := h.more; go_simp; try rfl)); try simp only [Act.put, zqA, zqB, zqC])
          refine wpPl_nil ?_
          go_wp2_with fail
          refine ⟨⟨j + 1, _, by omega, rfl, by go_num, ?_, by with_reducible repeat (first | exact hxr | exact Ext.refl _ | apply Ext.drew | apply Ext.more_), ?_⟩, by simp [intOf]; omega⟩
          · have h1 := congrArg List.length (digit_at hd10)
            rw [tl_size] at h1
            rw [ByteArray.size_append, HTJ.out]
            exact congrArg (j + ·) h1
          · show tl _ = _
            rw [take_at HD.out, List.map_append, tl_append, HT.out]
            exact congrArg _ (digit_at hd10)
        · obtain rfl : n = j := by omega
          have HS : Hid (tl t = Lib.decDigits m.natAbs) := by
            show _ = _
            rw [HT.out, HL.out, List.take_of_length_le (by rw [HDL.out]; exact Nat.le_refl _)]
          have HN := Lib.hid htj
          have hxw := hxW.trans hxr
          have a0r := hxr.cell_some a0
          have a1r := hxr.cell_some a1
          have hzr : w.heap.size < wr.heap.size := by have := hxr.size; omega
          have ht15 : t.size ≤ 15 := by omega
          clear hj hjn htj HT hdg HRD hxW hxr a0 a1 hz HDA HDL
          go_wp2_with fail
          go_loopw [4, 6] (fun s4 s6 wx => wx = wr ∧ ∃ (j : Nat) (t : ByteArray), j ≤ ex.toNat ∧ s4 = .string t ∧ s6 = .int .i64 (j : Int) ∧ t.size ≤ 15 + j ∧ Hid (tl t = Lib.decDigits m.natAbs ++ List.replicate j 48)) (fun _ s6 _ => ex.toNat - (intOf s6).toNat)
          case atStart => exact ⟨rfl, 0, t, Nat.zero_le _, rfl, rfl, by omega, by show _ = _; rw [List.replicate_zero, List.append_nil]; exact HS.out⟩
          case round =>
            obtain ⟨hwx, j, t2, hj, rfl, rfl, ht2, HT2⟩ := hrel
            subst hwx
            have g5 : ¬ 9223372036854775807 < t2.size + 1 := by omega
            by_cases hje : (j : Int) < ex
            · go_wp2_with fail
              refine ⟨⟨trivial, j + 1, _, by omega, rfl, by go_num, by rw [ByteArray.size_append]; show t2.size + 1 ≤ _; omega, ?_⟩, by simp [intOf]; omega⟩
              show tl _ = _
              rw [tl_append, HT2.out, List.replicate_succ', List.append_assoc]; rfl
            · have hjx : Hid (j = ex.toNat) := by show _ = _; omega
              by_cases he : ex < 0
              · have hj0 : j = 0 := by have := hjx.out; omega
                subst hj0
                obtain ⟨E, hE⟩ : ∃ E : Nat, ex = -(E : Int) := ⟨(-ex).toNat, by omega⟩
                have hE0 : 0 < E ∧ E ≤ 40 := by omega
                have HE := Lib.hid hE
                have HT3 : Hid (tl t2 = Lib.decDigits m.natAbs) := by show _ = _; rw [HT2.out, List.replicate_zero, List.append_nil]
                have HN2 : Hid (t2.size = n) := by show _ = _; rw [← tl_size, HT3.out, ← HS.out, tl_size]; exact HN.out
                have w1 : IntKind.i64.wrap (-ex) = (E : Int) := by rw [i64w (by omega) (by omega)]; omega
                have w2 : -ex = (E : Int) := by omega
                clear hE HT2 hje
                go_wp2_with fail
                go_loopw [4] (fun s4 wx => wx = wr ∧ ∃ (k : Nat) (t : ByteArray), s4 = .string t ∧ t.size = n + k ∧ n + k ≤ max n (E + 1) ∧ Hid (tl t = List.replicate k 48 ++ Lib.decDigits m.natAbs)) (fun s4 _ => 100 - strLen s4)
                case atStart => exact ⟨rfl, 0, t2, rfl, HN2.out, by omega, HT3⟩
                case round =>
                  obtain ⟨hwx, k, t4, rfl, ht4, hk, HT4⟩ := hrel
                  subst hwx
                  have hk2 : n + k ≤ 56 := by omega
                  have HK := Lib.hid ht4
                  have ht4' : t4.size ≤ 56 := by omega
                  by_cases hc : n + k ≤ E
                  · have hc' : (t4.size : Int) ≤ (E : Int) := by omega
                    clear ht4
                    go_wp2_with fail
                    refine ⟨⟨trivial, k + 1, _, rfl, ?_, by omega, ?_⟩, ?_⟩
                    · rw [ByteArray.size_append, HK.out]; show 1 + (n + k) = _; omega
                    · show tl _ = _
                      rw [tl_append, HT4.out, List.replicate_succ]; rfl
                    · have h1 : (⟨#[48]⟩ ++ t4 : ByteArray).size = 1 + t4.size := by rw [ByteArray.size_append]; rfl
                      show 100 - (⟨#[48]⟩ ++ t4 : ByteArray).size < 100 - t4.size
                      omega
                  · have hc' : ¬ (t4.size : Int) ≤ (E : Int) := by omega
                    obtain ⟨c5, hc5⟩ : ∃ c5 : Nat, t4.size = E + c5 := ⟨t4.size - E, by omega⟩
                    have e5 : (t4.size : Int) + ex = (c5 : Int) := by have := HE.out; omega
                    have w3 : IntKind.i64.wrap ((t4.size : Int) + ex) = (c5 : Int) := by rw [e5]; exact i64w (by omega) (by omega)
                    have g6 : (0 : Int) ≤ (c5 : Int) ∧ (c5 : Int) ≤ (t4.size : Int) := by omega
                    have g7 : c5 ≤ t4.size := by omega
                    have HC5 : Hid (c5 = n + k - E) := by show _ = _; omega
                    have HX : Hid ((if m < 0 then [45] else []) ++ (tl (t4.extract 0 c5) ++ 46 :: tl (t4.extract c5 t4.size)) = textL m ex) := by
                      have hdl : (Lib.decDigits m.natAbs).length = n := by rw [← HS.out]; exact HN.out
                      rw [tl_extract _ _ _ g7, tl_extract _ _ _ (Nat.le_refl _), List.drop_zero, List.take_of_length_le (i := t4.size) (l := tl t4) (by rw [tl_size]; exact Nat.le_refl _), HT4.out]
                      exact text_neg hdl HE.out hE0.1 hk hc (by omega)
                    have g8 : ¬ 9223372036854775807 < c5 + 1 := by omega
                    have g9 : ¬ 9223372036854775807 < c5 + 1 + (t4.size - c5) := by omega
                    clear ht4 hc HK hc5 e5
                    go_upto_region 18 with fail
                    refine wp_plan (S := Ext _) [(0, 0), (1, 0), (2, 0), (3, 0), (4, 0), (5, 0), (6, 0), (7, 0), (8, 0), (9, 0), (10, 0), (11, 0), (12, 0), (13, 0), (14, 0), (15, 0), (16, 0)] [] (by kernel_rfl) (by kernel_rfl) (by kernel_rfl) (fun _ _ d _ _ h => by cases d <;> exact h) (Ext.drew (Ext.refl _)) ?_
                    iterate 17 ((refine wpPl_read (v := ?_) rfl ?_ (fun _ h => ?_) ?_; rotate_left 1; rfl; (obtain ⟨_, _, rfl⟩ := h.more; go_simp; try rfl)); try simp only [Act.put, zqA, zqB, zqC])
                    refine wpPl_nil ?_
                    by_cases hneg : m < 0
                    · have HNG := Lib.hid hneg
                      go_wp2_with fail
                      go_ret
                      refine ⟨ret_str ?_, hxw.drew⟩
                      rw [← HTX.out]
                      apply tl_eq
                      rw [← HX.out, if_pos HNG.out, tl_append, tl_append, tl_append, List.append_assoc]; rfl
                    · have HNG := Lib.hid hneg
                      go_wp2_with fail
                      go_ret
                      refine ⟨ret_str ?_, hxw.drew⟩
                      rw [← HTX.out]
                      apply tl_eq
                      rw [← HX.out, if_neg (by have := HNG.out; omega), tl_append, tl_append, List.append_assoc]; rfl
              · have HX : Hid ((if m < 0 then [45] else []) ++ tl t2 = textL m ex) := by
                  show _ = _
                  rw [HT2.out]; exact text_pos (by omega) hjx.out
                have ht2' : t2.size ≤ 55 := by omega
                by_cases hneg : m < 0
                · have HNG := Lib.hid hneg
                  go_wp2_with fail
                  go_ret
                  refine ⟨ret_str ?_, hxw⟩
                  rw [← HTX.out]
                  apply tl_eq
                  rw [← HX.out, if_pos HNG.out, tl_append]; rfl
                · have HNG := Lib.hid hneg
                  go_wp2_with fail
                  go_ret
                  refine ⟨ret_str ?_, hxw⟩
                  rw [← HTX.out]
                  apply tl_eq
                  rw [← HX.out, if_neg (by have := HNG.out; omega)]; rfl
  · rw [if_neg h]
    have r1 := rtB_no h
    clear h
    go_enter Tryz.func146, Tryz.ntmps146
    go_wp2_with (go_at_call 38; (with_reducible refine (rright_rt _ _ _ (by assumption)).mono ?_); rintro e w' ⟨rfl, hbr⟩; obtain ⟨osr, dr, rfl⟩ := hbr.more)
    exact bodyPost_ret (v := .string ⟨#[]⟩) (by simp [results, Tryz.results146, go_sem]) rfl ⟨rfl, by with_reducible repeat (first | exact Ext.refl _ | apply Ext.drew | apply Ext.alloc | apply Ext.more_)⟩
end Go.Proofs.YteigcfflljoioaaGreatDoor
namespace Go.Proofs.YteigcfflljoioaaGreatDoor
open Go.RowKit NM
def upB (b : UInt8) : UInt8 := if 97 ≤ b ∧ b ≤ 122 then b - 32 else b
def foldB (s : ByteArray) : ByteArray := ⟨((tl s).map upB).toArray⟩
theorem tl_fold (s : ByteArray) : tl (foldB s) = (tl s).map upB := by unfold foldB; rfl
theorem foldB_size (s : ByteArray) : (foldB s).size = s.size := by rw [← tl_size, tl_fold, List.length_map, tl_size]
def cmpT (a b : ByteArray) : Int := Lib.compareBytes (tl (foldB a)) (tl (foldB b))
def sgI (a b : Int) : Int := if a < b then -1 else if b < a then 1 else 0
def sgB (a b : Bool) : Int := if a = b then 0 else if b then -1 else 1
def Val.only (k : Int) : Val := ⟨k, 0, 0, ⟨#[]⟩, false, 0⟩
/-- value.beside. -/
def besideV (v w : Val) : Val := if v.kind ≠ 0 then v else if w.kind = 1 ∨ w.kind = 2 ∨ w.kind = 3 then Val.only w.kind else v
def cmpK (a b : Val) : Int :=
  if a.kind ≠ b.kind then (if a.kind < b.kind then -1 else 1)
  else if a.kind = 1 then cmpS a.mant a.exp b.mant b.exp
  else if a.kind = 2 then cmpT a.text b.text
  else if a.kind = 3 then sgB a.truth b.truth
  else if a.kind = 4 then sgI a.fault b.fault
  else 0
/-- value.Compare. -/
def cmpV (a b : Val) : Int := cmpK (besideV a b) (besideV b a)
/-- counterpaneref02.sign. -/
def sgn2 (l m : Bool) : Int := if l then -1 else if m then 1 else 0
theorem cb_refl : ∀ a : List UInt8, Lib.compareBytes a a = 0
  | [] => rfl
  | a :: l => by
    unfold Lib.compareBytes
    rw [if_neg (UInt8.lt_irrefl a), if_neg (UInt8.lt_irrefl a)]
    exact cb_refl l
theorem cb_flip : ∀ a b : List UInt8, Lib.compareBytes b a = - Lib.compareBytes a b
  | [], [] => rfl
  | [], _ :: _ => rfl
  | _ :: _, [] => rfl
  | a :: l, b :: m => by
    unfold Lib.compareBytes
    by_cases h1 : a < b
    · rw [if_pos h1, if_neg (UInt8.lt_asymm h1), if_pos h1]; rfl
    · by_cases h2 : b < a
      · rw [if_pos h2, if_neg h1, if_pos h2]
      · rw [if_neg h2, if_neg h1, if_neg h1, if_neg h2]; exact cb_flip l m
theorem cb_vals : ∀ a b : List UInt8, Lib.compareBytes a b = -1 ∨ Lib.compareBytes a b = 0 ∨ Lib.compareBytes a b = 1
  | [], [] => Or.inr (Or.inl rfl)
  | [], _ :: _ => Or.inl rfl
  | _ :: _, [] => Or.inr (Or.inr rfl)
  | a :: l, b :: m => by
    unfold Lib.compareBytes
    split
    · exact Or.inl rfl
    · split
      · exact Or.inr (Or.inr rfl)
      · exact cb_vals l m
theorem cb_zero : ∀ {a b : List UInt8}, Lib.compareBytes a b = 0 → a = b
  | [], [], _ => rfl
  | [], _ :: _, h => by cases h
  | _ :: _, [], h => by cases h
  | a :: l, b :: m, h => by
    unfold Lib.compareBytes at h
    by_cases h1 : a < b
    · rw [if_pos h1] at h; cases h
    · rw [if_neg h1] at h
      by_cases h2 : b < a
      · rw [if_pos h2] at h; cases h
      · rw [if_neg h2] at h
        have : a = b := by
          rw [UInt8.lt_iff_toNat_lt] at h1 h2
          exact UInt8.toNat_inj.1 (by omega)
        rw [this, cb_zero h]
/-- The model's order of strings, and what compares them. -/
theorem less_cb : ∀ a b : List UInt8, Op.bytesLess a b = decide (Lib.compareBytes a b = -1)
  | [], [] => rfl
  | [], _ :: _ => rfl
  | _ :: _, [] => rfl
  | a :: l, b :: m => by
    unfold Op.bytesLess Lib.compareBytes
    by_cases h1 : a < b
    · rw [if_pos h1, decide_eq_true h1]; rfl
    · rw [if_neg h1, decide_eq_false h1, Bool.false_or]
      by_cases h2 : b < a
      · rw [if_pos h2]
        have : (a == b) = false := by
          rw [beq_eq_false_iff_ne]; rintro rfl; exact UInt8.lt_irrefl _ h2
        rw [this]; rfl
      · rw [if_neg h2]
        have : (a == b) = true := by
          rw [beq_iff_eq]
          rw [UInt8.lt_iff_toNat_lt] at h1 h2
          exact UInt8.toNat_inj.1 (by omega)
        rw [this, Bool.true_and]; exact less_cb l m
theorem sgn2_cb (a b : List UInt8) : sgn2 (Op.bytesLess a b) (!(Op.bytesLess a b || a == b)) = Lib.compareBytes a b := by
  rw [less_cb]
  rcases cb_vals a b with h | h | h
  · rw [h]; rfl
  · have : (a == b) = true := by rw [beq_iff_eq]; exact cb_zero h
    rw [h, this]; rfl
  · have : (a == b) = false := by rw [beq_eq_false_iff_ne]; rintro rfl; rw [cb_refl] at h; cases h
    rw [h, this]; rfl
theorem sgn2_bool (a b : Bool) : sgn2 (!a && b) (a && !b) = sgB a b := by cases a <;> cases b <;> rfl
theorem sgn2_int (a b : Int) : sgn2 (decide (a < b)) (decide (b < a)) = sgI a b := by
  unfold sgn2 sgI
  by_cases h1 : a < b
  · simp [h1]
  · by_cases h2 : b < a <;> simp [h1, h2]
/-- A kind that may be, and nothing told beside it where there is nothing. -/
def Val.sane (x : Val) : Prop := 0 ≤ x.kind ∧ x.kind ≤ 4 ∧ (x.kind = 0 → x.fault = 0)
/-- Blank has nothing told. -/
def Val.tidy (x : Val) : Prop := x.sane ∧ (x.kind = 0 → x = Val.only 0)
/-- What a right value is. -/
theorem right_cases {x : Val} (h : valRight x = true) : x.tidy ∧ (x.kind = 1 → numRightB x.mant x.exp = true) ∧ (x.kind = 2 → x.text.size ≤ 255) ∧ (x.kind = 4 → 1 ≤ x.fault ∧ x.fault ≤ 9) := by
  unfold valRight at h
  by_cases h0 : x.kind = 0
  · rw [if_pos h0] at h
    have := of_decide_eq_true h
    subst this
    exact ⟨⟨⟨by decide, by decide, fun _ => rfl⟩, fun _ => rfl⟩, fun h => absurd h (by decide), fun h => absurd h (by decide), fun h => absurd h (by decide)⟩
  · rw [if_neg h0] at h
    by_cases h1 : x.kind = 1
    · rw [if_pos h1, Bool.and_eq_true] at h
      exact ⟨⟨⟨by omega, by omega, fun h => by omega⟩, fun h => by omega⟩, fun _ => h.1, fun h => by omega, fun h => by omega⟩
    · rw [if_neg h1] at h
      by_cases h2 : x.kind = 2
      · rw [if_pos h2] at h
        have := of_decide_eq_true h
        refine ⟨⟨⟨by omega, by omega, fun h => by omega⟩, fun h => by omega⟩, fun h => by omega, fun _ => ?_, fun h => by omega⟩
        unfold textV at this
        by_cases h5 : 255 < x.text.size
        · rw [if_pos h5] at this; rw [this] at h2; cases h2
        · omega
      · rw [if_neg h2] at h
        by_cases h3 : x.kind = 3
        · exact ⟨⟨⟨by omega, by omega, fun h => by omega⟩, fun h => by omega⟩, fun h => by omega, fun h => by omega, fun h => by omega⟩
        · rw [if_neg h3] at h
          by_cases h4 : x.kind = 4
          · rw [if_pos h4] at h
            have := of_decide_eq_true h
            refine ⟨⟨⟨by omega, by omega, fun h => by omega⟩, fun h => by omega⟩, fun h => by omega, fun h => by omega, fun _ => ?_⟩
            have hf : x.fault = badF x.fault := congrArg Val.fault this
            unfold badF at hf
            split at hf <;> omega
          · rw [if_neg h4] at h; cases h
end Go.Proofs.YteigcfflljoioaaGreatDoor
namespace Go.Proofs.YteigcfflljoioaaGreatDoor
open Go.RowKit NM
/-- Where num's reader stands. -/
structure St where
  st : Nat
  neg : Bool
  npow : Bool
  ds : List Nat
  beh : Nat
  pow : Nat
def isD (c : Nat) : Bool := decide (48 ≤ c ∧ c ≤ 57)
def digS (s : St) (c : Nat) : St :=
  if s.st ≤ 2 then { s with st := 2, ds := s.ds ++ [c - 48] }
  else if s.st ≤ 4 then { s with st := 4, beh := s.beh + 1, ds := s.ds ++ [c - 48] }
  else { s with st := 7, pow := if s.pow < 100000 then s.pow * 10 + (c - 48) else s.pow }
def takeS (s : St) (c : Nat) : Option St :=
  if isD c = true then some (digS s c)
  else if c = 45 ∧ s.st = 0 then some { s with neg := true, st := 1 }
  else if c = 46 ∧ s.st ≤ 2 then some { s with st := 3 }
  else if (c = 101 ∨ c = 69) ∧ (s.st = 2 ∨ s.st = 4) then some { s with st := 5 }
  else if (c = 45 ∨ c = 43) ∧ s.st = 5 then some { s with npow := decide (c = 45), st := 6 }
  else none
def runS : List Nat → St → Option St
  | [], s => some s
  | c :: l, s => (takeS s c).bind (runS l)
def endS (s : St) : Option (Int × Int) :=
  if s.st = 2 ∨ s.st = 4 ∨ s.st = 7 then rnd s.neg (val s.ds) false ((if s.npow then -(s.pow : Int) else s.pow) - s.beh) else none
def st0 : St := ⟨0, false, false, [], 0, 0⟩
def parM (l : List Nat) : Option (Int × Int) := (runS l st0).bind endS
/-- What the document says. -/
def powC (c : Nat) (t : List Nat) : Option Int :=
    if c ≠ 101 ∧ c ≠ 69 then none else
    let ng := t.head? = some 45
    let t' := if t.head? = some 43 ∨ t.head? = some 45 then t.tail else t
    if t' = [] ∨ ¬ (∀ c ∈ t', isD c = true) then none else
    let n : Nat := t'.foldl (fun n c => min 1000 (10 * n + (c - 48))) 0
    some (if ng then -(n : Int) else n)
def powR : List Nat → Option Int
  | [] => some 0
  | c :: t => powC c t
theorem powR_cons (c : Nat) (t : List Nat) : powR (c :: t) = powC c t := rfl
def parR (l : List Nat) : Option (Int × Int) :=
  let ng := decide (l.head? = some 45)
  let l1 := if l.head? = some 45 then l.tail else l
  let A := l1.takeWhile isD
  let l2 := l1.dropWhile isD
  let B := if l2.head? = some 46 then l2.tail.takeWhile isD else []
  let l3 := if l2.head? = some 46 then l2.tail.dropWhile isD else l2
  if l2.head? = some 46 ∧ B = [] then none else
  match powR l3 with
  | none => none
  | some e => if A.length + B.length = 0 then none else rnd ng (val ((A ++ B).map (· - 48))) false (e - B.length)
theorem runS_append (a b : List Nat) : ∀ s, runS (a ++ b) s = (runS a s).bind (runS b) := by
  induction a with
  | nil => intro s; rfl
  | cons c l ih =>
    intro s
    show (takeS s c).bind (runS (l ++ b)) = ((takeS s c).bind (runS l)).bind (runS b)
    cases takeS s c with
    | none => rfl
    | some s' => exact ih s'
theorem run_whole (a : List Nat) (h : ∀ c ∈ a, isD c = true) : ∀ s : St, s.st ≤ 2 → runS a s = some { s with st := if a = [] then s.st else 2, ds := s.ds ++ a.map (· - 48) } := by
  induction a with
  | nil => intro s hs; simp [runS]
  | cons c l ih =>
    intro s hs
    have hc := h c (List.mem_cons_self ..)
    show (takeS s c).bind (runS l) = _
    unfold takeS
    rw [if_pos hc]
    unfold digS
    rw [if_pos hs, Option.bind_some, ih (fun c hc => h c (List.mem_cons_of_mem _ hc)) _ (Nat.le_refl 2)]
    simp
theorem run_part (a : List Nat) (h : ∀ c ∈ a, isD c = true) : ∀ s : St, s.st = 3 ∨ s.st = 4 → runS a s = some { s with st := if a = [] then s.st else 4, ds := s.ds ++ a.map (· - 48), beh := s.beh + a.length } := by
  induction a with
  | nil => intro s hs; simp [runS]
  | cons c l ih =>
    intro s hs
    have hc := h c (List.mem_cons_self ..)
    show (takeS s c).bind (runS l) = _
    unfold takeS
    rw [if_pos hc]
    unfold digS
    rw [if_neg (by omega), if_pos (by omega), Option.bind_some, ih (fun c hc => h c (List.mem_cons_of_mem _ hc)) _ (Or.inr rfl)]
    simp; omega
def powF (p : Nat) (l : List Nat) : Nat := l.foldl (fun p c => if p < 100000 then p * 10 + (c - 48) else p) p
theorem run_pow (a : List Nat) (h : ∀ c ∈ a, isD c = true) : ∀ s : St, 5 ≤ s.st → runS a s = some { s with st := if a = [] then s.st else 7, pow := powF s.pow a } := by
  induction a with
  | nil => intro s hs; simp [runS, powF]
  | cons c l ih =>
    intro s hs
    have hc := h c (List.mem_cons_self ..)
    show (takeS s c).bind (runS l) = _
    unfold takeS
    rw [if_pos hc]
    unfold digS
    rw [if_neg (by omega), if_neg (by omega), Option.bind_some, ih (fun c hc => h c (List.mem_cons_of_mem _ hc)) _ (show 5 ≤ 7 by omega)]
    simp [powF]
theorem pow_two (l : List Nat) : ∀ p n : Nat, (p = n ∧ n < 1000 ∨ 1000 ≤ p ∧ n = 1000) → (powF p l = l.foldl (fun n c => min 1000 (10 * n + (c - 48))) n ∧ l.foldl (fun n c => min 1000 (10 * n + (c - 48))) n < 1000 ∨ 1000 ≤ powF p l ∧ l.foldl (fun n c => min 1000 (10 * n + (c - 48))) n = 1000) := by
  induction l with
  | nil => intro p n h; exact h
  | cons c l ih =>
    intro p n h
    show (powF (if p < 100000 then p * 10 + (c - 48) else p) l = _ ∧ _ ∨ _)
    apply ih
    show _ = min 1000 (10 * n + (c - 48)) ∧ min 1000 (10 * n + (c - 48)) < 1000 ∨ _ ∧ min 1000 (10 * n + (c - 48)) = 1000
    split <;> omega
theorem rnd_low_ {neg : Bool} {N : Nat} {e : Int} (h : nd N + e ≤ -100) : rnd neg N false e = some (0, 0) := by
  apply rnd_of_zero
  unfold n2
  apply cutN_far
  have h1 := n1_le N false
  have h2 : nd (n1 N false) ≤ 16 := (nd_le_iff _ _).2 (Nat.lt_of_le_of_lt h1 (T_lt (by omega)))
  omega
/-- Beyond a thousand a power of ten counts no more. -/
theorem rnd_same {neg ng : Bool} {N b p n : Nat} (hN : nd N ≤ 300) (hb : b ≤ 300) (h : p = n ∧ n < 1000 ∨ 1000 ≤ p ∧ n = 1000) : rnd neg N false ((if ng then -(p : Int) else p) - b) = rnd neg N false ((if ng then -(n : Int) else n) - b) := by
  rcases h with ⟨rfl, _⟩ | ⟨h1, rfl⟩
  · rfl
  · cases ng with
    | true =>
      simp only [if_true]
      rw [rnd_low_ (by omega), rnd_low_ (by omega)]
    | false =>
      simp only [Bool.false_eq_true, if_false]
      by_cases h0 : N = 0
      · rw [h0, rnd_nought, rnd_nought]
      · rw [rnd_far_up h0 (by omega), rnd_far_up h0 (by omega)]
theorem split_d (l : List Nat) : l = l.takeWhile isD ++ l.dropWhile isD := (List.takeWhile_append_dropWhile).symm
theorem take_d (l : List Nat) : ∀ c ∈ l.takeWhile isD, isD c = true := by
  intro c hc
  have := List.all_takeWhile (l := l) (p := isD)
  exact List.all_eq_true.1 this c hc
theorem drop_d {l : List Nat} {c : Nat} {t : List Nat} (h : l.dropWhile isD = c :: t) : isD c = false := by
  have := List.head?_dropWhile_not isD l
  rw [h] at this
  simpa using this
theorem run_digits {s : St} {t : List Nat} (hs : s.st = 5 ∨ s.st = 6) (hh : s.st = 5 → t.head? ≠ some 43 ∧ t.head? ≠ some 45) :
    (runS t s).bind endS = if t = [] ∨ ¬ (∀ c ∈ t, isD c = true) then none else rnd s.neg (val s.ds) false ((if s.npow then -(powF s.pow t : Int) else powF s.pow t) - s.beh) := by
  have h1 := split_d t
  have h2 := take_d t
  have h3 := fun c u => drop_d (l := t) (c := c) (t := u)
  generalize t.takeWhile isD = K at *
  generalize t.dropWhile isD = l4 at *
  subst h1
  rw [runS_append, run_pow K h2 s (by omega), Option.bind_some]
  cases l4 with
  | nil =>
    rw [List.append_nil]
    by_cases hK : K = []
    · subst hK
      rw [if_pos (Or.inl rfl)]
      show endS _ = none
      unfold endS
      rw [if_neg]
      simp; omega
    · have hcond : ¬ (K = [] ∨ ¬ (∀ c ∈ K, isD c = true)) := fun hx => hx.elim hK (fun h => h h2)
      rw [if_neg hcond]
      show endS _ = _
      unfold endS
      rw [if_pos (by simp [hK])]
  | cons c u =>
    have hc := h3 c u rfl
    rw [if_pos (Or.inr (fun h => by rw [h c (by simp)] at hc; cases hc))]
    have : takeS { s with st := if K = [] then s.st else 7, pow := powF s.pow K } c = none := by
      unfold takeS
      rw [if_neg (by rw [hc]; simp)]
      by_cases hK : K = []
      · subst hK
        simp only [if_true]
        rw [if_neg (by omega), if_neg (by omega), if_neg (by omega), if_neg]
        rintro ⟨h, h5⟩
        have := hh h5
        simp at this
        omega
      · simp only [if_neg hK]
        rw [if_neg (by omega), if_neg (by omega), if_neg (by omega), if_neg (by omega)]
    show ((takeS _ c).bind (runS u)).bind endS = none
    rw [this]; rfl
theorem run_tail {s : St} {l : List Nat} (hs : s.st = 2 ∧ l.head? ≠ some 46 ∨ s.st = 4) (hp : s.pow = 0) (hn : s.npow = false) (hd : ∀ c t, l = c :: t → isD c = false) (h1 : nd (val s.ds) ≤ 300) (h2 : s.beh ≤ 300) :
    (runS l s).bind endS = match powR l with
      | none => none
      | some e => rnd s.neg (val s.ds) false (e - s.beh) := by
  cases l with
  | nil =>
    show endS s = rnd s.neg (val s.ds) false (0 - s.beh)
    unfold endS
    rw [if_pos (by omega), hp, hn]; rfl
  | cons c t =>
    have hc := hd c t rfl
    by_cases he : c ≠ 101 ∧ c ≠ 69
    · have : powR (c :: t) = none := by rw [powR_cons]; unfold powC; rw [if_pos he]
      rw [this]
      have : takeS s c = none := by
        unfold takeS
        simp at hs
        rw [if_neg (by rw [hc]; simp), if_neg (by omega), if_neg (by omega), if_neg (by omega), if_neg (by omega)]
      show ((takeS s c).bind (runS t)).bind endS = none
      rw [this]; rfl
    · have ht : takeS s c = some { s with st := 5 } := by
        unfold takeS
        rw [if_neg (by rw [hc]; simp), if_neg (by omega), if_neg (by omega), if_pos (by omega)]
      show ((takeS s c).bind (runS t)).bind endS = _
      rw [ht, Option.bind_some]
      rw [powR_cons]
      unfold powC
      rw [if_neg he]
      simp only
      by_cases hsg : t.head? = some 43 ∨ t.head? = some 45
      · rw [if_pos hsg]
        obtain ⟨c', u, rfl⟩ : ∃ c' u, t = c' :: u := by
          cases t with
          | nil => simp at hsg
          | cons c' u => exact ⟨c', u, rfl⟩
        simp only [List.head?_cons, Option.some.injEq, List.tail_cons] at hsg ⊢
        have ht' : takeS { s with st := 5 } c' = some { s with npow := decide (c' = 45), st := 6 } := by
          rcases hsg with rfl | rfl <;> simp [takeS, isD]
        show ((takeS { s with st := 5 } c').bind (runS u)).bind endS = _
        rw [ht', Option.bind_some, run_digits (Or.inr rfl) (fun h => absurd h (by simp))]
        by_cases hb : u = [] ∨ ¬ (∀ c ∈ u, isD c = true)
        · rw [if_pos hb, if_pos hb]
        · rw [if_neg hb, if_neg hb]
          simp only [hp]
          have hpw := pow_two u 0 0 (Or.inl ⟨rfl, by omega⟩)
          have := rnd_same (neg := s.neg) (ng := decide (c' = 45)) h1 h2 hpw
          rw [this]
          by_cases h45 : c' = 45 <;> simp [h45]
      · rw [if_neg hsg, run_digits (Or.inl rfl) (fun _ => ⟨fun h => hsg (Or.inl h), fun h => hsg (Or.inr h)⟩)]
        by_cases hb : t = [] ∨ ¬ (∀ c ∈ t, isD c = true)
        · rw [if_pos hb, if_pos hb]
        · rw [if_neg hb, if_neg hb]
          simp only [hp, hn]
          have hpw := pow_two t 0 0 (Or.inl ⟨rfl, by omega⟩)
          have := rnd_same (neg := s.neg) (ng := false) h1 h2 hpw
          rw [this, if_neg (fun h => hsg (Or.inr h))]
          simp
def parR1 (ng : Bool) (l1 : List Nat) : Option (Int × Int) :=
  let A := l1.takeWhile isD
  let l2 := l1.dropWhile isD
  let B := if l2.head? = some 46 then l2.tail.takeWhile isD else []
  let l3 := if l2.head? = some 46 then l2.tail.dropWhile isD else l2
  if l2.head? = some 46 ∧ B = [] then none else
  match powR l3 with
  | none => none
  | some e => if A.length + B.length = 0 then none else rnd ng (val ((A ++ B).map (· - 48))) false (e - B.length)
theorem parR_one (l : List Nat) : parR l = parR1 (decide (l.head? = some 45)) (if l.head? = some 45 then l.tail else l) := rfl
theorem dig_len (a : List Nat) (h : ∀ c ∈ a, isD c = true) (hl : a.length ≤ 300) : nd (val (a.map (· - 48))) ≤ 300 := by
  have h1 : AllD (a.map (· - 48)) := by
    intro d hd
    obtain ⟨c, hc, rfl⟩ := List.mem_map.1 hd
    have := h c hc
    unfold isD at this
    have := of_decide_eq_true this
    omega
  have h2 := val_lt h1
  rw [List.length_map] at h2
  have := (nd_le_iff _ _).2 h2
  omega
theorem run_one {s : St} {l : List Nat} (hs : s.st = 0 ∧ l.head? ≠ some 45 ∨ s.st = 1) (hds : s.ds = []) (hbh : s.beh = 0) (hp : s.pow = 0) (hn : s.npow = false) (hl : l.length ≤ 300) :
    (runS l s).bind endS = parR1 s.neg l := by
  unfold parR1
  have hst : s.st ≤ 1 := by rcases hs with ⟨h, _⟩ | h <;> omega
  have h1 := split_d l
  have h2 := take_d l
  have h3 := fun c u => drop_d (l := l) (c := c) (t := u)
  generalize l.takeWhile isD = A at *
  generalize l.dropWhile isD = l2 at *
  subst h1
  simp only
  rw [runS_append, run_whole A h2 s (by omega), Option.bind_some, hds, List.nil_append]
  cases l2 with
  | nil =>
    simp only [List.head?_nil, if_neg (show ¬ (none : Option Nat) = some 46 by simp), false_and, if_false, reduceCtorEq]
    show endS _ = if A.length + 0 = 0 then none else _
    by_cases hA : A = []
    · subst hA
      show endS _ = none
      unfold endS
      exact if_neg (show ¬ (s.st = 2 ∨ s.st = 4 ∨ s.st = 7) by omega)
    · have hA0 : ¬ A.length + 0 = 0 := by cases A; exact absurd rfl hA; simp
      rw [if_neg hA0]
      unfold endS
      rw [if_pos (by simp [hA])]
      simp [hp, hn, hbh]
  | cons c t =>
    have hc := h3 c t rfl
    simp only [List.head?_cons, Option.some.injEq, List.tail_cons]
    by_cases h46 : c = 46
    · subst h46
      simp only [if_true, true_and]
      have ht : takeS { s with st := if A = [] then s.st else 2, ds := A.map (· - 48) } 46 = some { s with st := 3, ds := A.map (· - 48) } := by
        unfold takeS
        rw [if_neg (by unfold isD; simp), if_neg (by omega), if_pos]
        by_cases hA : A = [] <;> simp [hA]; omega
      show ((takeS _ 46).bind (runS t)).bind endS = _
      rw [ht, Option.bind_some]
      have k1 := split_d t
      have k2 := take_d t
      have k3 := fun c u => drop_d (l := t) (c := c) (t := u)
      generalize t.takeWhile isD = B at *
      generalize t.dropWhile isD = l3 at *
      subst k1
      rw [runS_append, run_part B k2 _ (Or.inl rfl), Option.bind_some]
      by_cases hB : B = []
      · subst hB
        rw [if_pos rfl]
        simp only [if_true]
        cases l3 with
        | nil => show endS _ = none; unfold endS; rw [if_neg (by simp)]
        | cons c u =>
          have hcd := k3 c u rfl
          have : takeS { s with st := 3, ds := A.map (· - 48) ++ [].map (· - 48), beh := s.beh + ([] : List Nat).length } c = none := by
            unfold takeS
            rw [if_neg (by rw [hcd]; simp), if_neg (by simp), if_neg (by simp), if_neg (by simp), if_neg (by simp)]
          show ((takeS _ c).bind (runS u)).bind endS = none
          rw [this]; rfl
      · rw [if_neg hB]
        simp only [if_neg hB]
        have hlen : A.length + (B.length + l3.length) + 1 ≤ 300 := by simp at hl; omega
        rw [run_tail (s := { s with st := 4, ds := A.map (· - 48) ++ B.map (· - 48), beh := s.beh + B.length }) (Or.inr rfl) hp hn k3 (by show nd (val (A.map (· - 48) ++ B.map (· - 48))) ≤ 300; rw [← List.map_append]; exact dig_len _ (fun c hc => (List.mem_append.1 hc).elim (h2 c) (k2 c)) (by simp; omega)) (by simp [hbh]; omega)]
        have hB0 : ¬ A.length + B.length = 0 := by cases B; exact absurd rfl hB; simp
        simp only [if_neg hB0, hbh, Nat.zero_add, List.map_append]
    · simp only [if_neg h46]
      rw [if_neg (show ¬ (c = 46 ∧ _) from fun h => h46 h.1)]
      by_cases hA : A = []
      · subst hA
        have : takeS { s with st := if ([] : List Nat) = [] then s.st else 2, ds := [].map (· - 48) } c = none := by
          unfold takeS
          simp only [if_true]
          simp at hs
          rw [if_neg (by rw [hc]; simp), if_neg (by omega), if_neg (by omega), if_neg (by omega), if_neg (by omega)]
        show ((takeS _ c).bind (runS t)).bind endS = _
        rw [this]
        cases powR (c :: t) <;> rfl
      · simp only [if_neg hA]
        have hlen : A.length + t.length + 1 ≤ 300 := by simp at hl; omega
        rw [run_tail (s := { s with st := 2, ds := A.map (· - 48) }) (Or.inl ⟨rfl, by simpa using h46⟩) hp hn (fun c' u hu => by cases hu; exact hc) (dig_len A h2 (by omega)) (by simp [hbh])]
        have hA0 : ¬ A.length + 0 = 0 := by cases A; exact absurd rfl hA; simp
        simp only [List.length_nil, if_neg hA0, hbh, List.append_nil]
/-- The reader and the document tell the same. -/
theorem parse_law (l : List Nat) (hl : l.length ≤ 300) : parM l = parR l := by
  rw [parR_one]
  unfold parM
  by_cases h : l.head? = some 45
  · cases l with
    | nil => simp at h
    | cons c t =>
      simp only [List.head?_cons, Option.some.injEq] at h
      subst h
      simp only [List.head?_cons, if_true, List.tail_cons, decide_true]
      show ((takeS st0 45).bind (runS t)).bind endS = _
      have : takeS st0 45 = some { st0 with neg := true, st := 1 } := by simp [takeS, isD, st0]
      rw [this, Option.bind_some]
      exact run_one (Or.inr rfl) rfl rfl rfl rfl (by simp at hl; omega)
  · rw [if_neg h, decide_eq_false h]
    exact run_one (Or.inl ⟨rfl, h⟩) rfl rfl rfl rfl hl
end Go.Proofs.YteigcfflljoioaaGreatDoor
namespace Go.Proofs.YteigcfflljoioaaGreatDoor
open Go.RowKit NM
theorem own_slice1 {w : World} {base : Nat} {e : TypeId} {v : Value} {n : Nat} {xs : List Value} (h : w.ownsRow base e 1 v n xs) : ∃ A L c, v = .slice A L c := by
  obtain ⟨_, h2⟩ := h
  rcases h2 with ⟨rfl, _⟩ | ⟨g, cap, cur, rfl, _⟩
  · exact ⟨_, _, _, rfl⟩
  · exact ⟨_, _, _, rfl⟩
/-- What a reader leaves as it was. -/
structure Fr (base : Nat) (w w' : World) : Prop where
  low : Below base w w'
  it : ∀ (b : Nat) (s : ByteArray) (pos : Nat), w.heap[b]? = some (Obj.stringIter s pos) → w'.heap[b]? = some (Obj.stringIter s pos)
theorem Fr.refl (base : Nat) (w : World) : Fr base w w := ⟨Below.refl _ _, fun _ _ _ h => h⟩
theorem Fr.trans {base : Nat} {a b c : World} (h : Fr base a b) (k : Fr base b c) : Fr base a c := ⟨Below.trans h.low k.low, fun i s pos hi => k.it i s pos (h.it i s pos hi)⟩
/-- A reader in block q. -/
structure RD (base q : Nat) (st : Nat) (neg npow : Bool) (ds : List Nat) (beh pow : Nat) (v : Value) (w : World) : Prop where
  row : w.heap[q]? = some (.cells #[.int .i64 (st : Int), .bool neg, .bool npow, v, .int .i64 (beh : Int), .int .i64 (pow : Int)] 159 (0, 0))
  own : w.ownsRow base 5 1 v ds.length (b8 ds)
  qb : base ≤ q
section
variable {base q st beh pow : Nat} {neg npow : Bool} {ds : List Nat} {v : Value} {w : World}
theorem RD.at (h : RD base q st neg npow ds beh pow v w) : w.cell? ⟨q, 0, none⟩ = some (.int .i64 (st : Int)) ∧ w.cell? ⟨q, 1, none⟩ = some (.bool neg) ∧ w.cell? ⟨q, 2, none⟩ = some (.bool npow) ∧ w.cell? ⟨q, 3, none⟩ = some v ∧ w.cell? ⟨q, 4, none⟩ = some (.int .i64 (beh : Int)) ∧ w.cell? ⟨q, 5, none⟩ = some (.int .i64 (pow : Int)) := by
  refine ⟨?_, ?_, ?_, ?_, ?_, ?_⟩ <;> rw [cell_of_row w q _ _ _ (0, 0) h.row] <;> rfl
theorem RD.fz (h : RD base q st neg npow ds beh pow v w) (o : Nat) : w.frozen? ⟨q, o, none⟩ = false := frozen_of_row w q o _ _ h.row
theorem RD.lt (h : RD base q st neg npow ds beh pow v w) : q < w.heap.size := lt_block h.row
theorem RD.fr (h : RD base q st neg npow ds beh pow v w) (o : Nat) (x : Value) : Fr base w (w.setCell ⟨q, o, none⟩ x) :=
  ⟨Below.setCell (Below.refl _ _) h.qb x, fun b s pos hb => by
    rw [RowKit.Below.heap_setCell _ _ _ _ (fun he => by subst he; rw [h.row] at hb; cases hb)]; exact hb⟩
theorem RD.keep (h : RD base q st neg npow ds beh pow v w) (o : Nat) (x : Value) : (w.setCell ⟨q, o, none⟩ x).ownsRow base 5 1 v ds.length (b8 ds) :=
  own_keep h.own fun g cur hg => RowKit.Below.heap_setCell _ _ _ _ (fun he => by subst he; rw [h.row] at hg; cases hg)
theorem RD.set0 (h : RD base q st neg npow ds beh pow v w) (st' : Nat) : RD base q st' neg npow ds beh pow v (w.setCell ⟨q, 0, none⟩ (.int .i64 (st' : Int))) := ⟨heap_setCell_same w q 0 _ _ _ h.row, h.keep _ _, h.qb⟩
theorem RD.set1 (h : RD base q st neg npow ds beh pow v w) (n' : Bool) : RD base q st n' npow ds beh pow v (w.setCell ⟨q, 1, none⟩ (.bool n')) := ⟨heap_setCell_same w q 1 _ _ _ h.row, h.keep _ _, h.qb⟩
theorem RD.set2 (h : RD base q st neg npow ds beh pow v w) (n' : Bool) : RD base q st neg n' ds beh pow v (w.setCell ⟨q, 2, none⟩ (.bool n')) := ⟨heap_setCell_same w q 2 _ _ _ h.row, h.keep _ _, h.qb⟩
theorem RD.set4 (h : RD base q st neg npow ds beh pow v w) (b' : Nat) : RD base q st neg npow ds b' pow v (w.setCell ⟨q, 4, none⟩ (.int .i64 (b' : Int))) := ⟨heap_setCell_same w q 4 _ _ _ h.row, h.keep _ _, h.qb⟩
theorem RD.set5 (h : RD base q st neg npow ds beh pow v w) (p' : Nat) : RD base q st neg npow ds beh p' v (w.setCell ⟨q, 5, none⟩ (.int .i64 (p' : Int))) := ⟨heap_setCell_same w q 5 _ _ _ h.row, h.keep _ _, h.qb⟩
/-- One digit more. -/
theorem RD.grown {w3 : World} {v3 : Value} {o : Obj} {d : Nat} (h : RD base q st neg npow ds beh pow v w) (hg : (w.alloc o).grownBy w3 v.ownBlock) (ho : w3.ownsRow base 5 1 v3 (ds.length + 1) (b8 ds ++ [.int .u8 (d : Int)])) (hb : base ≤ w.heap.size) :
    w3.heap[q]? = w.heap[q]? ∧ RD base q st neg npow (ds ++ [d]) beh pow v3 (w3.setCell ⟨q, 3, none⟩ v3) ∧ Fr base w (w3.setCell ⟨q, 3, none⟩ v3) := by
  have hob := own_block1 h.own
  have hne : ∀ b, (∀ cur, w.heap[b]? ≠ some (.cells cur 5 (0, 0))) → some b ≠ v.ownBlock := fun b hb he => by
    obtain ⟨_, cur, hc⟩ := hob b he.symm
    exact hb cur hc
  have hk : ∀ b, b < w.heap.size → some b ≠ v.ownBlock → w3.heap[b]? = w.heap[b]? := fun b hb he => by
    rw [hg.block b (by simp; omega) he, RowKit.Below.heap_alloc _ o b hb]
  have hq : w3.heap[q]? = w.heap[q]? := hk q h.lt (hne q fun cur hc => by rw [h.row] at hc; cases hc)
  have hrow := h.row
  rw [← hq] at hrow
  have hsz := hg.size
  simp at hsz
  refine ⟨hq, ⟨heap_setCell_same w3 q 3 _ _ v3 hrow, ?_, h.qb⟩, ?_, ?_⟩
  · rw [List.length_append, b8, List.map_append]
    exact own_keep ho fun g cur hc => RowKit.Below.heap_setCell _ _ _ _ (fun he => by subst he; rw [hrow] at hc; cases hc)
  · have hbl : Below base w w3 := ⟨hg.os, hg.tape, hg.output, by omega, fun b hb' => hk b (by omega) fun he => by have := (hob b he.symm).1; omega⟩
    exact Below.setCell hbl h.qb v3
  · intro b s pos hb'
    rw [RowKit.Below.heap_setCell _ _ _ _ (fun he => by subst he; rw [h.row] at hb'; cases hb'), hk b (lt_block hb') (hne b fun cur hc => by rw [hb'] at hc; cases hc)]
    exact hb'
end
set_option maxHeartbeats 1000000 in
theorem digit_any (base q st : Nat) (neg npow : Bool) (ds : List Nat) (beh pow c : Nat) (v : Value) (w : World) (h : RD base q st neg npow ds beh pow v w) (hbw : base ≤ w.heap.size) (hc : 48 ≤ c ∧ c ≤ 57) (hst : st ≤ 7) (hds : ds.length ≤ 300) (hbeh : beh ≤ 300) (hpow : pow ≤ 1000000) :
    Calls Tryz.prog 192 #[.pointer (some ⟨q, 0, none⟩), .int .i32 (c : Int)] w fun r w' => r = .returned (.tuple #[]) ∧ ∃ s' v', digS ⟨st, neg, npow, ds, beh, pow⟩ c = s' ∧ RD base q s'.st s'.neg s'.npow s'.ds s'.beh s'.pow v' w' ∧ Fr base w w' := by
  obtain ⟨i0, hi, hz0, hz1, hz2⟩ := info_parts info_byte
  have hcd : (c : Int) - 48 = ((c - 48 : Nat) : Int) := by omega
  obtain ⟨c0, c1, c2, c3, c4, c5⟩ := h.at
  have f0 := h.fz 0
  have f4 := h.fz 4
  have f5 := h.fz 5
  have lq := h.lt
  have HR := Lib.hid h
  clear h
  have hst' : st = 0 ∨ st = 1 ∨ st = 2 ∨ st = 3 ∨ st = 4 ∨ st = 5 ∨ st = 6 ∨ st = 7 := by omega
  rcases hst' with rfl | rfl | rfl | rfl | rfl | rfl | rfl | rfl
  · go_enter Tryz.func192, Tryz.ntmps192; go_upto_region 12 with fail; refine wp_world fun W hW => ?_; (have hR : RD base q 2 neg npow ds beh pow v W := by rw [hW]; exact HR.out.set0 2); (have hF : Fr base w W := by rw [hW]; exact HR.out.fr _ _); (have hbW : base ≤ W.heap.size := Nat.le_trans hbw hF.low.size); clear hW HR c0 c1 c2 c3 c4 c5 f0 f4 f5 lq hbw; obtain ⟨c0, c1, c2, c3, c4, c5⟩ := hR.at; have lq := hR.lt; have HR := Lib.hid hR; clear hR; go_wp2_with (at_builtin; refine wpList_append_own _ rfl _ _ _ rfl base 5 i0 (.int .u8 0) 1 1 Tryz.underlying102 hi hz0 hz1 hz2 rfl (by decide) _ ds.length (b8 ds) rfl (own_keep HR.out.own fun g cur hg => RowKit.Below.heap_alloc _ _ g (lt_block hg)) _ 1 1 [.int .u8 ((c - 48 : Nat) : Int)] rfl rfl (Rd.one_ _ _ rfl).add (one_u8 _) (by simp [maxLen]; omega) (by omega) (by simp; omega) ?_; intro v3 w3 ho3 hg3 _; obtain ⟨A3, L3, C3, hv3⟩ := own_slice1 ho3; subst hv3; obtain ⟨hq3, hRD3, hFr3⟩ := HR.out.grown hg3 ho3 hbW; have hrow3 := HR.out.row; rw [← hq3] at hrow3; have fz3 := frozen_of_row w3 q 3 _ _ hrow3; have lt3 := lt_block hrow3; have q3 : w3.cell? ⟨q, 3, none⟩ = some v := by rw [cell_of_row w3 q 3 _ _ (0, 0) hrow3]; rfl); exact bodyPost_end (v := .tuple #[]) (by simp [results, Tryz.results192, go_sem]) rfl ⟨rfl, _, _, rfl, hRD3, hF.trans hFr3⟩
  · go_enter Tryz.func192, Tryz.ntmps192; go_upto_region 12 with fail; refine wp_world fun W hW => ?_; (have hR : RD base q 2 neg npow ds beh pow v W := by rw [hW]; exact HR.out.set0 2); (have hF : Fr base w W := by rw [hW]; exact HR.out.fr _ _); (have hbW : base ≤ W.heap.size := Nat.le_trans hbw hF.low.size); clear hW HR c0 c1 c2 c3 c4 c5 f0 f4 f5 lq hbw; obtain ⟨c0, c1, c2, c3, c4, c5⟩ := hR.at; have lq := hR.lt; have HR := Lib.hid hR; clear hR; go_wp2_with (at_builtin; refine wpList_append_own _ rfl _ _ _ rfl base 5 i0 (.int .u8 0) 1 1 Tryz.underlying102 hi hz0 hz1 hz2 rfl (by decide) _ ds.length (b8 ds) rfl (own_keep HR.out.own fun g cur hg => RowKit.Below.heap_alloc _ _ g (lt_block hg)) _ 1 1 [.int .u8 ((c - 48 : Nat) : Int)] rfl rfl (Rd.one_ _ _ rfl).add (one_u8 _) (by simp [maxLen]; omega) (by omega) (by simp; omega) ?_; intro v3 w3 ho3 hg3 _; obtain ⟨A3, L3, C3, hv3⟩ := own_slice1 ho3; subst hv3; obtain ⟨hq3, hRD3, hFr3⟩ := HR.out.grown hg3 ho3 hbW; have hrow3 := HR.out.row; rw [← hq3] at hrow3; have fz3 := frozen_of_row w3 q 3 _ _ hrow3; have lt3 := lt_block hrow3; have q3 : w3.cell? ⟨q, 3, none⟩ = some v := by rw [cell_of_row w3 q 3 _ _ (0, 0) hrow3]; rfl); exact bodyPost_end (v := .tuple #[]) (by simp [results, Tryz.results192, go_sem]) rfl ⟨rfl, _, _, rfl, hRD3, hF.trans hFr3⟩
  · go_enter Tryz.func192, Tryz.ntmps192; go_upto_region 12 with fail; refine wp_world fun W hW => ?_; (have hR : RD base q 2 neg npow ds beh pow v W := by rw [hW]; exact HR.out.set0 2); (have hF : Fr base w W := by rw [hW]; exact HR.out.fr _ _); (have hbW : base ≤ W.heap.size := Nat.le_trans hbw hF.low.size); clear hW HR c0 c1 c2 c3 c4 c5 f0 f4 f5 lq hbw; obtain ⟨c0, c1, c2, c3, c4, c5⟩ := hR.at; have lq := hR.lt; have HR := Lib.hid hR; clear hR; go_wp2_with (at_builtin; refine wpList_append_own _ rfl _ _ _ rfl base 5 i0 (.int .u8 0) 1 1 Tryz.underlying102 hi hz0 hz1 hz2 rfl (by decide) _ ds.length (b8 ds) rfl (own_keep HR.out.own fun g cur hg => RowKit.Below.heap_alloc _ _ g (lt_block hg)) _ 1 1 [.int .u8 ((c - 48 : Nat) : Int)] rfl rfl (Rd.one_ _ _ rfl).add (one_u8 _) (by simp [maxLen]; omega) (by omega) (by simp; omega) ?_; intro v3 w3 ho3 hg3 _; obtain ⟨A3, L3, C3, hv3⟩ := own_slice1 ho3; subst hv3; obtain ⟨hq3, hRD3, hFr3⟩ := HR.out.grown hg3 ho3 hbW; have hrow3 := HR.out.row; rw [← hq3] at hrow3; have fz3 := frozen_of_row w3 q 3 _ _ hrow3; have lt3 := lt_block hrow3; have q3 : w3.cell? ⟨q, 3, none⟩ = some v := by rw [cell_of_row w3 q 3 _ _ (0, 0) hrow3]; rfl); exact bodyPost_end (v := .tuple #[]) (by simp [results, Tryz.results192, go_sem]) rfl ⟨rfl, _, _, rfl, hRD3, hF.trans hFr3⟩
  · go_enter Tryz.func192, Tryz.ntmps192; go_upto_region 12 with fail; refine wp_world fun W hW => ?_; (have hR : RD base q 4 neg npow ds (beh + 1) pow v W := by rw [hW]; exact (HR.out.set0 4).set4 (beh + 1)); (have hF : Fr base w W := by rw [hW]; exact (HR.out.fr _ _).trans ((HR.out.set0 4).fr _ _)); (have hbW : base ≤ W.heap.size := Nat.le_trans hbw hF.low.size); clear hW HR c0 c1 c2 c3 c4 c5 f0 f4 f5 lq hbw; obtain ⟨c0, c1, c2, c3, c4, c5⟩ := hR.at; have lq := hR.lt; have HR := Lib.hid hR; clear hR; go_wp2_with (at_builtin; refine wpList_append_own _ rfl _ _ _ rfl base 5 i0 (.int .u8 0) 1 1 Tryz.underlying102 hi hz0 hz1 hz2 rfl (by decide) _ ds.length (b8 ds) rfl (own_keep HR.out.own fun g cur hg => RowKit.Below.heap_alloc _ _ g (lt_block hg)) _ 1 1 [.int .u8 ((c - 48 : Nat) : Int)] rfl rfl (Rd.one_ _ _ rfl).add (one_u8 _) (by simp [maxLen]; omega) (by omega) (by simp; omega) ?_; intro v3 w3 ho3 hg3 _; obtain ⟨A3, L3, C3, hv3⟩ := own_slice1 ho3; subst hv3; obtain ⟨hq3, hRD3, hFr3⟩ := HR.out.grown hg3 ho3 hbW; have hrow3 := HR.out.row; rw [← hq3] at hrow3; have fz3 := frozen_of_row w3 q 3 _ _ hrow3; have lt3 := lt_block hrow3; have q3 : w3.cell? ⟨q, 3, none⟩ = some v := by rw [cell_of_row w3 q 3 _ _ (0, 0) hrow3]; rfl); exact bodyPost_end (v := .tuple #[]) (by simp [results, Tryz.results192, go_sem]) rfl ⟨rfl, _, _, rfl, hRD3, hF.trans hFr3⟩
  · go_enter Tryz.func192, Tryz.ntmps192; go_upto_region 12 with fail; refine wp_world fun W hW => ?_; (have hR : RD base q 4 neg npow ds (beh + 1) pow v W := by rw [hW]; exact (HR.out.set0 4).set4 (beh + 1)); (have hF : Fr base w W := by rw [hW]; exact (HR.out.fr _ _).trans ((HR.out.set0 4).fr _ _)); (have hbW : base ≤ W.heap.size := Nat.le_trans hbw hF.low.size); clear hW HR c0 c1 c2 c3 c4 c5 f0 f4 f5 lq hbw; obtain ⟨c0, c1, c2, c3, c4, c5⟩ := hR.at; have lq := hR.lt; have HR := Lib.hid hR; clear hR; go_wp2_with (at_builtin; refine wpList_append_own _ rfl _ _ _ rfl base 5 i0 (.int .u8 0) 1 1 Tryz.underlying102 hi hz0 hz1 hz2 rfl (by decide) _ ds.length (b8 ds) rfl (own_keep HR.out.own fun g cur hg => RowKit.Below.heap_alloc _ _ g (lt_block hg)) _ 1 1 [.int .u8 ((c - 48 : Nat) : Int)] rfl rfl (Rd.one_ _ _ rfl).add (one_u8 _) (by simp [maxLen]; omega) (by omega) (by simp; omega) ?_; intro v3 w3 ho3 hg3 _; obtain ⟨A3, L3, C3, hv3⟩ := own_slice1 ho3; subst hv3; obtain ⟨hq3, hRD3, hFr3⟩ := HR.out.grown hg3 ho3 hbW; have hrow3 := HR.out.row; rw [← hq3] at hrow3; have fz3 := frozen_of_row w3 q 3 _ _ hrow3; have lt3 := lt_block hrow3; have q3 : w3.cell? ⟨q, 3, none⟩ = some v := by rw [cell_of_row w3 q 3 _ _ (0, 0) hrow3]; rfl); exact bodyPost_end (v := .tuple #[]) (by simp [results, Tryz.results192, go_sem]) rfl ⟨rfl, _, _, rfl, hRD3, hF.trans hFr3⟩
  · go_enter Tryz.func192, Tryz.ntmps192; go_upto_region 2 with fail; refine wp_world fun W hW => ?_; (have hR : RD base q 7 neg npow ds beh pow v W := by rw [hW]; exact HR.out.set0 7); (have hF : Fr base w W := by rw [hW]; exact HR.out.fr _ _); clear hW HR c0 c1 c2 c3 c4 c5 f0 f4 f5 lq hbw; obtain ⟨c0, c1, c2, c3, c4, c5⟩ := hR.at; have f5 := hR.fz 5; have lq := hR.lt; have HR := Lib.hid hR; clear hR; by_cases hp : pow < 100000
    · have hd : decide ((pow : Int) < 100000) = true := decide_eq_true (by omega)
      have HP := Lib.hid hp
      clear hp
      go_wp2_with fail
      refine bodyPost_ret (v := .tuple #[]) (by simp [results, Tryz.results192, go_sem]) rfl ⟨rfl, ⟨7, neg, npow, ds, beh, pow * 10 + (c - 48)⟩, v, by simp [digS, HP.out], ?_, hF.trans (HR.out.fr _ _)⟩
      have := HR.out.set5 (pow * 10 + (c - 48))
      rw [Int.natCast_add, Int.natCast_mul] at this
      exact this
    · have hd : decide ((pow : Int) < 100000) = false := decide_eq_false (by omega)
      have HP := Lib.hid hp
      clear hp
      go_wp2_with fail
      exact bodyPost_ret (v := .tuple #[]) (by simp [results, Tryz.results192, go_sem]) rfl ⟨rfl, ⟨7, neg, npow, ds, beh, pow⟩, v, by simp [digS, HP.out], HR.out, hF⟩
  · go_enter Tryz.func192, Tryz.ntmps192; go_upto_region 2 with fail; refine wp_world fun W hW => ?_; (have hR : RD base q 7 neg npow ds beh pow v W := by rw [hW]; exact HR.out.set0 7); (have hF : Fr base w W := by rw [hW]; exact HR.out.fr _ _); clear hW HR c0 c1 c2 c3 c4 c5 f0 f4 f5 lq hbw; obtain ⟨c0, c1, c2, c3, c4, c5⟩ := hR.at; have f5 := hR.fz 5; have lq := hR.lt; have HR := Lib.hid hR; clear hR; by_cases hp : pow < 100000
    · have hd : decide ((pow : Int) < 100000) = true := decide_eq_true (by omega)
      have HP := Lib.hid hp
      clear hp
      go_wp2_with fail
      refine bodyPost_ret (v := .tuple #[]) (by simp [results, Tryz.results192, go_sem]) rfl ⟨rfl, ⟨7, neg, npow, ds, beh, pow * 10 + (c - 48)⟩, v, by simp [digS, HP.out], ?_, hF.trans (HR.out.fr _ _)⟩
      have := HR.out.set5 (pow * 10 + (c - 48))
      rw [Int.natCast_add, Int.natCast_mul] at this
      exact this
    · have hd : decide ((pow : Int) < 100000) = false := decide_eq_false (by omega)
      have HP := Lib.hid hp
      clear hp
      go_wp2_with fail
      exact bodyPost_ret (v := .tuple #[]) (by simp [results, Tryz.results192, go_sem]) rfl ⟨rfl, ⟨7, neg, npow, ds, beh, pow⟩, v, by simp [digS, HP.out], HR.out, hF⟩
  · go_enter Tryz.func192, Tryz.ntmps192; go_upto_region 2 with fail; refine wp_world fun W hW => ?_; (have hR : RD base q 7 neg npow ds beh pow v W := by rw [hW]; exact HR.out.set0 7); (have hF : Fr base w W := by rw [hW]; exact HR.out.fr _ _); clear hW HR c0 c1 c2 c3 c4 c5 f0 f4 f5 lq hbw; obtain ⟨c0, c1, c2, c3, c4, c5⟩ := hR.at; have f5 := hR.fz 5; have lq := hR.lt; have HR := Lib.hid hR; clear hR; by_cases hp : pow < 100000
    · have hd : decide ((pow : Int) < 100000) = true := decide_eq_true (by omega)
      have HP := Lib.hid hp
      clear hp
      go_wp2_with fail
      refine bodyPost_ret (v := .tuple #[]) (by simp [results, Tryz.results192, go_sem]) rfl ⟨rfl, ⟨7, neg, npow, ds, beh, pow * 10 + (c - 48)⟩, v, by simp [digS, HP.out], ?_, hF.trans (HR.out.fr _ _)⟩
      have := HR.out.set5 (pow * 10 + (c - 48))
      rw [Int.natCast_add, Int.natCast_mul] at this
      exact this
    · have hd : decide ((pow : Int) < 100000) = false := decide_eq_false (by omega)
      have HP := Lib.hid hp
      clear hp
      go_wp2_with fail
      exact bodyPost_ret (v := .tuple #[]) (by simp [results, Tryz.results192, go_sem]) rfl ⟨rfl, ⟨7, neg, npow, ds, beh, pow⟩, v, by simp [digS, HP.out], HR.out, hF⟩
end Go.Proofs.YteigcfflljoioaaGreatDoor
namespace Go.Proofs.YteigcfflljoioaaGreatDoor
open Go.RowKit NM
set_option maxHeartbeats 1000000 in
theorem take_any (base q st : Nat) (neg npow : Bool) (ds : List Nat) (beh pow c : Nat) (v : Value) (w : World) (h : RD base q st neg npow ds beh pow v w) (hbw : base ≤ w.heap.size) (hst : st ≤ 7) (hds : ds.length ≤ 300) (hbeh : beh ≤ 300) (hpow : pow ≤ 1000000) :
    Calls Tryz.prog 180 #[.pointer (some ⟨q, 0, none⟩), .int .i32 (c : Int)] w fun r w' => r = .returned (.bool (takeS ⟨st, neg, npow, ds, beh, pow⟩ c).isSome) ∧ Fr base w w' ∧ ∀ s', takeS ⟨st, neg, npow, ds, beh, pow⟩ c = some s' → ∃ v', RD base q s'.st s'.neg s'.npow s'.ds s'.beh s'.pow v' w' := by
  obtain ⟨c0, c1, c2, c3, c4, c5⟩ := h.at
  have f0 := h.fz 0
  have f1 := h.fz 1
  have f2 := h.fz 2
  have lq := h.lt
  by_cases hd : 48 ≤ c ∧ c ≤ 57
  · have hdg := digit_any base q st neg npow ds beh pow c v w h hbw hd hst hds hbeh hpow
    have hS : takeS ⟨st, neg, npow, ds, beh, pow⟩ c = some (digS ⟨st, neg, npow, ds, beh, pow⟩ c) := by unfold takeS isD; rw [if_pos (decide_eq_true hd)]
    have g1 : decide (48 ≤ (c : Int)) = true := decide_eq_true (by omega)
    have g2 : decide ((c : Int) ≤ 57) = true := decide_eq_true (by omega)
    have HS := Lib.hid hS
    clear h hS
    go_enter Tryz.func180, Tryz.ntmps180
    go_wp2_with (go_at_call 192; (with_reducible refine hdg.mono ?_); rintro e w' ⟨rfl, s', v', hs, hrd, hfr⟩)
    exact bodyPost_ret (v := .bool true) (by simp [results, Tryz.results180, go_sem]) rfl ⟨by rw [HS.out]; rfl, hfr, fun s'' h'' => by rw [HS.out] at h''; cases h''; rw [hs]; exact ⟨v', hrd⟩⟩
  · have HR := Lib.hid h
    have hst0 : (st = 0 ∨ st = 1 ∨ st = 2 ∨ st = 3 ∨ st = 4 ∨ st = 5 ∨ st = 6 ∨ st = 7) := by omega
    clear h
    by_cases h45 : c = 45
    · subst h45
      clear hd
      rcases hst0 with rfl | rfl | rfl | rfl | rfl | rfl | rfl | rfl
      · have HS : Hid (takeS ⟨0, neg, npow, ds, beh, pow⟩ 45 = some ⟨1, true, npow, ds, beh, pow⟩) := by show takeS _ _ = _; simp [takeS, isD]
        (go_enter Tryz.func180, Tryz.ntmps180; go_wp2_with fail; exact bodyPost_ret (v := .bool true) (by simp [results, Tryz.results180, go_sem]) rfl ⟨by rw [HS.out]; rfl, (HR.out.fr _ _).trans ((HR.out.set1 true).fr _ _), fun s' hs => by rw [HS.out] at hs; cases hs; exact ⟨v, (HR.out.set1 true).set0 1⟩⟩)
      · have HS : Hid (takeS ⟨1, neg, npow, ds, beh, pow⟩ 45 = none) := by show takeS _ _ = _; simp [takeS, isD]
        (go_enter Tryz.func180, Tryz.ntmps180; go_wp2_with fail; exact bodyPost_ret (v := .bool false) (by simp [results, Tryz.results180, go_sem]) rfl ⟨by rw [HS.out]; rfl, Fr.refl _ _, fun s' hs => by rw [HS.out] at hs; cases hs⟩)
      · have HS : Hid (takeS ⟨2, neg, npow, ds, beh, pow⟩ 45 = none) := by show takeS _ _ = _; simp [takeS, isD]
        (go_enter Tryz.func180, Tryz.ntmps180; go_wp2_with fail; exact bodyPost_ret (v := .bool false) (by simp [results, Tryz.results180, go_sem]) rfl ⟨by rw [HS.out]; rfl, Fr.refl _ _, fun s' hs => by rw [HS.out] at hs; cases hs⟩)
      · have HS : Hid (takeS ⟨3, neg, npow, ds, beh, pow⟩ 45 = none) := by show takeS _ _ = _; simp [takeS, isD]
        (go_enter Tryz.func180, Tryz.ntmps180; go_wp2_with fail; exact bodyPost_ret (v := .bool false) (by simp [results, Tryz.results180, go_sem]) rfl ⟨by rw [HS.out]; rfl, Fr.refl _ _, fun s' hs => by rw [HS.out] at hs; cases hs⟩)
      · have HS : Hid (takeS ⟨4, neg, npow, ds, beh, pow⟩ 45 = none) := by show takeS _ _ = _; simp [takeS, isD]
        (go_enter Tryz.func180, Tryz.ntmps180; go_wp2_with fail; exact bodyPost_ret (v := .bool false) (by simp [results, Tryz.results180, go_sem]) rfl ⟨by rw [HS.out]; rfl, Fr.refl _ _, fun s' hs => by rw [HS.out] at hs; cases hs⟩)
      · have HS : Hid (takeS ⟨5, neg, npow, ds, beh, pow⟩ 45 = some ⟨6, neg, true, ds, beh, pow⟩) := by show takeS _ _ = _; simp [takeS, isD]
        (go_enter Tryz.func180, Tryz.ntmps180; go_wp2_with fail; exact bodyPost_ret (v := .bool true) (by simp [results, Tryz.results180, go_sem]) rfl ⟨by rw [HS.out]; rfl, (HR.out.fr _ _).trans ((HR.out.set2 true).fr _ _), fun s' hs => by rw [HS.out] at hs; cases hs; exact ⟨v, (HR.out.set2 true).set0 6⟩⟩)
      · have HS : Hid (takeS ⟨6, neg, npow, ds, beh, pow⟩ 45 = none) := by show takeS _ _ = _; simp [takeS, isD]
        (go_enter Tryz.func180, Tryz.ntmps180; go_wp2_with fail; exact bodyPost_ret (v := .bool false) (by simp [results, Tryz.results180, go_sem]) rfl ⟨by rw [HS.out]; rfl, Fr.refl _ _, fun s' hs => by rw [HS.out] at hs; cases hs⟩)
      · have HS : Hid (takeS ⟨7, neg, npow, ds, beh, pow⟩ 45 = none) := by show takeS _ _ = _; simp [takeS, isD]
        (go_enter Tryz.func180, Tryz.ntmps180; go_wp2_with fail; exact bodyPost_ret (v := .bool false) (by simp [results, Tryz.results180, go_sem]) rfl ⟨by rw [HS.out]; rfl, Fr.refl _ _, fun s' hs => by rw [HS.out] at hs; cases hs⟩)
    by_cases h43 : c = 43
    · subst h43
      clear hd
      rcases hst0 with rfl | rfl | rfl | rfl | rfl | rfl | rfl | rfl
      · have HS : Hid (takeS ⟨0, neg, npow, ds, beh, pow⟩ 43 = none) := by show takeS _ _ = _; simp [takeS, isD]
        (go_enter Tryz.func180, Tryz.ntmps180; go_wp2_with fail; exact bodyPost_ret (v := .bool false) (by simp [results, Tryz.results180, go_sem]) rfl ⟨by rw [HS.out]; rfl, Fr.refl _ _, fun s' hs => by rw [HS.out] at hs; cases hs⟩)
      · have HS : Hid (takeS ⟨1, neg, npow, ds, beh, pow⟩ 43 = none) := by show takeS _ _ = _; simp [takeS, isD]
        (go_enter Tryz.func180, Tryz.ntmps180; go_wp2_with fail; exact bodyPost_ret (v := .bool false) (by simp [results, Tryz.results180, go_sem]) rfl ⟨by rw [HS.out]; rfl, Fr.refl _ _, fun s' hs => by rw [HS.out] at hs; cases hs⟩)
      · have HS : Hid (takeS ⟨2, neg, npow, ds, beh, pow⟩ 43 = none) := by show takeS _ _ = _; simp [takeS, isD]
        (go_enter Tryz.func180, Tryz.ntmps180; go_wp2_with fail; exact bodyPost_ret (v := .bool false) (by simp [results, Tryz.results180, go_sem]) rfl ⟨by rw [HS.out]; rfl, Fr.refl _ _, fun s' hs => by rw [HS.out] at hs; cases hs⟩)
      · have HS : Hid (takeS ⟨3, neg, npow, ds, beh, pow⟩ 43 = none) := by show takeS _ _ = _; simp [takeS, isD]
        (go_enter Tryz.func180, Tryz.ntmps180; go_wp2_with fail; exact bodyPost_ret (v := .bool false) (by simp [results, Tryz.results180, go_sem]) rfl ⟨by rw [HS.out]; rfl, Fr.refl _ _, fun s' hs => by rw [HS.out] at hs; cases hs⟩)
      · have HS : Hid (takeS ⟨4, neg, npow, ds, beh, pow⟩ 43 = none) := by show takeS _ _ = _; simp [takeS, isD]
        (go_enter Tryz.func180, Tryz.ntmps180; go_wp2_with fail; exact bodyPost_ret (v := .bool false) (by simp [results, Tryz.results180, go_sem]) rfl ⟨by rw [HS.out]; rfl, Fr.refl _ _, fun s' hs => by rw [HS.out] at hs; cases hs⟩)
      · have HS : Hid (takeS ⟨5, neg, npow, ds, beh, pow⟩ 43 = some ⟨6, neg, false, ds, beh, pow⟩) := by show takeS _ _ = _; simp [takeS, isD]
        (go_enter Tryz.func180, Tryz.ntmps180; go_wp2_with fail; exact bodyPost_ret (v := .bool true) (by simp [results, Tryz.results180, go_sem]) rfl ⟨by rw [HS.out]; rfl, (HR.out.fr _ _).trans ((HR.out.set2 false).fr _ _), fun s' hs => by rw [HS.out] at hs; cases hs; exact ⟨v, (HR.out.set2 false).set0 6⟩⟩)
      · have HS : Hid (takeS ⟨6, neg, npow, ds, beh, pow⟩ 43 = none) := by show takeS _ _ = _; simp [takeS, isD]
        (go_enter Tryz.func180, Tryz.ntmps180; go_wp2_with fail; exact bodyPost_ret (v := .bool false) (by simp [results, Tryz.results180, go_sem]) rfl ⟨by rw [HS.out]; rfl, Fr.refl _ _, fun s' hs => by rw [HS.out] at hs; cases hs⟩)
      · have HS : Hid (takeS ⟨7, neg, npow, ds, beh, pow⟩ 43 = none) := by show takeS _ _ = _; simp [takeS, isD]
        (go_enter Tryz.func180, Tryz.ntmps180; go_wp2_with fail; exact bodyPost_ret (v := .bool false) (by simp [results, Tryz.results180, go_sem]) rfl ⟨by rw [HS.out]; rfl, Fr.refl _ _, fun s' hs => by rw [HS.out] at hs; cases hs⟩)
    by_cases h46 : c = 46
    · subst h46
      clear hd
      rcases hst0 with rfl | rfl | rfl | rfl | rfl | rfl | rfl | rfl
      · have HS : Hid (takeS ⟨0, neg, npow, ds, beh, pow⟩ 46 = some ⟨3, neg, npow, ds, beh, pow⟩) := by show takeS _ _ = _; simp [takeS, isD]
        (go_enter Tryz.func180, Tryz.ntmps180; go_wp2_with fail; exact bodyPost_ret (v := .bool true) (by simp [results, Tryz.results180, go_sem]) rfl ⟨by rw [HS.out]; rfl, HR.out.fr _ _, fun s' hs => by rw [HS.out] at hs; cases hs; exact ⟨v, HR.out.set0 3⟩⟩)
      · have HS : Hid (takeS ⟨1, neg, npow, ds, beh, pow⟩ 46 = some ⟨3, neg, npow, ds, beh, pow⟩) := by show takeS _ _ = _; simp [takeS, isD]
        (go_enter Tryz.func180, Tryz.ntmps180; go_wp2_with fail; exact bodyPost_ret (v := .bool true) (by simp [results, Tryz.results180, go_sem]) rfl ⟨by rw [HS.out]; rfl, HR.out.fr _ _, fun s' hs => by rw [HS.out] at hs; cases hs; exact ⟨v, HR.out.set0 3⟩⟩)
      · have HS : Hid (takeS ⟨2, neg, npow, ds, beh, pow⟩ 46 = some ⟨3, neg, npow, ds, beh, pow⟩) := by show takeS _ _ = _; simp [takeS, isD]
        (go_enter Tryz.func180, Tryz.ntmps180; go_wp2_with fail; exact bodyPost_ret (v := .bool true) (by simp [results, Tryz.results180, go_sem]) rfl ⟨by rw [HS.out]; rfl, HR.out.fr _ _, fun s' hs => by rw [HS.out] at hs; cases hs; exact ⟨v, HR.out.set0 3⟩⟩)
      · have HS : Hid (takeS ⟨3, neg, npow, ds, beh, pow⟩ 46 = none) := by show takeS _ _ = _; simp [takeS, isD]
        (go_enter Tryz.func180, Tryz.ntmps180; go_wp2_with fail; exact bodyPost_ret (v := .bool false) (by simp [results, Tryz.results180, go_sem]) rfl ⟨by rw [HS.out]; rfl, Fr.refl _ _, fun s' hs => by rw [HS.out] at hs; cases hs⟩)
      · have HS : Hid (takeS ⟨4, neg, npow, ds, beh, pow⟩ 46 = none) := by show takeS _ _ = _; simp [takeS, isD]
        (go_enter Tryz.func180, Tryz.ntmps180; go_wp2_with fail; exact bodyPost_ret (v := .bool false) (by simp [results, Tryz.results180, go_sem]) rfl ⟨by rw [HS.out]; rfl, Fr.refl _ _, fun s' hs => by rw [HS.out] at hs; cases hs⟩)
      · have HS : Hid (takeS ⟨5, neg, npow, ds, beh, pow⟩ 46 = none) := by show takeS _ _ = _; simp [takeS, isD]
        (go_enter Tryz.func180, Tryz.ntmps180; go_wp2_with fail; exact bodyPost_ret (v := .bool false) (by simp [results, Tryz.results180, go_sem]) rfl ⟨by rw [HS.out]; rfl, Fr.refl _ _, fun s' hs => by rw [HS.out] at hs; cases hs⟩)
      · have HS : Hid (takeS ⟨6, neg, npow, ds, beh, pow⟩ 46 = none) := by show takeS _ _ = _; simp [takeS, isD]
        (go_enter Tryz.func180, Tryz.ntmps180; go_wp2_with fail; exact bodyPost_ret (v := .bool false) (by simp [results, Tryz.results180, go_sem]) rfl ⟨by rw [HS.out]; rfl, Fr.refl _ _, fun s' hs => by rw [HS.out] at hs; cases hs⟩)
      · have HS : Hid (takeS ⟨7, neg, npow, ds, beh, pow⟩ 46 = none) := by show takeS _ _ = _; simp [takeS, isD]
        (go_enter Tryz.func180, Tryz.ntmps180; go_wp2_with fail; exact bodyPost_ret (v := .bool false) (by simp [results, Tryz.results180, go_sem]) rfl ⟨by rw [HS.out]; rfl, Fr.refl _ _, fun s' hs => by rw [HS.out] at hs; cases hs⟩)
    by_cases h101 : c = 101
    · subst h101
      clear hd
      rcases hst0 with rfl | rfl | rfl | rfl | rfl | rfl | rfl | rfl
      · have HS : Hid (takeS ⟨0, neg, npow, ds, beh, pow⟩ 101 = none) := by show takeS _ _ = _; simp [takeS, isD]
        (go_enter Tryz.func180, Tryz.ntmps180; go_wp2_with fail; exact bodyPost_ret (v := .bool false) (by simp [results, Tryz.results180, go_sem]) rfl ⟨by rw [HS.out]; rfl, Fr.refl _ _, fun s' hs => by rw [HS.out] at hs; cases hs⟩)
      · have HS : Hid (takeS ⟨1, neg, npow, ds, beh, pow⟩ 101 = none) := by show takeS _ _ = _; simp [takeS, isD]
        (go_enter Tryz.func180, Tryz.ntmps180; go_wp2_with fail; exact bodyPost_ret (v := .bool false) (by simp [results, Tryz.results180, go_sem]) rfl ⟨by rw [HS.out]; rfl, Fr.refl _ _, fun s' hs => by rw [HS.out] at hs; cases hs⟩)
      · have HS : Hid (takeS ⟨2, neg, npow, ds, beh, pow⟩ 101 = some ⟨5, neg, npow, ds, beh, pow⟩) := by show takeS _ _ = _; simp [takeS, isD]
        (go_enter Tryz.func180, Tryz.ntmps180; go_wp2_with fail; exact bodyPost_ret (v := .bool true) (by simp [results, Tryz.results180, go_sem]) rfl ⟨by rw [HS.out]; rfl, HR.out.fr _ _, fun s' hs => by rw [HS.out] at hs; cases hs; exact ⟨v, HR.out.set0 5⟩⟩)
      · have HS : Hid (takeS ⟨3, neg, npow, ds, beh, pow⟩ 101 = none) := by show takeS _ _ = _; simp [takeS, isD]
        (go_enter Tryz.func180, Tryz.ntmps180; go_wp2_with fail; exact bodyPost_ret (v := .bool false) (by simp [results, Tryz.results180, go_sem]) rfl ⟨by rw [HS.out]; rfl, Fr.refl _ _, fun s' hs => by rw [HS.out] at hs; cases hs⟩)
      · have HS : Hid (takeS ⟨4, neg, npow, ds, beh, pow⟩ 101 = some ⟨5, neg, npow, ds, beh, pow⟩) := by show takeS _ _ = _; simp [takeS, isD]
        (go_enter Tryz.func180, Tryz.ntmps180; go_wp2_with fail; exact bodyPost_ret (v := .bool true) (by simp [results, Tryz.results180, go_sem]) rfl ⟨by rw [HS.out]; rfl, HR.out.fr _ _, fun s' hs => by rw [HS.out] at hs; cases hs; exact ⟨v, HR.out.set0 5⟩⟩)
      · have HS : Hid (takeS ⟨5, neg, npow, ds, beh, pow⟩ 101 = none) := by show takeS _ _ = _; simp [takeS, isD]
        (go_enter Tryz.func180, Tryz.ntmps180; go_wp2_with fail; exact bodyPost_ret (v := .bool false) (by simp [results, Tryz.results180, go_sem]) rfl ⟨by rw [HS.out]; rfl, Fr.refl _ _, fun s' hs => by rw [HS.out] at hs; cases hs⟩)
      · have HS : Hid (takeS ⟨6, neg, npow, ds, beh, pow⟩ 101 = none) := by show takeS _ _ = _; simp [takeS, isD]
        (go_enter Tryz.func180, Tryz.ntmps180; go_wp2_with fail; exact bodyPost_ret (v := .bool false) (by simp [results, Tryz.results180, go_sem]) rfl ⟨by rw [HS.out]; rfl, Fr.refl _ _, fun s' hs => by rw [HS.out] at hs; cases hs⟩)
      · have HS : Hid (takeS ⟨7, neg, npow, ds, beh, pow⟩ 101 = none) := by show takeS _ _ = _; simp [takeS, isD]
        (go_enter Tryz.func180, Tryz.ntmps180; go_wp2_with fail; exact bodyPost_ret (v := .bool false) (by simp [results, Tryz.results180, go_sem]) rfl ⟨by rw [HS.out]; rfl, Fr.refl _ _, fun s' hs => by rw [HS.out] at hs; cases hs⟩)
    by_cases h69 : c = 69
    · subst h69
      clear hd
      rcases hst0 with rfl | rfl | rfl | rfl | rfl | rfl | rfl | rfl
      · have HS : Hid (takeS ⟨0, neg, npow, ds, beh, pow⟩ 69 = none) := by show takeS _ _ = _; simp [takeS, isD]
        (go_enter Tryz.func180, Tryz.ntmps180; go_wp2_with fail; exact bodyPost_ret (v := .bool false) (by simp [results, Tryz.results180, go_sem]) rfl ⟨by rw [HS.out]; rfl, Fr.refl _ _, fun s' hs => by rw [HS.out] at hs; cases hs⟩)
      · have HS : Hid (takeS ⟨1, neg, npow, ds, beh, pow⟩ 69 = none) := by show takeS _ _ = _; simp [takeS, isD]
        (go_enter Tryz.func180, Tryz.ntmps180; go_wp2_with fail; exact bodyPost_ret (v := .bool false) (by simp [results, Tryz.results180, go_sem]) rfl ⟨by rw [HS.out]; rfl, Fr.refl _ _, fun s' hs => by rw [HS.out] at hs; cases hs⟩)
      · have HS : Hid (takeS ⟨2, neg, npow, ds, beh, pow⟩ 69 = some ⟨5, neg, npow, ds, beh, pow⟩) := by show takeS _ _ = _; simp [takeS, isD]
        (go_enter Tryz.func180, Tryz.ntmps180; go_wp2_with fail; exact bodyPost_ret (v := .bool true) (by simp [results, Tryz.results180, go_sem]) rfl ⟨by rw [HS.out]; rfl, HR.out.fr _ _, fun s' hs => by rw [HS.out] at hs; cases hs; exact ⟨v, HR.out.set0 5⟩⟩)
      · have HS : Hid (takeS ⟨3, neg, npow, ds, beh, pow⟩ 69 = none) := by show takeS _ _ = _; simp [takeS, isD]
        (go_enter Tryz.func180, Tryz.ntmps180; go_wp2_with fail; exact bodyPost_ret (v := .bool false) (by simp [results, Tryz.results180, go_sem]) rfl ⟨by rw [HS.out]; rfl, Fr.refl _ _, fun s' hs => by rw [HS.out] at hs; cases hs⟩)
      · have HS : Hid (takeS ⟨4, neg, npow, ds, beh, pow⟩ 69 = some ⟨5, neg, npow, ds, beh, pow⟩) := by show takeS _ _ = _; simp [takeS, isD]
        (go_enter Tryz.func180, Tryz.ntmps180; go_wp2_with fail; exact bodyPost_ret (v := .bool true) (by simp [results, Tryz.results180, go_sem]) rfl ⟨by rw [HS.out]; rfl, HR.out.fr _ _, fun s' hs => by rw [HS.out] at hs; cases hs; exact ⟨v, HR.out.set0 5⟩⟩)
      · have HS : Hid (takeS ⟨5, neg, npow, ds, beh, pow⟩ 69 = none) := by show takeS _ _ = _; simp [takeS, isD]
        (go_enter Tryz.func180, Tryz.ntmps180; go_wp2_with fail; exact bodyPost_ret (v := .bool false) (by simp [results, Tryz.results180, go_sem]) rfl ⟨by rw [HS.out]; rfl, Fr.refl _ _, fun s' hs => by rw [HS.out] at hs; cases hs⟩)
      · have HS : Hid (takeS ⟨6, neg, npow, ds, beh, pow⟩ 69 = none) := by show takeS _ _ = _; simp [takeS, isD]
        (go_enter Tryz.func180, Tryz.ntmps180; go_wp2_with fail; exact bodyPost_ret (v := .bool false) (by simp [results, Tryz.results180, go_sem]) rfl ⟨by rw [HS.out]; rfl, Fr.refl _ _, fun s' hs => by rw [HS.out] at hs; cases hs⟩)
      · have HS : Hid (takeS ⟨7, neg, npow, ds, beh, pow⟩ 69 = none) := by show takeS _ _ = _; simp [takeS, isD]
        (go_enter Tryz.func180, Tryz.ntmps180; go_wp2_with fail; exact bodyPost_ret (v := .bool false) (by simp [results, Tryz.results180, go_sem]) rfl ⟨by rw [HS.out]; rfl, Fr.refl _ _, fun s' hs => by rw [HS.out] at hs; cases hs⟩)
    have HS : Hid (takeS ⟨st, neg, npow, ds, beh, pow⟩ c = none) := by
      show takeS _ _ = _
      unfold takeS isD
      rw [if_neg (by rw [decide_eq_true_eq]; exact hd), if_neg (by omega), if_neg (by omega), if_neg (by omega), if_neg (by omega)]
    have e1 : ((c : Int) == 45) = false := by simp; omega
    have e2 : ((c : Int) == 46) = false := by simp; omega
    have e3 : ((c : Int) == 101) = false := by simp; omega
    have e4 : ((c : Int) == 69) = false := by simp; omega
    have e5 : ((c : Int) == 43) = false := by simp; omega
    by_cases h48 : 48 ≤ c
    · have g1 : decide (48 ≤ (c : Int)) = true := decide_eq_true (by omega)
      have g2 : decide ((c : Int) ≤ 57) = false := decide_eq_false (by omega)
      clear hd h45 h43 h46 h101 h69 h48 hst0
      (go_enter Tryz.func180, Tryz.ntmps180; go_wp2_with fail; exact bodyPost_ret (v := .bool false) (by simp [results, Tryz.results180, go_sem]) rfl ⟨by rw [HS.out]; rfl, Fr.refl _ _, fun s' hs => by rw [HS.out] at hs; cases hs⟩)
    · have g1 : decide (48 ≤ (c : Int)) = false := decide_eq_false (by omega)
      clear hd h45 h43 h46 h101 h69 h48 hst0
      (go_enter Tryz.func180, Tryz.ntmps180; go_wp2_with fail; exact bodyPost_ret (v := .bool false) (by simp [results, Tryz.results180, go_sem]) rfl ⟨by rw [HS.out]; rfl, Fr.refl _ _, fun s' hs => by rw [HS.out] at hs; cases hs⟩)
end Go.Proofs.YteigcfflljoioaaGreatDoor
namespace Go.Proofs.YteigcfflljoioaaGreatDoor
open Go.RowKit NM
/-- What holds of a reader wherever it stands. -/
structure SB (n : Nat) (s : St) : Prop where
  st : s.st ≤ 7
  len : s.ds.length ≤ n
  beh : s.beh ≤ n
  pow : s.pow ≤ 1000000
  all : AllD s.ds
theorem SB.step {n : Nat} {s s' : St} {c : Nat} (h : SB n s) (ht : takeS s c = some s') : SB (n + 1) s' := by
  obtain ⟨h1, h2, h3, h4, h5⟩ := h
  unfold takeS at ht
  split at ht
  · rename_i hc
    unfold isD at hc
    have hc := of_decide_eq_true hc
    cases ht
    have h6 : AllD (s.ds ++ [c - 48]) := h5.append (AllD.cons (by omega) AllD.nil)
    unfold digS
    split
    · exact ⟨by simp, by simp; omega, by show s.beh ≤ _; omega, h4, h6⟩
    · split
      · exact ⟨by simp, by simp; omega, by show s.beh + 1 ≤ _; omega, h4, h6⟩
      · refine ⟨by simp, by show s.ds.length ≤ _; omega, by show s.beh ≤ _; omega, ?_, h5⟩
        show (if s.pow < 100000 then s.pow * 10 + (c - 48) else s.pow) ≤ 1000000
        split <;> omega
  all_goals (repeat' (split at ht)) <;> cases ht <;> exact ⟨by simp, by show s.ds.length ≤ _; omega, by show s.beh ≤ _; omega, h4, h5⟩
theorem take_high {s : St} {c : Nat} (h : 128 ≤ c) : takeS s c = none := by
  unfold takeS isD
  rw [if_neg (by rw [decide_eq_true_eq]; omega), if_neg (by omega), if_neg (by omega), if_neg (by omega), if_neg (by omega)]
/-- A text's bytes. -/
def bl (s : ByteArray) : List Nat := s.data.toList.map (·.toNat)
theorem bl_length (s : ByteArray) : (bl s).length = s.size := by unfold bl; rw [List.length_map]; rfl
theorem bl_at (s : ByteArray) (pos : Nat) (h : pos < s.size) : (bl s)[pos]? = some (s[pos]'h).toNat := by
  unfold bl
  rw [List.getElem?_map, List.getElem?_eq_getElem (by exact h)]
  rfl
structure PI (X : World) (s : ByteArray) (q k pos : Nat) (S : St) (v : Value) (wr : World) : Prop where
  run : runS ((bl s).take pos) st0 = some S
  rd : RD X.heap.size q S.st S.neg S.npow S.ds S.beh S.pow v wr
  it : wr.heap[k]? = some (Obj.stringIter s pos)
  ext : Ext X wr
  bd : SB pos S
  kb : X.heap.size ≤ k
theorem PI.next {X wr : World} {s : ByteArray} {q k pos : Nat} {S : St} {v : Value} (h : PI X s q k pos S v wr) (p' : Nat) : RD X.heap.size q S.st S.neg S.npow S.ds S.beh S.pow v (wr.iterAt k s p') ∧ (wr.iterAt k s p').heap[k]? = some (Obj.stringIter s p') ∧ Ext X (wr.iterAt k s p') := by
  have hne : ∀ b cs t, wr.heap[b]? = some (Obj.cells cs t (0, 0)) → b ≠ k := fun b cs t hb he => by subst he; rw [h.it] at hb; cases hb
  refine ⟨⟨?_, own_keep h.rd.own fun g cur hg => Lib.iterAt_other _ _ _ _ _ (hne g cur _ hg), h.rd.qb⟩, Lib.iterAt_heap wr k s pos p' h.it, ?_⟩
  · rw [Lib.iterAt_other _ _ _ _ _ (hne q _ _ h.rd.row)]; exact h.rd.row
  · refine ⟨h.ext.os, h.ext.tape, h.ext.output, by rw [Lib.iterAt_size]; exact h.ext.size, fun b hb => ?_⟩
    rw [Lib.iterAt_other _ _ _ _ _ (by have := h.kb; omega), h.ext.block hb]
theorem PI.step {X wr w' : World} {s : ByteArray} {q k pos c : Nat} {S S' : St} {v v' : Value} (h : PI X s q k pos S v wr) (hc : (bl s)[pos]? = some c) (ht : takeS S c = some S') (hf : Fr X.heap.size (wr.iterAt k s (pos + 1)) w') (hr : RD X.heap.size q S'.st S'.neg S'.npow S'.ds S'.beh S'.pow v' w') : PI X s q k (pos + 1) S' v' w' := by
  obtain ⟨_, h2, h3⟩ := h.next (pos + 1)
  refine ⟨?_, hr, hf.it _ _ _ h2, Below.trans h3 hf.low, h.bd.step ht, h.kb⟩
  rw [take_at hc, runS_append, h.run, Option.bind_some]
  show (takeS S c).bind (runS []) = _
  rw [ht]; rfl
theorem parM_none {s : ByteArray} {pos c : Nat} {S : St} (h : runS ((bl s).take pos) st0 = some S) (hc : (bl s)[pos]? = some c) (ht : takeS S c = none) : parM (bl s) = none := by
  unfold parM
  have hl := lt_at hc
  have h1 : bl s = (bl s).take pos ++ (c :: (bl s).drop (pos + 1)) := by
    rw [← drop_at hc, List.take_append_drop]
  rw [h1, runS_append, h, Option.bind_some]
  show ((takeS S c).bind _).bind endS = none
  rw [ht]; rfl
def parS (s : ByteArray) : Option (Int × Int) := if 255 < s.size then none else parM (bl s)
set_option maxHeartbeats 1000000 in
theorem parse_any (s : ByteArray) (w : World) (hs : s.size ≤ 1000) :
    Calls Tryz.prog 171 #[.string s] w fun r w' => r = .returned (rnV (parS s)) ∧ Ext w w' := by
  unfold parS
  by_cases hlen : 255 < s.size
  · rw [if_pos hlen]
    go_enter Tryz.func171, Tryz.ntmps171
    go_wp2_with fail
    exact bodyPost_ret (v := .tuple #[NV 0 0, .bool false]) (by simp [results, Tryz.results171, go_sem]) rfl ⟨rfl, by with_reducible repeat (first | exact Ext.refl _ | apply Ext.drew | apply Ext.alloc | apply Ext.more_)⟩
  · rw [if_neg hlen]
    generalize hR : parM (bl s) = R
    have HR := Lib.hid hR
    clear hR
    have HX : Hid (∀ W : World, W = ((w.alloc (.cells #[.int .i64 0, .int .i64 0] 24)).alloc (.cells #[.int .i64 0, .bool false, .bool false, .slice none 0 0, .int .i64 0, .int .i64 0] 159)).iter s 0 → PI (w.alloc (.cells #[.int .i64 0, .int .i64 0] 24)) s (w.heap.size + 1) (w.heap.size + 1 + 1) 0 st0 (.slice none 0 0) W) := by
      intro W hW
      have hx : Ext (w.alloc (.cells #[.int .i64 0, .int .i64 0] 24)) W := by rw [hW]; exact (((Ext.refl _).alloc _).alloc _)
      have hz : (w.alloc (.cells #[.int .i64 0, .int .i64 0] 24)).heap.size = w.heap.size + 1 := by simp
      refine ⟨rfl, ⟨?_, World.ownsRow_nil _ _ _ _, by omega⟩, ?_, hx, ⟨by decide, Nat.le_refl _, Nat.le_refl _, by decide, AllD.nil⟩, by omega⟩
      · rw [hW]
        have h1 : ((w.alloc (.cells #[.int .i64 0, .int .i64 0] 24)).alloc (.cells #[.int .i64 0, .bool false, .bool false, .slice none 0 0, .int .i64 0, .int .i64 0] 159)).heap[w.heap.size + 1]? = some (.cells #[.int .i64 0, .bool false, .bool false, .slice none 0 0, .int .i64 0, .int .i64 0] 159) := by rw [← hz]; exact Array.getElem?_push_size
        exact (RowKit.Below.heap_alloc _ _ _ (lt_block h1)).trans h1
      · rw [hW]
        have := World.iter_heap ((w.alloc (.cells #[.int .i64 0, .int .i64 0] 24)).alloc (.cells #[.int .i64 0, .bool false, .bool false, .slice none 0 0, .int .i64 0, .int .i64 0] 159)) s 0
        simpa using this
    go_enter Tryz.func171, Tryz.ntmps171
    go_upto_block 0 with fail
    refine wp_world fun W hW => ?_
    have hPI := HX.out W hW
    have hX0 : PV (w.alloc (.cells #[.int .i64 0, .int .i64 0] 24)) w.heap.size 0 0 := PV.new 0 0 rfl
    have hXw : Ext w (w.alloc (.cells #[.int .i64 0, .int .i64 0] 24)) := (Ext.refl w).alloc _
    have hXs : (w.alloc (.cells #[.int .i64 0, .int .i64 0] 24)).heap.size = w.heap.size + 1 := by simp
    clear hW HX
    generalize w.alloc (.cells #[.int .i64 0, .int .i64 0] 24) = X at *
    have hq : w.heap.size + 1 < w.heap.size + 1 + 1 := by omega
    have hq0 : w.heap.size < w.heap.size + 1 := by omega
    generalize w.heap.size + 1 + 1 = k at *
    have HS0 := Lib.hid hXs
    clear hXs
    generalize w.heap.size + 1 = q at *
    have HP : Hid (PI X s q k 0 st0 (.slice none 0 0) W) := hPI
    clear hPI
    go_wp2_with fail
    go_loopw [6] (fun _ wr => ∃ pos S v, pos ≤ s.size ∧ Hid (PI X s q k pos S v wr)) (fun _ wr => s.size - wr.iterPos k)
    case atStart => exact ⟨0, st0, _, Nat.zero_le _, HP⟩
    case round =>
      obtain ⟨pos, S, v, hpos, H⟩ := hrel
      by_cases hp : pos < s.size
      · have hb := bl_at s pos hp
        have hnx : ∀ ty, (Instr.next (.pointer (some ⟨k, 0, none⟩)) true ty).run Tryz.prog wr = _ := fun ty => Lib.run_next_any_at wr k s pos ty H.out.it hp
        have hbd := H.out.bd
        have heta : (⟨S.st, S.neg, S.npow, S.ds, S.beh, S.pow⟩ : St) = S := rfl
        by_cases ha : (s[pos]'hp).toNat < 128
        · rw [decode_ascii s pos hp ha] at hnx
          generalize (s[pos]'hp).toNat = c at *
          simp only at hnx
          obtain ⟨r1, r2, r3⟩ := H.out.next (pos + 1)
          have htk := take_any X.heap.size q S.st S.neg S.npow S.ds S.beh S.pow c v (wr.iterAt k s (pos + 1)) r1 r3.size hbd.st (by have := hbd.len; omega) (by have := hbd.beh; omega) hbd.pow
          rw [heta] at htk
          have HC := Lib.hid hb
          have HE := Lib.hid r3
          clear hb r1 r2 r3 ha hbd heta
          cases hT : takeS S c with
          | some S' =>
            have HT := Lib.hid hT
            rw [hT] at htk
            clear hT
            go_wp2_with (go_at_call 180; (with_reducible refine htk.mono ?_); rintro e w' ⟨rfl, hfr, hrd⟩)
            obtain ⟨v', hr'⟩ := hrd S' rfl
            have h2 := H.out.step HC.out HT.out hfr hr'
            refine ⟨⟨pos + 1, S', v', by omega, h2⟩, ?_⟩
            simp only [World.iterPos, h2.it, H.out.it]
            omega
          | none =>
            have HT := Lib.hid hT
            rw [hT] at htk
            clear hT
            have hRn : R = none := by rw [← HR.out]; exact parM_none H.out.run HC.out HT.out
            subst hRn
            go_wp2_with (go_at_call 180; (with_reducible refine htk.mono ?_); rintro e w' ⟨rfl, hfr, hrd⟩; have hex : Ext X w' := Below.trans HE.out hfr.low; have hpv := hX0.ext hex; have a0 := hpv.c0; have a1 := hpv.c1; have a2 := hpv.fz 0; have a3 := hpv.fz 1; have a4 := hpv.lt; have z0 := (hpv.set 0 0).c0; have z1 := (hpv.set 0 0).c1)
            exact bodyPost_ret (v := .tuple #[NV 0 0, .bool false]) (by simp [results, Tryz.results171, go_sem, z0, z1]) rfl ⟨rfl, ((hXw.trans hex).set _ (Nat.le_refl _)).set _ (Nat.le_refl _)⟩
        · obtain ⟨d1, d2⟩ := decode_high s pos hp (by omega)
          have hRn : R = none := by rw [← HR.out]; exact parM_none H.out.run hb (take_high (by omega))
          subst hRn
          generalize (Utf8.decode s pos).1 = c at *
          generalize (Utf8.decode s pos).2 = b at *
          obtain ⟨r1, r2, r3⟩ := H.out.next (pos + b)
          have htk := take_any X.heap.size q S.st S.neg S.npow S.ds S.beh S.pow c v (wr.iterAt k s (pos + b)) r1 r3.size hbd.st (by have := hbd.len; omega) (by have := hbd.beh; omega) hbd.pow
          rw [heta, take_high d1] at htk
          have HE := Lib.hid r3
          clear hb r1 r2 r3 ha hbd heta
          go_wp2_with (go_at_call 180; (with_reducible refine htk.mono ?_); rintro e w' ⟨rfl, hfr, hrd⟩; have hex : Ext X w' := Below.trans HE.out hfr.low; have hpv := hX0.ext hex; have a0 := hpv.c0; have a1 := hpv.c1; have a2 := hpv.fz 0; have a3 := hpv.fz 1; have a4 := hpv.lt; have z0 := (hpv.set 0 0).c0; have z1 := (hpv.set 0 0).c1)
          exact bodyPost_ret (v := .tuple #[NV 0 0, .bool false]) (by simp [results, Tryz.results171, go_sem, z0, z1]) rfl ⟨rfl, ((hXw.trans hex).set _ (Nat.le_refl _)).set _ (Nat.le_refl _)⟩
      · have hnx : ∀ ty, (Instr.next (.pointer (some ⟨k, 0, none⟩)) true ty).run Tryz.prog wr = _ := fun ty => Lib.run_next_end_at wr k s pos ty H.out.it hp
        have hpe : pos = s.size := by omega
        have hrun := H.out.run
        have hR := HR.out
        rw [hpe, ← bl_length, List.take_length] at hrun
        unfold parM at hR
        rw [hrun, Option.bind_some] at hR
        have hrd := H.out.rd
        have hbd := H.out.bd
        have hex := H.out.ext
        have HE := Lib.hid hR
        clear hrun hR HR hpe
        obtain ⟨st, neg, npow, ds, beh, pow⟩ := S
        simp only at hrd
        obtain ⟨c0, c1, c2, c3, c4, c5⟩ := hrd.at
        have f5 := hrd.fz 5
        have lq := hrd.lt
        have hpv := hX0.ext hex
        have a0 := hpv.c0
        have a1 := hpv.c1
        have a2 := hpv.fz 0
        have a3 := hpv.fz 1
        have a4 := hpv.lt
        have z0 := (hpv.set 0 0).c0
        have z1 := (hpv.set 0 0).c1
        have HRD := Lib.hid hrd
        have HBD := Lib.hid hbd
        clear hrd hbd
        by_cases hok : st = 2 ∨ st = 4 ∨ st = 7
        · have hRn : rnd neg (val ds) false ((if npow then -(pow : Int) else pow) - beh) = R := by rw [← HE.out]; unfold endS; exact (if_pos hok).symm
          have hpw := HBD.out.pow
          have hbh := HBD.out.beh
          have hln := HBD.out.len
          simp only at hpw hbh hln
          have hqX := HRD.out.qb
          cases npow with
          | true =>
            rw [if_pos rfl] at hRn
            have hro := round_own X neg v ds (-(pow : Int) - beh) (wr.setCell ⟨q, 5, none⟩ (.int .i64 (-(pow : Int)))) ds.length (hex.set _ hqX) (HRD.out.keep 5 _) HBD.out.all (by omega) (by omega)
            rw [hRn] at hro
            have w1 : IntKind.i64.wrap (-(pow : Int)) = -pow := i64w (by omega) (by omega)
            have w2 : IntKind.i64.wrap (-(pow : Int) - beh) = -pow - beh := i64w (by omega) (by omega)
            have x0 := hX0.c0
            have x1 := hX0.c1
            have x2 := hX0.fz 0
            have x3 := hX0.fz 1
            have x4 := hX0.lt
            have z0 := (hX0.set (rm R) (re R)).c0
            have z1 := (hX0.set (rm R) (re R)).c1
            clear hpw hbh hln hRn
            rcases hok with rfl | rfl | rfl
            all_goals
              go_wp2_with (go_at_call 115; (with_reducible refine hro.mono ?_); rintro e w' ⟨rfl, os, d, rfl⟩)
              exact bodyPost_ret (v := rnV R) (by simp [results, Tryz.results171, go_sem, z0, z1, x4]) rfl ⟨rfl, ((hXw.set _ (Nat.le_refl _)).set _ (Nat.le_refl _)).more_ _ _⟩
          | false =>
            rw [if_neg (by simp)] at hRn
            have hro := round_own X neg v ds ((pow : Int) - beh) wr ds.length hex HRD.out.own HBD.out.all (by omega) (by omega)
            rw [hRn] at hro
            have w2 : IntKind.i64.wrap ((pow : Int) - beh) = pow - beh := i64w (by omega) (by omega)
            have x0 := hX0.c0
            have x1 := hX0.c1
            have x2 := hX0.fz 0
            have x3 := hX0.fz 1
            have x4 := hX0.lt
            have z0 := (hX0.set (rm R) (re R)).c0
            have z1 := (hX0.set (rm R) (re R)).c1
            clear hpw hbh hln hRn
            rcases hok with rfl | rfl | rfl
            all_goals
              go_wp2_with (go_at_call 115; (with_reducible refine hro.mono ?_); rintro e w' ⟨rfl, os, d, rfl⟩)
              exact bodyPost_ret (v := rnV R) (by simp [results, Tryz.results171, go_sem, z0, z1, x4]) rfl ⟨rfl, ((hXw.set _ (Nat.le_refl _)).set _ (Nat.le_refl _)).more_ _ _⟩
        · have hRn : R = none := by rw [← HE.out]; unfold endS; exact if_neg hok
          subst hRn
          have e1 : ((st : Int) != 2) = true := by simp; omega
          have e2 : ((st : Int) != 4) = true := by simp; omega
          have e3 : ((st : Int) != 7) = true := by simp; omega
          go_wp2_with fail
          exact bodyPost_ret (v := .tuple #[NV 0 0, .bool false]) (by simp [results, Tryz.results171, go_sem, z0, z1]) rfl ⟨rfl, ((hXw.trans hex).set _ (Nat.le_refl _)).set _ (Nat.le_refl _)⟩
end Go.Proofs.YteigcfflljoioaaGreatDoor
namespace Go.Proofs.YteigcfflljoioaaGreatDoor
open Go.RowKit NM
theorem tw_lt : ∀ (l : List Nat) {j c : Nat}, j < (l.takeWhile isD).length → l[j]? = some c → isD c = true
  | [], j, c, h, _ => by simp at h
  | d :: l, j, c, h, hc => by
    rw [List.takeWhile_cons] at h
    by_cases hd : isD d = true
    · rw [if_pos hd, List.length_cons] at h
      cases j with
      | zero => rw [List.getElem?_cons_zero] at hc; cases hc; exact hd
      | succ j => rw [List.getElem?_cons_succ] at hc; exact tw_lt l (by omega) hc
    · rw [if_neg hd] at h; simp at h
theorem tw_eq : ∀ (l : List Nat) {c : Nat}, l[(l.takeWhile isD).length]? = some c → isD c = false
  | [], c, h => by simp at h
  | d :: l, c, h => by
    rw [List.takeWhile_cons] at h
    by_cases hd : isD d = true
    · rw [if_pos hd, List.length_cons, List.getElem?_cons_succ] at h
      exact tw_eq l h
    · rw [if_neg hd, List.length_nil, List.getElem?_cons_zero] at h
      cases h
      simpa using hd
theorem tw_le (l : List Nat) : (l.takeWhile isD).length ≤ l.length := (List.takeWhile_sublist _).length_le
theorem isD_yes {c : Nat} (h : isD c = true) : 48 ≤ c ∧ c ≤ 57 := of_decide_eq_true h
theorem isD_no {c : Nat} (h : isD c = false) : c < 48 ∨ 57 < c := by
  have := of_decide_eq_false h; omega
set_option maxHeartbeats 1000000 in
theorem run_any (s : ByteArray) (i : Nat) (w : World) (hs : s.size ≤ 1000) (hi : i ≤ s.size) :
    Calls Tryz.prog 97 #[.string s, .int .i64 (i : Int)] w fun r w' => r = .returned (.int .i64 ((((bl s).drop i).takeWhile isD).length : Int)) ∧ w' = w := by
  generalize hL : (((bl s).drop i).takeWhile isD).length = L
  have HL := Lib.hid hL
  have hLs : i + L ≤ s.size := by
    have h1 := tw_le ((bl s).drop i)
    rw [hL, List.length_drop, bl_length] at h1
    omega
  clear hL
  go_enter Tryz.func97, Tryz.ntmps97
  go_wp2_with fail
  go_loop [5] (fun v => ∃ j : Nat, v = .int .i64 (j : Int) ∧ j ≤ L) (fun v => L - (intOf v).toNat)
  case atStart => exact ⟨0, rfl, Nat.zero_le _⟩
  case round =>
    obtain ⟨j, rfl, hj⟩ := hrel
    by_cases hjs : i + j < s.size
    · have hb := bl_at s (i + j) hjs
      have hb' : ((bl s).drop i)[j]? = some (s[i + j]'hjs).toNat := by rw [List.getElem?_drop]; exact hb
      clear hb
      by_cases hjL : j < L
      · obtain ⟨g1, g2⟩ := isD_yes (tw_lt _ (by rw [HL.out]; exact hjL) hb')
        have g1' : (48 : Int) ≤ ((s[i + j]'hjs).toNat : Int) := by omega
        have g2' : ((s[i + j]'hjs).toNat : Int) ≤ 57 := by omega
        clear hb' g1 g2
        go_wp2_with fail
        exact ⟨⟨j + 1, by go_num, by omega⟩, by simp [intOf]; omega⟩
      · have hjL' : Hid (j = L) := by show j = L; omega
        have hd := isD_no (tw_eq ((bl s).drop i) (by rw [HL.out, ← hjL'.out]; exact hb'))
        rcases hd with hd | hd
        · have g1 : ¬ (48 : Int) ≤ ((s[i + j]'hjs).toNat : Int) := by omega
          clear hb' hd
          go_wp2_with fail
          exact bodyPost_ret (v := .int .i64 (j : Int)) (by simp [results, Tryz.results97, go_sem]) rfl ⟨by rw [hjL'.out], rfl⟩
        · have g1 : (48 : Int) ≤ ((s[i + j]'hjs).toNat : Int) := by omega
          have g2 : ¬ ((s[i + j]'hjs).toNat : Int) ≤ 57 := by omega
          clear hb' hd
          go_wp2_with fail
          exact bodyPost_ret (v := .int .i64 (j : Int)) (by simp [results, Tryz.results97, go_sem]) rfl ⟨by rw [hjL'.out], rfl⟩
    · have hjL' : Hid (j = L) := by
        show j = L
        have h1 := tw_le ((bl s).drop i)
        rw [HL.out, List.length_drop, bl_length] at h1
        omega
      have hjs' : ¬ ((i : Int) + (j : Int) < (s.size : Int)) := by omega
      go_wp2_with fail
      exact bodyPost_ret (v := .int .i64 (j : Int)) (by simp [results, Tryz.results97, go_sem]) rfl ⟨by rw [hjL'.out], rfl⟩
end Go.Proofs.YteigcfflljoioaaGreatDoor
namespace Go.Proofs.YteigcfflljoioaaGreatDoor
open Go.RowKit NM
def oV (r : Option Int) : Value := .tuple #[.int .i64 (r.getD 0), .bool r.isSome]
/-- Digits to the end, or not. -/
theorem run_end (l : List Nat) : (l = [] ∨ ¬ (∀ c ∈ l, isD c = true)) ↔ ((l.takeWhile isD).length = 0 ∨ (l.takeWhile isD).length ≠ l.length) := by
  constructor
  · rintro (rfl | h)
    · exact Or.inl rfl
    · refine Or.inr fun he => h ?_
      have h1 : l.takeWhile isD = l := (List.takeWhile_prefix isD).eq_of_length he
      intro c hc
      rw [← h1] at hc
      exact take_d l c hc
  · intro h
    by_cases h0 : l = []
    · exact Or.inl h0
    · refine Or.inr fun hall => ?_
      have h1 : (l.takeWhile isD).length = l.length := by
        have h2 := tw_le l
        by_cases h3 : (l.takeWhile isD).length < l.length
        · have h4 := tw_eq l (List.getElem?_eq_getElem h3)
          rw [hall _ (List.getElem_mem h3)] at h4
          cases h4
        · omega
      rcases h with h | h
      · exact h0 (List.length_eq_zero_iff.1 (by omega))
      · exact h h1
theorem fold_bd (l : List Nat) : ∀ n, n ≤ 1000 → l.foldl (fun n c => min 1000 (10 * n + (c - 48))) n ≤ 1000 := by
  induction l with
  | nil => intro n h; exact h
  | cons c l ih => intro n h; exact ih _ (by show min 1000 (10 * n + (c - 48)) ≤ 1000; omega)
theorem powR_tail (c : Nat) (t u : List Nat) (ng : Bool) (hc : c = 101 ∨ c = 69) (h : (t.head? = some 43 ∨ t.head? = some 45) ∧ u = t.tail ∧ ng = decide (t.head? = some 45) ∨ ¬ (t.head? = some 43 ∨ t.head? = some 45) ∧ u = t ∧ ng = false) :
    powR (c :: t) = if (u.takeWhile isD).length = 0 ∨ (u.takeWhile isD).length ≠ u.length then none else some (if ng then -((u.foldl (fun n c => min 1000 (10 * n + (c - 48))) 0 : Nat) : Int) else (u.foldl (fun n c => min 1000 (10 * n + (c - 48))) 0 : Nat)) := by
  rw [powR_cons]
  unfold powC
  rw [if_neg (by omega)]
  simp only
  rcases h with ⟨h1, rfl, rfl⟩ | ⟨h1, rfl, rfl⟩
  · rw [if_pos h1]
    rw [ite_iff _ _ (run_end t.tail)]
    congr 2
    by_cases h45 : t.head? = some 45 <;> simp [h45]
  · rw [if_neg h1, ite_iff _ _ (run_end u)]
    congr 2
    rw [if_neg (fun h => h1 (Or.inr h))]
    simp
set_option maxHeartbeats 1000000 in
theorem rpower_any (s : ByteArray) (w : World) (hs : s.size ≤ 1000) :
    Calls Tryz.prog 98 #[.string s] w fun r w' => r = .returned (oV (powR (bl s))) ∧ w' = w := by
  by_cases h0 : s.size = 0
  · have : s = ⟨#[]⟩ := by
      cases s with | mk d => cases d with | mk l => cases l with
        | nil => rfl
        | cons a l => simp [ByteArray.size] at h0
    subst this
    go_enter Tryz.func98, Tryz.ntmps98
    go_wp2_with fail
    exact bodyPost_ret (v := .tuple #[.int .i64 0, .bool true]) (by simp [results, Tryz.results98, go_sem]) rfl ⟨rfl, rfl⟩
  · have h0' : 0 < s.size := by omega
    have hne : s.toList.isEmpty = false := by
      rw [ByteArray.toList_eq]
      cases h : s.data.toList with
      | nil => have h1 : s.data.toList.length = s.size := rfl
               rw [h] at h1; simp at h1; omega
      | cons a l => rfl
    have hb := bl_at s 0 h0'
    obtain ⟨c, t, hct⟩ : ∃ c t, bl s = c :: t := by
      cases h : bl s with
      | nil => have := bl_length s; rw [h] at this; simp at this; omega
      | cons c t => exact ⟨c, t, rfl⟩
    have hc0 : (s[0]'h0').toNat = c := by rw [hct] at hb; simpa using hb.symm
    have hdr : (bl s).drop 1 = t := by rw [hct]; rfl
    by_cases hce : c = 101 ∨ c = 69
    · generalize hR : powR (bl s) = R
      have HR := Lib.hid hR
      clear hR
      have HE : Hid (((s[0]'h0').toNat : Int) = 101 ∨ (((s[0]'h0').toNat : Int) != 101) = true ∧ (((s[0]'h0').toNat : Int) != 69) = false) := by
        rcases hce with h | h
        · exact Or.inl (by omega)
        · exact Or.inr ⟨by simp; omega, by simp; omega⟩
      have HT : Hid (∀ (u : List Nat) (ng : Bool), (t.head? = some 43 ∨ t.head? = some 45) ∧ u = t.tail ∧ ng = decide (t.head? = some 45) ∨ ¬ (t.head? = some 43 ∨ t.head? = some 45) ∧ u = t ∧ ng = false → R = if (u.takeWhile isD).length = 0 ∨ (u.takeWhile isD).length ≠ u.length then none else some (if ng then -((u.foldl (fun n c => min 1000 (10 * n + (c - 48))) 0 : Nat) : Int) else (u.foldl (fun n c => min 1000 (10 * n + (c - 48))) 0 : Nat))) := by
        intro u ng h
        rw [← HR.out, hct]
        exact powR_tail c t u ng hce h
      have hc1 : ∀ h : 1 < s.size, t.head? = some (s[1]'h).toNat := by
        intro h
        have := bl_at s 1 h
        rw [hct] at this
        rw [List.head?_eq_getElem?]
        simpa using this
      have hc2 : s.size ≤ 1 → t = [] := by
        intro h
        have := bl_length s
        rw [hct] at this
        simp at this
        exact List.length_eq_zero_iff.1 (by omega)
      have hd2 : (bl s).drop 2 = t.tail := by rw [hct]; cases t <;> rfl
      have HC1 := Lib.hid hc1
      have HC2 := Lib.hid hc2
      have HD1 := Lib.hid hdr
      have HD2 := Lib.hid hd2
      clear hct hb hc0 hdr hc1 hc2 hd2 hce HR
      go_enter Tryz.func98, Tryz.ntmps98
      go_upto_region 3 with fail
      go_cut [18] (fun s18 wx => s18 = .bool false ∧ wx = w)
      case first =>
        rcases HE.out with h | ⟨h, h'⟩
        · have e1 : (((s[0]'h0').toNat : Int) != 101) = false := by simp [h]
          clear h
          go_wp2_with fail
          go_meet
          exact ⟨rfl, rfl⟩
        · go_wp2_with fail
          go_meet
          exact ⟨rfl, rfl⟩
      case rest =>
      obtain ⟨rfl, hwc⟩ := hcut
      rw [hwc]
      clear hwc wc
      go_upto_region 7 with fail
      obtain ⟨B, hB⟩ : ∃ B, B = decide (t.head? = some 43 ∨ t.head? = some 45) := ⟨_, rfl⟩
      have HB := Lib.hid hB
      clear hB
      go_cut [31] (fun s31 wx => s31 = .bool B ∧ wx = w)
      case first =>
        by_cases h1 : 1 < s.size
        · have hh := HC1.out h1
          by_cases h43 : ((s[1]'h1).toNat : Int) = 43
          · have hBt : B = true := by rw [HB.out, hh]; exact decide_eq_true (Or.inl (by congr 1; omega))
            subst hBt
            have e1 : (((s[1]'h1).toNat : Int) == 43) = true := by simp [h43]
            clear hh h43
            go_wp2_with fail
            go_meet
            exact ⟨rfl, rfl⟩
          · have e1 : (((s[1]'h1).toNat : Int) == 43) = false := by simpa using h43
            by_cases h45 : ((s[1]'h1).toNat : Int) = 45
            · have hBt : B = true := by rw [HB.out, hh]; exact decide_eq_true (Or.inr (by congr 1; omega))
              subst hBt
              have e2 : (((s[1]'h1).toNat : Int) == 45) = true := by simp [h45]
              clear hh h43 h45
              go_wp2_with fail
              go_meet
              exact ⟨rfl, rfl⟩
            · have hBt : B = false := by rw [HB.out, hh]; exact decide_eq_false (by simp; omega)
              subst hBt
              have e2 : (((s[1]'h1).toNat : Int) == 45) = false := by simpa using h45
              clear hh h43 h45
              go_wp2_with fail
              go_meet
              exact ⟨rfl, rfl⟩
        · have hBt : B = false := by rw [HB.out, HC2.out (by omega)]; rfl
          subst hBt
          go_wp2_with fail
          go_meet
          exact ⟨rfl, rfl⟩
      case rest =>
      obtain ⟨rfl, hwc⟩ := hcut
      rw [hwc]
      clear hwc wc
      go_upto_if 31 with fail
      go_cut [4, 5] (fun s4 s5 wx => ∃ (i : Nat) (ng : Bool), s4 = .int .i64 (i : Int) ∧ s5 = .bool ng ∧ wx = w ∧ i ≤ s.size ∧ Hid (R = if (((bl s).drop i).takeWhile isD).length = 0 ∨ (((bl s).drop i).takeWhile isD).length ≠ ((bl s).drop i).length then none else some (if ng then -((((bl s).drop i).foldl (fun n c => min 1000 (10 * n + (c - 48))) 0 : Nat) : Int) else (((bl s).drop i).foldl (fun n c => min 1000 (10 * n + (c - 48))) 0 : Nat))))
      case first =>
        cases B with
        | true =>
          have h1 : 1 < s.size := by
            have h2 := of_decide_eq_true HB.out.symm
            by_cases h1 : 1 < s.size
            · exact h1
            · rw [HC2.out (by omega)] at h2; simp at h2
          have hh := HC1.out h1
          go_wp2_with fail
          go_meet
          refine ⟨2, _, rfl, rfl, rfl, by omega, ?_⟩
          have h2 := of_decide_eq_true HB.out.symm
          rw [HD2.out]
          refine HT.out t.tail _ (Or.inl ⟨h2, rfl, ?_⟩)
          rw [hh]
          by_cases h45 : (s[1]'h1).toNat = 45 <;> simp [h45] <;> omega
        | false =>
          have h2 := of_decide_eq_false HB.out.symm
          have HH := Lib.hid h2
          clear h2
          go_wp2_with fail
          go_meet
          refine ⟨1, _, rfl, rfl, rfl, by omega, ?_⟩
          rw [HD1.out]
          exact HT.out t _ (Or.inr ⟨HH.out, rfl, rfl⟩)
      case rest =>
      obtain ⟨i, ng, rfl, rfl, hwc, hi, HRI⟩ := hcut
      rw [hwc]
      clear hwc wc HT HC1 HC2 HD1 HD2 HB HE
      have hrun := run_any s i w hs hi
      have hDl : ((bl s).drop i).length = s.size - i := by rw [List.length_drop, bl_length]
      have HAT : Hid (∀ (m : Nat) (h : i + m < s.size), ((bl s).drop i)[m]? = some (s[i + m]'h).toNat) := fun m h => by rw [List.getElem?_drop]; exact bl_at s (i + m) h
      generalize (bl s).drop i = D at *
      have HTW : Hid (∀ m c, m < (D.takeWhile isD).length → D[m]? = some c → isD c = true) := fun m c h1 h2 => tw_lt D h1 h2
      have hLle := tw_le D
      generalize (D.takeWhile isD).length = L at *
      by_cases hbad : L = 0 ∨ L ≠ D.length
      · have hRn : R = none := by rw [HRI.out]; exact if_pos hbad
        subst hRn
        by_cases hL0 : L = 0
        · have e1 : ((L : Int) == 0) = true := by simp [hL0]
          clear hL0 hbad
          go_wp2_with (go_at_call 97; (with_reducible refine hrun.mono ?_); rintro e w' ⟨rfl, rfl⟩)
          exact bodyPost_ret (v := .tuple #[.int .i64 0, .bool false]) (by simp [results, Tryz.results98, go_sem]) rfl ⟨rfl, rfl⟩
        · have e1 : ((L : Int) == 0) = false := by simp [hL0]
          have e2 : ((i : Int) + (L : Int) != (s.size : Int)) = true := by simp; omega
          clear hL0 hbad
          go_wp2_with (go_at_call 97; (with_reducible refine hrun.mono ?_); rintro e w' ⟨rfl, rfl⟩)
          exact bodyPost_ret (v := .tuple #[.int .i64 0, .bool false]) (by simp [results, Tryz.results98, go_sem]) rfl ⟨rfl, rfl⟩
      · have hRn : R = some (if ng then -((D.foldl (fun n c => min 1000 (10 * n + (c - 48))) 0 : Nat) : Int) else (D.foldl (fun n c => min 1000 (10 * n + (c - 48))) 0 : Nat)) := by rw [HRI.out]; exact if_neg hbad
        have e1 : ((L : Int) == 0) = false := by simp; omega
        have e2 : ((i : Int) + (L : Int) != (s.size : Int)) = false := by simp; omega
        have HRN := Lib.hid hRn
        have hLs : Hid (L = D.length ∧ i + L = s.size) := by show L = D.length ∧ i + L = s.size; omega
        have hLb : L ≤ 1000 := by omega
        clear hRn hbad hDl HRI
        go_wp2_with (go_at_call 97; (with_reducible refine hrun.mono ?_); rintro e w' ⟨rfl, rfl⟩)
        go_loop [7, 8] (fun v7 v8 => ∃ m : Nat, i + m ≤ s.size ∧ v8 = .int .i64 ((i + m : Nat) : Int) ∧ v7 = .int .i64 (((D.take m).foldl (fun n c => min 1000 (10 * n + (c - 48))) 0 : Nat) : Int)) (fun _ v8 => s.size - (intOf v8).toNat)
        case atStart => exact ⟨0, by omega, rfl, rfl⟩
        case round =>
          obtain ⟨m, hm, rfl, rfl⟩ := hrel
          have hn := fold_bd (D.take m) 0 (by omega)
          by_cases hms : i + m < s.size
          · have hb := HAT.out m hms
            obtain ⟨g1, g2⟩ := isD_yes (HTW.out m _ (by have := hLs.out.2; omega) hb)
            have HF : Hid ((D.take (m + 1)).foldl (fun n c => min 1000 (10 * n + (c - 48))) 0 = min 1000 (10 * (D.take m).foldl (fun n c => min 1000 (10 * n + (c - 48))) 0 + ((s[i + m]'hms).toNat - 48))) := by
              show List.foldl _ _ _ = _
              rw [take_at hb, List.foldl_append]; rfl
            generalize (D.take m).foldl (fun n c => min 1000 (10 * n + (c - 48))) 0 = n at *
            clear hb
            by_cases hbig : 1000 < 10 * n + ((s[i + m]'hms).toNat - 48)
            · have hbig' : (1000 : Int) < 10 * (n : Int) + ((s[i + m]'hms).toNat : Int) - 48 := by omega
              go_wp2_with fail
              refine ⟨⟨m + 1, by omega, by go_num, ?_⟩, by simp [intOf]; omega⟩
              rw [HF.out, Nat.min_eq_left (by omega)]; rfl
            · have hbig' : ¬ (1000 : Int) < 10 * (n : Int) + ((s[i + m]'hms).toNat : Int) - 48 := by omega
              go_wp2_with fail
              refine ⟨⟨m + 1, by omega, by go_num, ?_⟩, by simp [intOf]; omega⟩
              rw [HF.out, Nat.min_eq_right (by omega)]
              congr 1; omega
          · have HM : Hid (D.take m = D) := by
              show D.take m = D
              apply List.take_of_length_le
              have := hLs.out
              omega
            have HR2 : Hid (R = some (if ng then -(((D.take m).foldl (fun n c => min 1000 (10 * n + (c - 48))) 0 : Nat) : Int) else ((D.take m).foldl (fun n c => min 1000 (10 * n + (c - 48))) 0 : Nat))) := by
              show R = _
              rw [HM.out]; exact HRN.out
            clear HRN
            generalize (D.take m).foldl (fun n c => min 1000 (10 * n + (c - 48))) 0 = n at *
            have hms' : ¬ ((i : Int) + (m : Int) < (s.size : Int)) := by omega
            cases ng with
            | true =>
              go_wp2_with fail
              exact bodyPost_ret (v := .tuple #[.int .i64 (-(n : Int)), .bool true]) (by simp [results, Tryz.results98, go_sem]) rfl ⟨by rw [HR2.out]; rfl, rfl⟩
            | false =>
              go_wp2_with fail
              exact bodyPost_ret (v := .tuple #[.int .i64 (n : Int), .bool true]) (by simp [results, Tryz.results98, go_sem]) rfl ⟨by rw [HR2.out]; rfl, rfl⟩
    · have hR : powR (bl s) = none := by rw [hct, powR_cons]; unfold powC; rw [if_pos (by omega)]
      rw [hR]
      have e1 : (((s[0]'h0').toNat : Int) != 101) = true := by simp; omega
      have e2 : (((s[0]'h0').toNat : Int) != 69) = true := by simp; omega
      clear hR hct hb hc0 hdr
      go_enter Tryz.func98, Tryz.ntmps98
      go_wp2_with fail
      exact bodyPost_ret (v := .tuple #[.int .i64 0, .bool false]) (by simp [results, Tryz.results98, go_sem]) rfl ⟨rfl, rfl⟩
end Go.Proofs.YteigcfflljoioaaGreatDoor
namespace Go.Proofs.YteigcfflljoioaaGreatDoor
open Go.RowKit NM
theorem wp_append_own1 {P : Program} (w : World) {o : Oper} {a : Act} {K : Act → World → Prop} {Q : Exit → Act → World → Prop} (s x : Operand) (t : TypeId)
    (ho : o.op = .call { callee := .builtin .append, args := #[s, x], argTypes := #[t, t] })
    (base : Nat) (e : TypeId) (i : TypeInfo) (z : Value) (size bytes : Nat) (ht : P.underlying t = some (.slice e)) (hi : P.info? e = some i) (hz : i.zero = some z)
    (hsize : i.size = size) (hby : i.bytes = bytes) (hzs : z.cells.size = size) (hsz : 0 < size)
    (v : Value) (n : Nat) (xs : List Value) (hs : a.eval s = v) (hown : w.ownsRow base e size v n xs)
    (ad : Addr) (m c : Nat) (news : List Value) (hx : a.eval x = .slice (some ad) m c) (hl : news.length = m * size) (hnews : ∀ j u, news[j]? = some u → w.cell? (ad.add j) = some u) (h1 : ∀ u ∈ news, u.oneCell' = true)
    (b1 : n + m ≤ maxLen) (b2 : (n + m) * bytes ≤ 140737488355328) (hbase : base ≤ w.heap.size)
    (h : ∀ v' w', w'.ownsRow base e size v' (n + m) (xs ++ news) → w.grownBy w' v.ownBlock → K (a.put o.dst v') w') : o.wp P a w K Q := by
  obtain ⟨v', w', hr, h2, h3, _⟩ := run_append_own (P := P) w base t o.type e i z size bytes ht hi hz hsize hby hzs hsz v n xs hown ad m c news hl hnews h1 b1 b2 hbase
  unfold Oper.wp execOp
  simp only [ho, resolve, invoke, builtin, Sem.run_bind, Sem.run_pure, Result.andThen_ok, List.map_toArray, List.map_cons, List.map_nil, hs, hx, hr]
  exact h v' w' h2 h3
theorem one_i64 (n : Int) : ∀ u ∈ [Value.int .i64 n], u.oneCell' = true := by
  intro u hu
  obtain rfl := List.mem_singleton.1 hu
  rfl
theorem own_sl {w : World} {base : Nat} {e : TypeId} {v : Value} {n : Nat} {xs : List Value} (h : w.ownsRow base e 1 v n xs) : ∃ A c, v = .slice A n c := by
  rcases h.2 with ⟨rfl, rfl⟩ | ⟨g, cap, cur, rfl, _⟩
  · exact ⟨_, _, rfl⟩
  · exact ⟨_, _, rfl⟩
/-- A variable of type Dec (block s0) whose digits have been put together by append: k so far. -/
structure AccD (w0 : World) (s0 : Nat) (neg : Bool) (A : Option Addr) (cap k : Nat) (ex : Int) (l : List Nat) (wr : World) : Prop where
  ext : Ext w0 wr
  hi : w0.heap.size ≤ s0
  row : wr.heap[s0]? = some (.cells #[.bool neg, .slice A k cap, .int .i64 ex] 97)
  own : wr.ownsRow (s0 + 1) 3 1 (.slice A k cap) k (i6 l)
/-- What reads need of it. -/
def AccDS (w0 : World) (s0 : Nat) (neg : Bool) (A : Option Addr) (cap k : Nat) (ex : Int) (W : World) : Prop := Ext w0 W ∧ W.heap[s0]? = some (.cells #[.bool neg, .slice A k cap, .int .i64 ex] 97)
section
variable {w0 : World} {s0 : Nat} {neg : Bool} {A : Option Addr} {cap k : Nat} {ex : Int} {l : List Nat} {wr : World}
theorem AccD.lt (h : AccD w0 s0 neg A cap k ex l wr) : s0 < wr.heap.size := lt_block h.row
theorem AccD.of_ext (h : AccD w0 s0 neg A cap k ex l wr) {w1 : World} (hx : Ext wr w1) : AccD w0 s0 neg A cap k ex l w1 :=
  ⟨h.ext.trans hx, h.hi, by rw [hx.block h.lt]; exact h.row, own_ext_ h.own hx⟩
theorem AccD.rd (h : AccD w0 s0 neg A cap k ex l wr) : Rd (s0 + 1) wr A (i6 l) ∧ k ≤ cap := by
  obtain ⟨A', c', e, hr, hc⟩ := Rd.of_own h.own
  simp only [Value.slice.injEq, true_and] at e
  obtain ⟨rfl, rfl⟩ := e
  exact ⟨hr, hc⟩
theorem AccD.len (h : AccD w0 s0 neg A cap k ex l wr) : l.length = k := by
  have := h.own.1
  simp [i6] at this
  omega
theorem AccD.cells (h : AccD w0 s0 neg A cap k ex l wr) : wr.cell? ⟨s0, 0, none⟩ = some (.bool neg) ∧ wr.cell? ⟨s0, 1, none⟩ = some (.slice A k cap) ∧ wr.cell? ⟨s0, 2, none⟩ = some (.int .i64 ex) := by
  refine ⟨?_, ?_, ?_⟩ <;> rw [cell_of_row wr s0 _ _ _ (0, 0) h.row] <;> rfl
theorem AccD.fz (h : AccD w0 s0 neg A cap k ex l wr) (o : Nat) : wr.frozen? ⟨s0, o, none⟩ = false := frozen_of_row wr s0 o _ _ h.row
theorem AccD.own_set (h : AccD w0 s0 neg A cap k ex l wr) (o : Nat) (x : Value) : (wr.setCell ⟨s0, o, none⟩ x).ownsRow (s0 + 1) 3 1 (.slice A k cap) k (i6 l) :=
  own_keep h.own fun g cur hg => RowKit.Below.heap_setCell _ _ _ _ (fun he => by subst he; rw [h.row] at hg; cases hg)
theorem AccD.set0 (h : AccD w0 s0 neg A cap k ex l wr) (n' : Bool) : AccD w0 s0 n' A cap k ex l (wr.setCell ⟨s0, 0, none⟩ (.bool n')) := ⟨h.ext.set _ h.hi, h.hi, heap_setCell_same wr s0 0 _ _ _ h.row, h.own_set _ _⟩
theorem AccD.set2 (h : AccD w0 s0 neg A cap k ex l wr) (e' : Int) : AccD w0 s0 neg A cap k e' l (wr.setCell ⟨s0, 2, none⟩ (.int .i64 e')) := ⟨h.ext.set _ h.hi, h.hi, heap_setCell_same wr s0 2 _ _ _ h.row, h.own_set _ _⟩
theorem AccD.step (h : AccD w0 s0 neg A cap k ex l wr) {x : Nat} {v' : Value} {w1 w3 : World} (hx : Ext wr w1)
    (hg : w1.grownBy w3 (Value.slice A k cap).ownBlock) (ho : w3.ownsRow (s0 + 1) 3 1 v' (k + 1) (i6 l ++ [.int .i64 (x : Int)])) :
    ∃ A' cap', v' = .slice A' (k + 1) cap' ∧ w3.heap[s0]? = some (.cells #[.bool neg, .slice A k cap, .int .i64 ex] 97) ∧ Ext w0 w3 ∧ AccD w0 s0 neg A' cap' (k + 1) ex (l ++ [x]) (w3.setCell ⟨s0, 1, none⟩ v') := by
  obtain ⟨A', cap', rfl⟩ := own_sl ho
  have h1 := h.of_ext hx
  have hlt := h1.lt
  have hnb : ∀ b, b ≤ s0 → some b ≠ (Value.slice A k cap).ownBlock := fun b hb e => by have := (own_block1 h.own _ e.symm).1; omega
  have hrow : w3.heap[s0]? = some (.cells #[.bool neg, .slice A k cap, .int .i64 ex] 97) := by
    rw [hg.block _ hlt (hnb _ (Nat.le_refl _))]; exact h1.row
  have hex : Ext w0 w3 := by
    have h2 : Ext w0 w1 := h1.ext
    exact ⟨hg.os.trans h2.os, hg.tape.trans h2.tape, hg.output.trans h2.output, Nat.le_trans h2.size hg.size, fun b hb => (hg.block b (Nat.lt_of_lt_of_le hb h2.size) (hnb b (by have := h.hi; omega))).trans (h2.block hb)⟩
  refine ⟨A', cap', rfl, hrow, hex, Ext.set hex _ h.hi, h.hi, ?_, ?_⟩
  · exact heap_setCell_same w3 s0 1 _ _ _ hrow
  · have : i6 (l ++ [x]) = i6 l ++ [.int .i64 (x : Int)] := by simp [i6]
    rw [this]
    exact own_keep ho fun g cur hg => RowKit.Below.heap_setCell _ _ _ _ (fun he => by subst he; rw [hrow] at hg; cases hg)
end
end Go.Proofs.YteigcfflljoioaaGreatDoor
namespace Go.Proofs.YteigcfflljoioaaGreatDoor
open Go.RowKit NM
theorem bl_extract (s : ByteArray) (i : Nat) : bl (s.extract i s.size) = (bl s).drop i := by
  unfold bl
  rw [ByteArray.data_extract, Array.toList_extract, List.extract_eq_take_drop, List.take_of_length_le (by rw [List.length_drop]; exact Nat.le_refl _), List.map_drop]
/-- What comes behind the sign and the digits. -/
def parP (ng : Bool) (n nb : Nat) (ds : List Nat) : Option Int → Option (Int × Int)
  | none => none
  | some e => if n + nb = 0 then none else rnd ng (val ds) false (e - nb)
def parT (ng : Bool) (n nb : Nat) (ds : List Nat) (l3 : List Nat) : Option (Int × Int) := parP ng n nb ds (powR l3)
theorem parP_some (ng : Bool) (n nb : Nat) (ds : List Nat) (e : Int) : parP ng n nb ds (some e) = if n + nb = 0 then none else rnd ng (val ds) false (e - nb) := rfl
theorem parR1_dot {ng : Bool} {l1 : List Nat} (h : (l1.drop (l1.takeWhile isD).length).head? = some 46) (hB : ((l1.drop ((l1.takeWhile isD).length + 1)).takeWhile isD).length ≠ 0) :
    parR1 ng l1 = parT ng (l1.takeWhile isD).length ((l1.drop ((l1.takeWhile isD).length + 1)).takeWhile isD).length (((l1.takeWhile isD) ++ ((l1.drop ((l1.takeWhile isD).length + 1)).takeWhile isD)).map (· - 48)) (l1.drop ((l1.takeWhile isD).length + 1 + ((l1.drop ((l1.takeWhile isD).length + 1)).takeWhile isD).length)) := by
  have d1 : l1.dropWhile isD = l1.drop (l1.takeWhile isD).length := by
    conv => rhs; arg 2; rw [split_d l1]
    rw [List.drop_left]
  have d2 : (l1.drop (l1.takeWhile isD).length).tail = l1.drop ((l1.takeWhile isD).length + 1) := by rw [List.tail_drop]
  have d3 : ∀ l : List Nat, l.dropWhile isD = l.drop (l.takeWhile isD).length := fun l => by
    conv => rhs; arg 2; rw [split_d l]
    rw [List.drop_left]
  unfold parR1 parT
  simp only [d1, d2, h, if_true, true_and]
  rw [if_neg (fun h0 => hB (by rw [h0]; rfl)), d3 (l1.drop ((l1.takeWhile isD).length + 1)), List.drop_drop]
  generalize powR _ = r
  cases r <;> rfl
theorem parR1_dot0 {ng : Bool} {l1 : List Nat} (h : (l1.drop (l1.takeWhile isD).length).head? = some 46) (hB : ((l1.drop ((l1.takeWhile isD).length + 1)).takeWhile isD).length = 0) : parR1 ng l1 = none := by
  have d1 : l1.dropWhile isD = l1.drop (l1.takeWhile isD).length := by
    conv => rhs; arg 2; rw [split_d l1]
    rw [List.drop_left]
  have d2 : (l1.drop (l1.takeWhile isD).length).tail = l1.drop ((l1.takeWhile isD).length + 1) := by rw [List.tail_drop]
  unfold parR1
  simp only [d1, d2, h, if_true, true_and]
  rw [if_pos (List.length_eq_zero_iff.1 hB)]
theorem parR1_not {ng : Bool} {l1 : List Nat} (h : (l1.drop (l1.takeWhile isD).length).head? ≠ some 46) :
    parR1 ng l1 = parT ng (l1.takeWhile isD).length 0 ((l1.takeWhile isD).map (· - 48)) (l1.drop (l1.takeWhile isD).length) := by
  have d1 : l1.dropWhile isD = l1.drop (l1.takeWhile isD).length := by
    conv => rhs; arg 2; rw [split_d l1]
    rw [List.drop_left]
  unfold parR1 parT
  simp only [d1, if_neg h, List.length_nil, List.append_nil]
  rw [if_neg (fun h0 => h h0.1)]
  generalize powR _ = r
  cases r <;> rfl
theorem tw_take (l : List Nat) : l.take (l.takeWhile isD).length = l.takeWhile isD := by
  conv => lhs; arg 2; rw [split_d l]
  rw [List.take_left]
theorem powR_bd {l : List Nat} {e : Int} (h : powR l = some e) : -1000 ≤ e ∧ e ≤ 1000 := by
  cases l with
  | nil => cases h; omega
  | cons c t =>
    rw [powR_cons] at h
    unfold powC at h
    split at h
    · cases h
    · simp only at h
      generalize (if t.head? = some 43 ∨ t.head? = some 45 then t.tail else t) = u at h
      by_cases hu : u = [] ∨ ¬ (∀ c ∈ u, isD c = true)
      · rw [if_pos hu] at h; cases h
      · rw [if_neg hu] at h
        have hb := fold_bd u 0 (by omega)
        have h := Option.some.inj h
        split at h <;> omega
theorem chr_all {a : List Nat} (h : ∀ c ∈ a, isD c = true) : AllD (a.map (· - 48)) := by
  intro d hd
  obtain ⟨c, hc, rfl⟩ := List.mem_map.1 hd
  have := isD_yes (h c hc)
  omega
set_option maxHeartbeats 2000000 in
theorem rparse_any (s : ByteArray) (w : World) (hs : s.size ≤ 1000) :
    Calls Tryz.prog 48 #[.string s] w fun r w' => r = .returned (rnV (if 255 < s.size then none else parR (bl s))) ∧ Ext w w' := by
  by_cases hlen : 255 < s.size
  · rw [if_pos hlen]
    go_enter Tryz.func48, Tryz.ntmps48
    go_wp2_with fail
    exact bodyPost_ret (v := .tuple #[NV 0 0, .bool false]) (by simp [results, Tryz.results48, go_sem]) rfl ⟨rfl, by with_reducible repeat (first | exact Ext.refl _ | apply Ext.drew | apply Ext.alloc | apply Ext.more_)⟩
  · rw [if_neg hlen]
    generalize hR : parR (bl s) = R
    have HR := Lib.hid hR
    clear hR
    go_enter Tryz.func48, Tryz.ntmps48
    go_upto_region 5 with fail
    refine wp_world fun W hW => ?_
    have hX0 : PV (w.alloc (.cells #[.int .i64 0, .int .i64 0] 24)) w.heap.size 0 0 := PV.new 0 0 rfl
    have hXw : Ext w (w.alloc (.cells #[.int .i64 0, .int .i64 0] 24)) := (Ext.refl w).alloc _
    have hXs : (w.alloc (.cells #[.int .i64 0, .int .i64 0] 24)).heap.size = w.heap.size + 1 := by simp
    have hacc0 : AccD (w.alloc (.cells #[.int .i64 0, .int .i64 0] 24)) (w.heap.size + 1) false none 0 0 0 [] W := by
      refine ⟨by rw [hW]; exact (Ext.refl _).alloc _, by omega, ?_, World.ownsRow_nil _ _ _ _⟩
      rw [hW, ← hXs]
      exact Array.getElem?_push_size
    clear hW
    generalize w.alloc (.cells #[.int .i64 0, .int .i64 0] 24) = X at *
    have HS0 := Lib.hid hXs
    clear hXs
    have hq0 : w.heap.size < w.heap.size + 1 := by omega
    generalize w.heap.size + 1 = q at *
    obtain ⟨B, hB⟩ : ∃ B, B = decide ((bl s).head? = some 45) := ⟨_, rfl⟩
    have HB := Lib.hid hB
    have HACC := Lib.hid hacc0
    clear hB hacc0
    go_cut [24] (fun s24 wx => s24 = .bool B ∧ wx = W)
    case first =>
      by_cases h0 : 0 < s.size
      · have hh : (bl s).head? = some (s[0]'h0).toNat := by rw [List.head?_eq_getElem?]; exact bl_at s 0 h0
        by_cases h45 : ((s[0]'h0).toNat : Int) = 45
        · have hBt : B = true := by rw [HB.out, hh]; exact decide_eq_true (by congr 1; omega)
          subst hBt
          have e1 : (((s[0]'h0).toNat : Int) == 45) = true := by simp [h45]
          clear hh h45
          go_wp2_with fail
          go_meet
          exact ⟨rfl, rfl⟩
        · have hBt : B = false := by rw [HB.out, hh]; exact decide_eq_false (by simp; omega)
          subst hBt
          have e1 : (((s[0]'h0).toNat : Int) == 45) = false := by simpa using h45
          clear hh h45
          go_wp2_with fail
          go_meet
          exact ⟨rfl, rfl⟩
      · have hBt : B = false := by
          rw [HB.out]
          have : bl s = [] := List.length_eq_zero_iff.1 (by rw [bl_length]; omega)
          rw [this]; rfl
        subst hBt
        go_wp2_with fail
        go_meet
        exact ⟨rfl, rfl⟩
    case rest =>
    obtain ⟨rfl, hwc⟩ := hcut
    rw [hwc]
    clear hwc wc
    go_upto_if 24 with fail
    go_cut [5] (fun s5 wx => ∃ (p : Nat) (ng : Bool), s5 = .int .i64 (p : Int) ∧ p ≤ s.size ∧ Hid (R = parR1 ng ((bl s).drop p)) ∧ Hid (AccD X q ng none 0 0 0 [] wx))
    case first =>
      have a0 := HACC.out.fz 0
      have a1 := HACC.out.lt
      have a2 := HACC.out.cells.1
      cases B with
      | true =>
        have h2 := of_decide_eq_true HB.out.symm
        have h1 : 1 ≤ s.size := by
          have := bl_length s
          cases h : bl s with
          | nil => rw [h] at h2; cases h2
          | cons a l => rw [h] at this; simp at this; omega
        have HH := Lib.hid h2
        clear h2
        go_wp2_with fail
        go_meet
        refine ⟨1, true, rfl, h1, ?_, HACC.out.set0 true⟩
        show _ = _
        rw [← HR.out, parR_one, if_pos HH.out, decide_eq_true HH.out, ← List.drop_one]
      | false =>
        have h2 := of_decide_eq_false HB.out.symm
        have HH := Lib.hid h2
        clear h2
        go_wp2_with fail
        go_meet
        refine ⟨0, false, rfl, Nat.zero_le _, ?_, HACC⟩
        show _ = _
        rw [← HR.out, parR_one, if_neg HH.out, decide_eq_false HH.out, List.drop_zero]
    case rest =>
    obtain ⟨p, ng, rfl, hp, HRP, HA⟩ := hcut
    clear HR HB HACC
    obtain ⟨i0, hi0, hz0, hz1, hz2⟩ := info_parts info_int_
    have hrun := fun W => run_any s p W hs hp
    have HAT : Hid (∀ (m : Nat) (h : p + m < s.size), ((bl s).drop p)[m]? = some (s[p + m]'h).toNat) := fun m h => by rw [List.getElem?_drop]; exact bl_at s (p + m) h
    have hDl : ((bl s).drop p).length = s.size - p := by rw [List.length_drop, bl_length]
    have HDD : Hid (∀ k, (bl s).drop (p + k) = ((bl s).drop p).drop k) := fun k => by rw [List.drop_drop]
    generalize hD : (bl s).drop p = D at *
    have HTW : Hid (∀ m c, m < (D.takeWhile isD).length → D[m]? = some c → isD c = true) := fun m c h1 h2 => tw_lt D h1 h2
    have hLle := tw_le D
    have HLT := Lib.hid (tw_take D)
    generalize hL : (D.takeWhile isD).length = L at *
    have HL := Lib.hid hL
    have HDl := Lib.hid hDl
    have hLs : p + L ≤ s.size := by omega
    clear hL hD hDl hLle
    go_wp2_with (go_at_call 97; (with_reducible refine (hrun _).mono ?_); rintro e w' ⟨rfl, rfl⟩)
    go_loopw [8] (fun v8 wr => ∃ (j : Nat) (A : Option Addr) (cap : Nat), j ≤ L ∧ v8 = .int .i64 (j : Int) ∧ Hid (AccD X q ng A cap j 0 ((D.take j).map (· - 48)) wr)) (fun v8 _ => L - (intOf v8).toNat)
    case atStart => exact ⟨0, none, 0, Nat.zero_le _, rfl, HA⟩
    case round =>
      obtain ⟨j, A, cap, hj, rfl, H⟩ := hrel
      by_cases hjL : j < L
      · have hjs : p + j < s.size := by omega
        have hb := HAT.out j hjs
        obtain ⟨g1, g2⟩ := isD_yes (HTW.out j _ hjL hb)
        have HB := Lib.hid hb
        have hacc := H.out
        obtain ⟨x, hx⟩ : ∃ x, x = (s[p + j]'hjs).toNat - 48 := ⟨_, rfl⟩
        have w1 : IntKind.i64.wrap (((s[p + j]'hjs).toNat : Int) - 48) = (x : Int) := by rw [i64w (by omega) (by omega)]; omega
        have w0 : IntKind.i64.wrap ((s[p + j]'hjs).toNat : Int) = ((s[p + j]'hjs).toNat : Int) := i64w (by omega) (by omega)
        have w3 : IntKind.i64.wrap ((p : Int) + (j : Int)) = (p : Int) + (j : Int) := i64w (by omega) (by omega)
        have w4 : (0 : Int) ≤ (p : Int) + (j : Int) ∧ (p : Int) + (j : Int) < (s.size : Int) := by omega
        have w5 : ((p : Int) + (j : Int)).toNat = p + j := by omega
        have HX := Lib.hid hx
        clear hb g1 g2 hx
        go_upto_region 13 with fail
        refine wp_plan (S := AccDS _ _ _ _ _ _ _) [(0, 0), (1, 0), (2, 0), (3, 0), (4, 0), (5, 0), (6, 0), (7, 0), (8, 0), (9, 1), (10, 1), (11, 0), (12, 2)] [12] (by kernel_rfl) (by kernel_rfl) (by kernel_rfl) (fun _ _ d _ _ h => by cases d <;> exact h) ⟨(hacc.of_ext (by repeat (first | exact Ext.refl _ | (with_reducible (first | exact ext_d _ _ _ _ | exact ext_app _ _ _ _ _ | apply Ext.drew | apply Ext.alloc | apply Ext.more_)) | apply Ext.drew | apply Ext.alloc | apply Ext.more_))).ext, (hacc.of_ext (by repeat (first | exact Ext.refl _ | (with_reducible (first | exact ext_d _ _ _ _ | exact ext_app _ _ _ _ _ | apply Ext.drew | apply Ext.alloc | apply Ext.more_)) | apply Ext.drew | apply Ext.alloc | apply Ext.more_))).row⟩ ?_
        iterate 9 ((refine wpPl_read (v := ?_) rfl ?_ (fun w1 h1 => ?_) ?_; rotate_left 1; rfl; (obtain ⟨h1e, h1r⟩ := h1; have c2 := cell_of_row _ _ 1 _ _ _ h1r; clear h1r; obtain ⟨os1, d1, rfl⟩ := h1e.more; go_simp; first | done | rfl)); try simp only [Act.put, zqA, zqB, zqC])
        (refine wpPl_eff rfl ?_ (fun K hK => ?_); rfl; go_simp; refine hK _ _ ⟨(hacc.of_ext (by repeat (first | exact Ext.refl _ | (with_reducible (first | exact ext_d _ _ _ _ | exact ext_app _ _ _ _ _ | apply Ext.drew | apply Ext.alloc | apply Ext.more_)) | apply Ext.drew | apply Ext.alloc | apply Ext.more_))).ext, (hacc.of_ext (by repeat (first | exact Ext.refl _ | (with_reducible (first | exact ext_d _ _ _ _ | exact ext_app _ _ _ _ _ | apply Ext.drew | apply Ext.alloc | apply Ext.more_)) | apply Ext.drew | apply Ext.alloc | apply Ext.more_))).row⟩ ?_)
        try simp only [Act.put, zqA, zqB, zqC]
        (refine wpPl_eff rfl ?_ (fun K hK => ?_); rfl)
        refine wp_append_own1 _ _ _ _ rfl _ 3 i0 (.int .i64 0) 1 8 Tryz.underlying94 hi0 hz0 hz1 hz2 rfl (by decide) _ _ _ rfl (own_ext_ hacc.own (by repeat (first | exact Ext.refl _ | (with_reducible (first | exact ext_d _ _ _ _ | exact ext_app _ _ _ _ _ | apply Ext.drew | apply Ext.alloc | apply Ext.more_)) | apply Ext.drew | apply Ext.alloc | apply Ext.more_))) _ 1 1 [.int .i64 (x : Int)] rfl rfl (Rd.one_ _ _ (by first | rfl | (simp; done))).add (one_i64 _) (by simp only [maxLen]; omega) (by omega) (by have := hacc.lt; simp; omega) ?_
        intro v3 w3 ho3 hg3
        obtain ⟨A2, cap2, rfl, hrow3, hex3, hacc2⟩ := hacc.step (by repeat (first | exact Ext.refl _ | (with_reducible (first | exact ext_d _ _ _ _ | exact ext_app _ _ _ _ _ | apply Ext.drew | apply Ext.alloc | apply Ext.more_)) | apply Ext.drew | apply Ext.alloc | apply Ext.more_)) hg3 ho3
        refine hK _ _ ⟨hex3, hrow3⟩ ?_
        try simp only [Act.put, zqA, zqB, zqC]
        (refine wpPl_read (v := ?_) rfl ?_ (fun w1 h1 => ?_) ?_; rotate_left 1; rfl; (obtain ⟨h1e, h1r⟩ := h1; have c2 := cell_of_row _ _ 1 _ _ _ h1r; clear h1r; obtain ⟨os1, d1, rfl⟩ := h1e.more; go_simp; first | done | rfl))
        try simp only [Act.put, zqA, zqB, zqC]
        have c2 := cell_of_row _ _ 1 _ _ _ hrow3
        have f2 := frozen_of_row _ _ 1 _ _ hrow3
        clear hrow3 hex3 hg3 ho3
        (refine wpPl_tail rfl ?_ (fun K hK => ?_); rfl; go_simp; refine hK _ _ ?_)
        clear c2 f2
        try simp only [Act.put]
        refine wpPl_nil ?_
        go_wp2_with fail
        refine ⟨⟨j + 1, A2, cap2, by omega, by go_num, ?_⟩, by simp [intOf]; omega⟩
        show AccD _ _ _ _ _ _ _ _ _
        rw [take_at HB.out, List.map_append, List.map_singleton, ← HX.out]
        exact hacc2
      · obtain rfl : L = j := by omega
        clear hj hjL hrun HTW HAT HA
        go_upto_region 15 with fail
        obtain ⟨i1, hi1⟩ : ∃ i1 : Nat, (p : Int) + (L : Int) = (i1 : Int) := ⟨p + L, by omega⟩
        rw [hi1]
        have hi1' : i1 = p + L := by omega
        have hi1s : i1 ≤ s.size := by omega
        have HH : Hid (∀ h : i1 < s.size, (D.drop L).head? = some (s[i1]'h).toNat) := fun h => by
          rw [← HDD.out L, ← hi1', List.head?_drop]; exact bl_at s i1 h
        have HH0 : Hid (¬ i1 < s.size → (D.drop L).head? ≠ some 46) := fun h => by
          have : D.drop L = [] := List.drop_eq_nil_of_le (by rw [HDl.out]; omega)
          rw [this]; simp
        have HDD1 : Hid ((bl s).drop i1 = D.drop L) := by show _ = _; rw [hi1']; exact HDD.out L
        have HDD2 : Hid (∀ k, (bl s).drop (i1 + k) = D.drop (L + k)) := fun k => by rw [hi1', Nat.add_assoc]; exact HDD.out (L + k)
        clear hi1 hi1'
        have hX0r := hX0.ext H.out.ext
        have a0 := hX0r.c0
        have a1 := hX0r.c1
        have a2 := hX0r.fz 0
        have a3 := hX0r.fz 1
        have a4 := hX0r.lt
        have z0 := (hX0r.set 0 0).c0
        have z1 := (hX0r.set 0 0).c1
        obtain ⟨B2, hB2⟩ : ∃ B2, B2 = decide ((D.drop L).head? = some 46) := ⟨_, rfl⟩
        have HB2 := Lib.hid hB2
        clear hB2
        go_cut [58] (fun s58 wx => s58 = .bool B2 ∧ wx = wr)
        case first =>
          by_cases h1 : i1 < s.size
          · have hh := HH.out h1
            by_cases h46 : ((s[i1]'h1).toNat : Int) = 46
            · have hBt : B2 = true := by rw [HB2.out, hh]; exact decide_eq_true (by congr 1; omega)
              subst hBt
              have e1 : (((s[i1]'h1).toNat : Int) == 46) = true := by simp [h46]
              clear hh h46
              go_wp2_with fail
              go_meet
              exact ⟨rfl, rfl⟩
            · have hBt : B2 = false := by rw [HB2.out, hh]; exact decide_eq_false (by simp; omega)
              subst hBt
              have e1 : (((s[i1]'h1).toNat : Int) == 46) = false := by simpa using h46
              clear hh h46
              go_wp2_with fail
              go_meet
              exact ⟨rfl, rfl⟩
          · have hBt : B2 = false := by rw [HB2.out]; exact decide_eq_false (HH0.out h1)
            subst hBt
            have h1' : ¬ (i1 : Int) < (s.size : Int) := by omega
            go_wp2_with fail
            go_meet
            exact ⟨rfl, rfl⟩
        case rest =>
        obtain ⟨rfl, hwc⟩ := hcut
        rw [hwc]
        clear hwc wc
        go_upto_if 58 with fail
        go_cut [5, 7] (fun s5 s7 wx => ∃ (i2 nb k cap2 : Nat) (A2 : Option Addr) (ds : List Nat), s5 = .int .i64 (i2 : Int) ∧ s7 = .int .i64 (nb : Int) ∧ i2 ≤ s.size ∧ nb ≤ s.size ∧ k ≤ 510 ∧ Hid (AllD ds) ∧ Hid (R = parT ng L nb ds ((bl s).drop i2)) ∧ Hid (AccD X q ng A2 cap2 k 0 ds wx))
        case first =>
          cases B2 with
          | false =>
            have h46 := of_decide_eq_false HB2.out.symm
            have H46 := Lib.hid h46
            clear h46
            go_wp2_with fail
            go_meet
            refine ⟨i1, 0, L, cap, A, _, rfl, rfl, hi1s, Nat.zero_le _, by omega, ?_, ?_, H⟩
            · show AllD _
              rw [HLT.out]; exact chr_all (take_d D)
            · show _ = _
              rw [HRP.out, HDD1.out, HLT.out, ← HL.out]
              exact parR1_not (by rw [HL.out]; exact H46.out)
          | true =>
            have h46 := of_decide_eq_true HB2.out.symm
            have h1 : i1 < s.size := Decidable.byContradiction fun h => HH0.out h h46
            have H46 := Lib.hid h46
            clear h46
            obtain ⟨i2, hi2⟩ : ∃ i2 : Nat, (i1 : Int) + 1 = (i2 : Int) := ⟨i1 + 1, by omega⟩
            have hi2' : i2 = i1 + 1 := by omega
            have hi2s : i2 ≤ s.size := by omega
            have hrun := fun W => run_any s i2 W hs hi2s
            have hD2 : (bl s).drop i2 = D.drop (L + 1) := by rw [hi2']; exact HDD2.out 1
            have HAT : Hid (∀ (m : Nat) (h : i2 + m < s.size), (D.drop (L + 1))[m]? = some (s[i2 + m]'h).toNat) := fun m h => by rw [← hD2, List.getElem?_drop]; exact bl_at s (i2 + m) h
            have hDl : (D.drop (L + 1)).length = s.size - i2 := by rw [← hD2, List.length_drop, bl_length]
            rw [hD2] at hrun
            have HTW : Hid (∀ m c, m < ((D.drop (L + 1)).takeWhile isD).length → (D.drop (L + 1))[m]? = some c → isD c = true) := fun m c h1 h2 => tw_lt _ h1 h2
            have hLle := tw_le (D.drop (L + 1))
            have HLT2 := Lib.hid (tw_take (D.drop (L + 1)))
            have HTD := Lib.hid (take_d (D.drop (L + 1)))
            generalize hL2 : ((D.drop (L + 1)).takeWhile isD).length = nb at *
            have HL2 := Lib.hid hL2
            have HI2 := Lib.hid hi2'
            have hLs2 : i2 + nb ≤ s.size := by omega
            clear hL2 hDl hLle hD2 hi2'
            by_cases hnb : nb = 0
            · have hRn : R = none := by
                rw [HRP.out]
                exact parR1_dot0 (by rw [HL.out]; exact H46.out) (by rw [HL.out, HL2.out]; exact hnb)
              subst hRn
              have e1 : ((nb : Int) == 0) = true := by simp [hnb]
              clear hnb
              go_wp2_with (go_at_call 97; (with_reducible refine (hrun _).mono ?_); rintro e w' ⟨rfl, rfl⟩)
              exact bodyPost_ret (v := .tuple #[NV 0 0, .bool false]) (by simp [results, Tryz.results48, go_sem, z0, z1]) rfl ⟨rfl, ((hXw.trans H.out.ext).set _ (Nat.le_refl _)).set _ (Nat.le_refl _)⟩
            · have e1 : ((nb : Int) == 0) = false := by simp [hnb]
              have HNB := Lib.hid hnb
              clear hnb a0 a1 a2 a3 z0 z1
              go_wp2_with (go_at_call 97; (with_reducible refine (hrun _).mono ?_); rintro e w' ⟨rfl, rfl⟩)
              go_loopw [9] (fun v9 wx => ∃ (j : Nat) (A2 : Option Addr) (cap2 : Nat), j ≤ nb ∧ v9 = .int .i64 (j : Int) ∧ Hid (AccD X q ng A2 cap2 (L + j) 0 ((D.take L).map (· - 48) ++ ((D.drop (L + 1)).take j).map (· - 48)) wx)) (fun v9 _ => nb - (intOf v9).toNat)
              case atStart => exact ⟨0, A, cap, Nat.zero_le _, rfl, by show AccD _ _ _ _ _ _ _ _ _; rw [List.take_zero, List.map_nil, List.append_nil]; exact H.out⟩
              case round =>
                obtain ⟨j, A, cap, hj, rfl, H⟩ := hrel
                by_cases hjL : j < nb
                · have hjs : i2 + j < s.size := by omega
                  have hb := HAT.out j hjs
                  obtain ⟨g1, g2⟩ := isD_yes (HTW.out j _ hjL hb)
                  have HB := Lib.hid hb
                  have hacc := H.out
                  obtain ⟨x, hx⟩ : ∃ x, x = (s[i2 + j]'hjs).toNat - 48 := ⟨_, rfl⟩
                  have w1 : IntKind.i64.wrap (((s[i2 + j]'hjs).toNat : Int) - 48) = (x : Int) := by rw [i64w (by omega) (by omega)]; omega
                  have w0 : IntKind.i64.wrap ((s[i2 + j]'hjs).toNat : Int) = ((s[i2 + j]'hjs).toNat : Int) := i64w (by omega) (by omega)
                  have w3 : IntKind.i64.wrap ((i2 : Int) + (j : Int)) = (i2 : Int) + (j : Int) := i64w (by omega) (by omega)
                  have w7 : IntKind.i64.wrap (i2 : Int) = (i2 : Int) := i64w (by omega) (by omega)
                  have w6 : IntKind.i64.wrap ((i1 : Int) + 1) = (i2 : Int) := by rw [i64w (by omega) (by omega)]; exact hi2
                  have w4 : (0 : Int) ≤ (i2 : Int) + (j : Int) ∧ (i2 : Int) + (j : Int) < (s.size : Int) := by omega
                  have w5 : ((i2 : Int) + (j : Int)).toNat = i2 + j := by omega
                  have HX := Lib.hid hx
                  clear hb g1 g2 hx
                  go_upto_region 22 with fail
                  refine wp_plan (S := AccDS _ _ _ _ _ _ _) [(0, 0), (1, 0), (2, 0), (3, 0), (4, 0), (5, 0), (6, 0), (7, 0), (8, 0), (9, 0), (10, 1), (11, 1), (12, 0), (13, 2)] [13] (by kernel_rfl) (by kernel_rfl) (by kernel_rfl) (fun _ _ d _ _ h => by cases d <;> exact h) ⟨(hacc.of_ext (by repeat (first | exact Ext.refl _ | (with_reducible (first | exact ext_d _ _ _ _ | exact ext_app _ _ _ _ _ | apply Ext.drew | apply Ext.alloc | apply Ext.more_)) | apply Ext.drew | apply Ext.alloc | apply Ext.more_))).ext, (hacc.of_ext (by repeat (first | exact Ext.refl _ | (with_reducible (first | exact ext_d _ _ _ _ | exact ext_app _ _ _ _ _ | apply Ext.drew | apply Ext.alloc | apply Ext.more_)) | apply Ext.drew | apply Ext.alloc | apply Ext.more_))).row⟩ ?_
                  iterate 10 ((refine wpPl_read (v := ?_) rfl ?_ (fun w1 h1 => ?_) ?_; rotate_left 1; rfl; (obtain ⟨h1e, h1r⟩ := h1; have c2 := cell_of_row _ _ 1 _ _ _ h1r; clear h1r; obtain ⟨os1, d1, rfl⟩ := h1e.more; go_simp; first | done | rfl)); try simp only [Act.put, zqA, zqB, zqC])
                  (refine wpPl_eff rfl ?_ (fun K hK => ?_); rfl; go_simp; refine hK _ _ ⟨(hacc.of_ext (by repeat (first | exact Ext.refl _ | (with_reducible (first | exact ext_d _ _ _ _ | exact ext_app _ _ _ _ _ | apply Ext.drew | apply Ext.alloc | apply Ext.more_)) | apply Ext.drew | apply Ext.alloc | apply Ext.more_))).ext, (hacc.of_ext (by repeat (first | exact Ext.refl _ | (with_reducible (first | exact ext_d _ _ _ _ | exact ext_app _ _ _ _ _ | apply Ext.drew | apply Ext.alloc | apply Ext.more_)) | apply Ext.drew | apply Ext.alloc | apply Ext.more_))).row⟩ ?_)
                  try simp only [Act.put, zqA, zqB, zqC]
                  (refine wpPl_eff rfl ?_ (fun K hK => ?_); rfl)
                  refine wp_append_own1 _ _ _ _ rfl _ 3 i0 (.int .i64 0) 1 8 Tryz.underlying94 hi0 hz0 hz1 hz2 rfl (by decide) _ _ _ rfl (own_ext_ hacc.own (by repeat (first | exact Ext.refl _ | (with_reducible (first | exact ext_d _ _ _ _ | exact ext_app _ _ _ _ _ | apply Ext.drew | apply Ext.alloc | apply Ext.more_)) | apply Ext.drew | apply Ext.alloc | apply Ext.more_))) _ 1 1 [.int .i64 (x : Int)] rfl rfl (Rd.one_ _ _ (by first | rfl | (simp; done))).add (one_i64 _) (by simp only [maxLen]; omega) (by omega) (by have := hacc.lt; simp; omega) ?_
                  intro v3 w3 ho3 hg3
                  obtain ⟨A2, cap2, rfl, hrow3, hex3, hacc2⟩ := hacc.step (by repeat (first | exact Ext.refl _ | (with_reducible (first | exact ext_d _ _ _ _ | exact ext_app _ _ _ _ _ | apply Ext.drew | apply Ext.alloc | apply Ext.more_)) | apply Ext.drew | apply Ext.alloc | apply Ext.more_)) hg3 ho3
                  refine hK _ _ ⟨hex3, hrow3⟩ ?_
                  try simp only [Act.put, zqA, zqB, zqC]
                  (refine wpPl_read (v := ?_) rfl ?_ (fun w1 h1 => ?_) ?_; rotate_left 1; rfl; (obtain ⟨h1e, h1r⟩ := h1; have c2 := cell_of_row _ _ 1 _ _ _ h1r; clear h1r; obtain ⟨os1, d1, rfl⟩ := h1e.more; go_simp; first | done | rfl))
                  try simp only [Act.put, zqA, zqB, zqC]
                  have c2 := cell_of_row _ _ 1 _ _ _ hrow3
                  have f2 := frozen_of_row _ _ 1 _ _ hrow3
                  clear hrow3 hex3 hg3 ho3
                  (refine wpPl_tail rfl ?_ (fun K hK => ?_); rfl; go_simp; refine hK _ _ ?_)
                  clear c2 f2
                  try simp only [Act.put]
                  refine wpPl_nil ?_
                  go_wp2_with fail
                  refine ⟨⟨j + 1, A2, cap2, by omega, by go_num, ?_⟩, by simp [intOf]; omega⟩
                  show AccD _ _ _ _ _ _ _ _ _
                  rw [take_at HB.out, List.map_append, List.map_singleton, ← HX.out, ← List.append_assoc]
                  exact hacc2
                · obtain rfl : nb = j := by omega
                  go_wp2_with fail
                  go_meet
                  refine ⟨i2 + nb, nb, L + nb, cap, A, _, by go_num, rfl, hLs2, by omega, by omega, ?_, ?_, H⟩
                  · show AllD _
                    rw [HLT.out, HLT2.out]; exact (chr_all (take_d D)).append (chr_all HTD.out)
                  · show _ = _
                    rw [HRP.out, HLT.out, HLT2.out, HI2.out, Nat.add_assoc, HDD2.out, ← List.map_append]
                    have := parR1_dot (ng := ng) (l1 := D) (by rw [HL.out]; exact H46.out) (by rw [HL.out, HL2.out]; exact HNB.out)
                    rw [HL.out, HL2.out] at this
                    rw [this, Nat.add_assoc]
        case rest =>
        obtain ⟨i2, nb, k, cap2, A2, ds, rfl, rfl, hi2, hnb, hk, HAD, HRT, HA2⟩ := hcut
        clear a0 a1 a2 a3 a4 z0 z1 HB2 HDD1 HDD2 HH HH0 hi1s HRP HLT HL HDl H
        have hesz : (s.extract i2 s.size).size ≤ 1000 := by rw [ByteArray.size_extract]; omega
        have hpw := fun W => rpower_any (s.extract i2 s.size) W hesz
        rw [bl_extract] at hpw
        have hX0r := hX0.ext HA2.out.ext
        have a0 := hX0r.c0
        have a1 := hX0r.c1
        have a2 := hX0r.fz 0
        have a3 := hX0r.fz 1
        have a4 := hX0r.lt
        have z0 := (hX0r.set 0 0).c0
        have z1 := (hX0r.set 0 0).c1
        generalize hP : powR ((bl s).drop i2) = P at *
        have hRP : R = parP ng L nb ds P := by rw [HRT.out]; unfold parT; rw [hP]
        cases P with
        | none =>
          have hRP : R = none := hRP
          subst hRP
          clear hP
          go_wp2_with (go_at_call 98; (with_reducible refine (hpw _).mono ?_); rintro e w' ⟨rfl, rfl⟩; simp only [oV, Option.isSome_none, Option.getD_none])
          exact bodyPost_ret (v := .tuple #[NV 0 0, .bool false]) (by simp [results, Tryz.results48, go_sem, z0, z1]) rfl ⟨rfl, ((hXw.trans HA2.out.ext).set _ (Nat.le_refl _)).set _ (Nat.le_refl _)⟩
        | some e =>
          have hbd := powR_bd hP
          clear hP
          by_cases hLn : L + nb = 0
          · rw [parP_some, if_pos hLn] at hRP
            subst hRP
            have e1 : ((L : Int) + (nb : Int) == 0) = true := by simp; omega
            clear hLn
            go_wp2_with (go_at_call 98; (with_reducible refine (hpw _).mono ?_); rintro e w' ⟨rfl, rfl⟩; simp only [oV, Option.isSome_some, Option.getD_some])
            exact bodyPost_ret (v := .tuple #[NV 0 0, .bool false]) (by simp [results, Tryz.results48, go_sem, z0, z1]) rfl ⟨rfl, ((hXw.trans HA2.out.ext).set _ (Nat.le_refl _)).set _ (Nat.le_refl _)⟩
          · rw [parP_some, if_neg hLn] at hRP
            have HRP := Lib.hid hRP
            have e1 : ((L : Int) + (nb : Int) == 0) = false := by simp; omega
            have w1 : IntKind.i64.wrap (e - (nb : Int)) = e - nb := i64w (by omega) (by omega)
            clear hLn hRP
            have hkl := HA2.out.len
            have hset := HA2.out.set2 (e - nb)
            obtain ⟨c0, c1, c2⟩ := hset.cells
            have f2 := HA2.out.fz 2
            have c20 := HA2.out.cells.2.2
            have lq := HA2.out.lt
            have hnr := near_any (q + 1) ng A2 k cap2 ds (val ds) (e - nb) false _ hkl hset.rd.1 hset.rd.2 (by omega) HAD.out rfl (by omega) (by have := hset.lt; omega)
            rw [← HRP.out] at hnr
            have hX0s := hX0.ext hset.ext
            have x0 := hX0s.c0
            have x1 := hX0s.c1
            have x2 := hX0s.fz 0
            have x3 := hX0s.fz 1
            have x4 := hX0s.lt
            have y0 := (hX0s.set (rm R) (re R)).c0
            have y1 := (hX0s.set (rm R) (re R)).c1
            have HSE := Lib.hid hset.ext
            clear hkl z0 z1 hset hX0s
            go_wp2_with (first | (go_at_call 98; (with_reducible refine (hpw _).mono ?_); rintro e w' ⟨rfl, rfl⟩; simp only [oV, Option.isSome_some, Option.getD_some]) | (go_at_call 62; (with_reducible refine hnr.mono ?_); rintro e w' ⟨rfl, hxn⟩; obtain ⟨osn, dn, rfl⟩ := hxn.more))
            exact bodyPost_ret (v := rnV R) (by simp [results, Tryz.results48, go_sem, y0, y1, x4, a4]) rfl ⟨rfl, (((hXw.trans HSE.out).set _ (Nat.le_refl _)).set _ (Nat.le_refl _)).more_ _ _⟩
end Go.Proofs.YteigcfflljoioaaGreatDoor
namespace Go.Proofs.YteigcfflljoioaaGreatDoor
open Go.RowKit NM
/-- n, k times multiplied by ten, as long as it is an int. -/
def intGo (n : Int) : Nat → Option Int
  | 0 => some n
  | k + 1 => if 922337203685477580 < n.natAbs then none else intGo (n * 10) k
def intS (m e : Int) : Option Int := if ¬ Rt m e ∨ e < 0 then none else intGo m e.toNat
abbrev inV (r : Option Int) : Value := .tuple #[.int .i64 (r.getD 0), .bool r.isSome]
theorem mul64_ten (x : Nat) (hx : x < 18446744073709551616) (w : World) :
    Calls Tryz.prog 136 #[.int .u64 (x : Int), .int .u64 10] w fun e w' => e = .returned (.tuple #[.int .u64 ((x * 10 / 18446744073709551616 : Nat) : Int), .int .u64 ((x * 10 % 18446744073709551616 : Nat) : Int)]) ∧ w = w' :=
  (Tryz.bits_Mul64 x 10 hx (by omega) w).mono fun e w' ⟨h1, h2⟩ => ⟨h1, h2.symm⟩
set_option maxHeartbeats 2000000 in
theorem int_any (m ex : Int) (w : World) (hm : I64 m) :
    Calls Tryz.prog 139 #[NV m ex] w fun e w' => e = .returned (inV (intS m ex)) ∧ Ext w w' := by
  by_cases h : Rt m ex
  · have r1 := rtB_yes h
    obtain ⟨b1, b2, b3⟩ := Rt_bd h
    by_cases h1 : ex < 0
    · have hs : intS m ex = none := by unfold intS; rw [if_pos (Or.inr h1)]
      rw [hs]
      clear h hs
      go_enter Tryz.func139, Tryz.ntmps139
      go_wp2_with (go_at_call 111; (with_reducible refine (right_rt _ _ _ (by assumption)).mono ?_); rintro e w' ⟨rfl, hbr⟩; obtain ⟨osr, dr, rfl⟩ := hbr.more)
      go_ret2
      exact ⟨rfl, by repeat (first | exact Ext.refl _ | apply Ext.drew | apply Ext.alloc | apply Ext.more_)⟩
    · obtain ⟨n, rfl⟩ : ∃ n : Nat, ex = n := ⟨ex.toNat, by omega⟩
      have hs : intS m (n : Int) = intGo m n := by unfold intS; rw [if_neg (by rintro (h3 | h3); exact h3 h; omega)]; rfl
      generalize hR : intS m (n : Int) = R at *
      have HR := Lib.hid hs
      clear hs hR h
      go_enter Tryz.func139, Tryz.ntmps139
      go_wp2_with (go_at_call 111; (with_reducible refine (right_rt _ _ _ (by assumption)).mono ?_); rintro e w' ⟨rfl, hbr⟩; obtain ⟨osr, dr, rfl⟩ := hbr.more)
      go_loop [4, 19] (fun a i => ∃ (j : Nat) (x : Int), j ≤ n ∧ i = .int .i64 (j : Int) ∧ a = .int .i64 x ∧ Hid (I64 x) ∧ Hid (R = intGo x (n - j))) (fun _ i => n - (intOf i).toNat)
      case atStart => exact ⟨0, m, Nat.zero_le _, rfl, rfl, hm, HR⟩
      case round =>
        obtain ⟨j, x, hj, rfl, rfl, HX, HG⟩ := hrel
        by_cases hlt : j < n
        · have hx64 : x.natAbs < 18446744073709551616 := by obtain ⟨h1, h2⟩ := HX.out; omega
          have hml := mul64_ten x.natAbs hx64
          have hsz := fun W => size_nat x W HX.out
          have HG1 : Hid (R = if 922337203685477580 < x.natAbs then none else intGo (x * 10) (n - (j + 1))) := by
            show _ = _
            rw [HG.out, show n - j = n - (j + 1) + 1 by omega]; rfl
          by_cases hbig : 922337203685477580 < x.natAbs
          · have hRn : R = none := by rw [HG1.out, if_pos hbig]
            have hor : x.natAbs * 10 / 18446744073709551616 ≠ 0 ∨ 9223372036854775807 < x.natAbs * 10 % 18446744073709551616 := by omega
            generalize x.natAbs * 10 / 18446744073709551616 = hi at *
            generalize x.natAbs * 10 % 18446744073709551616 = lo at *
            generalize x.natAbs = xa at *
            subst hRn
            clear hx64 hbig
            by_cases hh : hi = 0
            · have e1 : ((hi : Int) != 0) = false := by simp [hh]
              have e1b : (hi != 0) = false := by simp [hh]
              have e2 : decide ((9223372036854775807 : Int) < (lo : Int)) = true := by simp; omega
              have e3 : decide (9223372036854775807 < lo) = true := by simp; omega
              clear hor hh
              go_wp2_with (first | (go_at_call 113; (with_reducible refine (hsz _).mono ?_); rintro e w' ⟨rfl, rfl⟩) | (go_at_call 136; (with_reducible refine (hml _).mono ?_); rintro e w' ⟨rfl, rfl⟩))
              go_ret2
              exact ⟨rfl, by repeat (first | exact Ext.refl _ | apply Ext.drew | apply Ext.alloc | apply Ext.more_)⟩
            · have e1 : ((hi : Int) != 0) = true := by simp [hh]
              have e1b : (hi != 0) = true := by simp [hh]
              clear hor hh
              go_wp2_with (first | (go_at_call 113; (with_reducible refine (hsz _).mono ?_); rintro e w' ⟨rfl, rfl⟩) | (go_at_call 136; (with_reducible refine (hml _).mono ?_); rintro e w' ⟨rfl, rfl⟩))
              go_ret2
              exact ⟨rfl, by repeat (first | exact Ext.refl _ | apply Ext.drew | apply Ext.alloc | apply Ext.more_)⟩
          · have HRn : Hid (R = intGo (x * 10) (n - (j + 1))) := by show _ = _; rw [HG1.out, if_neg hbig]
            have h10 : Hid (I64 (x * 10)) := by show I64 _; unfold I64; omega
            have hhi : x.natAbs * 10 / 18446744073709551616 = 0 := by omega
            have hlo : ¬ 9223372036854775807 < x.natAbs * 10 % 18446744073709551616 := by omega
            have w1 : IntKind.i64.wrap (x * 10) = x * 10 := i64w h10.out.1 h10.out.2
            have w2 : wrap64 (x * 10) = x * 10 := IntWalk.wrap64_in _ h10.out
            rw [hhi] at hml
            generalize x.natAbs * 10 % 18446744073709551616 = lo at *
            generalize x.natAbs = xa at *
            clear hx64 hbig hhi HG1
            have e2 : decide ((9223372036854775807 : Int) < (lo : Int)) = false := by simp; omega
            have e3 : decide (9223372036854775807 < lo) = false := by simp; omega
            clear hlo
            simp only [show ((0 : Nat) : Int) = 0 from rfl] at hml
            go_wp2_with (first | (go_at_call 113; (with_reducible refine (hsz _).mono ?_); rintro e w' ⟨rfl, rfl⟩) | (go_at_call 136; (with_reducible refine (hml _).mono ?_); rintro e w' ⟨rfl, rfl⟩))
            exact ⟨⟨j + 1, x * 10, by omega, by go_num, rfl, h10, HRn⟩, by simp [intOf]; omega⟩
        · have hRn : R = some x := by rw [HG.out, show n - j = 0 by omega]; rfl
          subst hRn
          go_wp2_with fail
          go_ret2
          exact ⟨rfl, by repeat (first | exact Ext.refl _ | apply Ext.drew | apply Ext.alloc | apply Ext.more_)⟩
  · have r1 := rtB_no h
    have hs : intS m ex = none := by unfold intS; rw [if_pos (Or.inl h)]
    rw [hs]
    clear h hs
    go_enter Tryz.func139, Tryz.ntmps139
    go_wp2_with (go_at_call 111; (with_reducible refine (right_rt _ _ _ (by assumption)).mono ?_); rintro e w' ⟨rfl, hbr⟩; obtain ⟨osr, dr, rfl⟩ := hbr.more)
    go_ret2
    exact ⟨rfl, by repeat (first | exact Ext.refl _ | apply Ext.drew | apply Ext.alloc | apply Ext.more_)⟩
set_option maxHeartbeats 2000000 in
theorem rint_any (m ex : Int) (w : World) (hm : I64 m) :
    Calls Tryz.prog 40 #[NV m ex] w fun e w' => e = .returned (inV (intS m ex)) ∧ Ext w w' := by
  by_cases h : Rt m ex
  · have r1 := rtB_yes h
    obtain ⟨b1, b2, b3⟩ := Rt_bd h
    by_cases h1 : ex < 0
    · have hs : intS m ex = none := by unfold intS; rw [if_pos (Or.inr h1)]
      rw [hs]
      clear h hs
      go_enter Tryz.func40, Tryz.ntmps40
      go_wp2_with (go_at_call 38; (with_reducible refine (rright_rt _ _ _ (by assumption)).mono ?_); rintro e w' ⟨rfl, hbr⟩; obtain ⟨osr, dr, rfl⟩ := hbr.more)
      go_ret2
      exact ⟨rfl, by repeat (first | exact Ext.refl _ | apply Ext.drew | apply Ext.alloc | apply Ext.more_)⟩
    · obtain ⟨n, rfl⟩ : ∃ n : Nat, ex = n := ⟨ex.toNat, by omega⟩
      have hs : intS m (n : Int) = intGo m n := by unfold intS; rw [if_neg (by rintro (h3 | h3); exact h3 h; omega)]; rfl
      generalize hR : intS m (n : Int) = R at *
      have HR := Lib.hid hs
      clear hs hR h
      go_enter Tryz.func40, Tryz.ntmps40
      go_wp2_with (go_at_call 38; (with_reducible refine (rright_rt _ _ _ (by assumption)).mono ?_); rintro e w' ⟨rfl, hbr⟩; obtain ⟨osr, dr, rfl⟩ := hbr.more)
      go_loop [4, 5] (fun a i => ∃ (j : Nat) (x : Int), j ≤ n ∧ i = .int .i64 (j : Int) ∧ a = .int .i64 x ∧ Hid (I64 x) ∧ Hid (R = intGo x (n - j))) (fun _ i => n - (intOf i).toNat)
      case atStart => exact ⟨0, m, Nat.zero_le _, rfl, rfl, hm, HR⟩
      case round =>
        obtain ⟨j, x, hj, rfl, rfl, HX, HG⟩ := hrel
        by_cases hlt : j < n
        · have HG1 : Hid (R = if 922337203685477580 < x.natAbs then none else intGo (x * 10) (n - (j + 1))) := by
            show _ = _
            rw [HG.out, show n - j = n - (j + 1) + 1 by omega]; rfl
          by_cases hbig : 922337203685477580 < x
          · have hRn : R = none := by rw [HG1.out, if_pos (by omega)]
            subst hRn
            go_wp2_with fail
            go_ret2
            exact ⟨rfl, by repeat (first | exact Ext.refl _ | apply Ext.drew | apply Ext.alloc | apply Ext.more_)⟩
          · by_cases hbig2 : x < -922337203685477580
            · have hRn : R = none := by rw [HG1.out, if_pos (by omega)]
              subst hRn
              go_wp2_with fail
              go_ret2
              exact ⟨rfl, by repeat (first | exact Ext.refl _ | apply Ext.drew | apply Ext.alloc | apply Ext.more_)⟩
            · have HRn : Hid (R = intGo (x * 10) (n - (j + 1))) := by show _ = _; rw [HG1.out, if_neg (by omega)]
              have h10 : Hid (I64 (x * 10)) := by show I64 _; unfold I64; omega
              have w1 : IntKind.i64.wrap (10 * x) = 10 * x := i64w (by omega) (by omega)
              go_wp2_with fail
              refine ⟨⟨j + 1, x * 10, by omega, by go_num, ?_, h10, HRn⟩, by simp [intOf]; omega⟩
              rw [Int.mul_comm]
        · have hRn : R = some x := by rw [HG.out, show n - j = 0 by omega]; rfl
          subst hRn
          go_wp2_with fail
          go_ret2
          exact ⟨rfl, by repeat (first | exact Ext.refl _ | apply Ext.drew | apply Ext.alloc | apply Ext.more_)⟩
  · have r1 := rtB_no h
    have hs : intS m ex = none := by unfold intS; rw [if_pos (Or.inl h)]
    rw [hs]
    clear h hs
    go_enter Tryz.func40, Tryz.ntmps40
    go_wp2_with (go_at_call 38; (with_reducible refine (rright_rt _ _ _ (by assumption)).mono ?_); rintro e w' ⟨rfl, hbr⟩; obtain ⟨osr, dr, rfl⟩ := hbr.more)
    go_ret2
    exact ⟨rfl, by repeat (first | exact Ext.refl _ | apply Ext.drew | apply Ext.alloc | apply Ext.more_)⟩
end Go.Proofs.YteigcfflljoioaaGreatDoor
namespace Go.Proofs.YteigcfflljoioaaGreatDoor
open Go.RowKit
theorem eql_val (k1 m1 e1 f1 k2 m2 e2 f2 : Int) (t1 t2 : ByteArray) (b1 b2 : Bool) (w : World) : (binOp .eql 26 (VV k1 m1 e1 t1 b1 f1) (VV k2 m2 e2 t2 b2 f2)).run Tryz.prog w = .ok (.bool (eqV ⟨k1, m1, e1, t1, b1, f1⟩ ⟨k2, m2, e2, t2, b2, f2⟩)) w := by
  have ht : (t1.toList = t2.toList) ↔ t1 = t2 := ⟨fun h => by
    cases t1; cases t2
    rename_i a b
    have : a.toList = b.toList := by simpa [ByteArray.toList_eq] using h
    simpa using this, fun h => by rw [h]⟩
  simp only [VV, eqV]
  simp [go_sem, ht]
  by_cases h1 : k1 = k2 <;> simp [h1]
  by_cases h2 : m1 = m2 <;> simp [h2]
  by_cases h3 : e1 = e2 <;> simp [h3]
  by_cases h4 : t1 = t2 <;> simp [h4]
  by_cases h5 : b1 = b2 <;> simp [h5]
  by_cases h6 : f1 = f2 <;> simp [h6]
set_option maxHeartbeats 400000 in
theorem bad_any (f : Int) (w : World) :
    Calls Tryz.prog 74 #[.int .i64 f] w fun e w' => e = .returned (VV 4 0 0 ⟨#[]⟩ false (badF f)) ∧ Ext w w' := by
  by_cases h : f < 1 ∨ 9 < f
  · have hb : badF f = 9 := by simp [badF, h]
    rw [hb]
    rcases h with h | h
    · go_enter Tryz.func74, Tryz.ntmps74
      go_wp2
      exact bodyPost_ret (v := VV 4 0 0 ⟨#[]⟩ false 9) (by simp [results, Tryz.results74, go_sem]) rfl ⟨rfl, by repeat (first | exact Ext.refl _ | apply Ext.drew | apply Ext.alloc | apply Ext.more_)⟩
    · have h1 : ¬ f < 1 := by omega
      go_enter Tryz.func74, Tryz.ntmps74
      go_wp2
      exact bodyPost_ret (v := VV 4 0 0 ⟨#[]⟩ false 9) (by simp [results, Tryz.results74, go_sem]) rfl ⟨rfl, by repeat (first | exact Ext.refl _ | apply Ext.drew | apply Ext.alloc | apply Ext.more_)⟩
  · have hb : badF f = f := by simp [badF, h]
    rw [hb]
    have h1 : ¬ f < 1 := by omega
    have h2 : ¬ 9 < f := by omega
    go_enter Tryz.func74, Tryz.ntmps74
    go_wp2
    exact bodyPost_ret (v := VV 4 0 0 ⟨#[]⟩ false f) (by simp [results, Tryz.results74, go_sem]) rfl ⟨rfl, by repeat (first | exact Ext.refl _ | apply Ext.drew | apply Ext.alloc | apply Ext.more_)⟩
set_option maxHeartbeats 400000 in
theorem of_any (m ex : Int) (w : World) :
    Calls Tryz.prog 57 #[NV m ex] w fun e w' => e = .returned (VV 1 m ex ⟨#[]⟩ false 0) ∧ Ext w w' := by
  go_enter Tryz.func57, Tryz.ntmps57
  go_wp2
  exact bodyPost_ret (v := VV 1 m ex ⟨#[]⟩ false 0) (by simp [results, Tryz.results57, go_sem]) rfl ⟨rfl, by repeat (first | exact Ext.refl _ | apply Ext.drew | apply Ext.alloc | apply Ext.more_)⟩
set_option maxHeartbeats 400000 in
theorem truth_any (t : Bool) (w : World) :
    Calls Tryz.prog 131 #[.bool t] w fun e w' => e = .returned (VV 3 0 0 ⟨#[]⟩ t 0) ∧ Ext w w' := by
  go_enter Tryz.func131, Tryz.ntmps131
  go_wp2
  exact bodyPost_ret (v := VV 3 0 0 ⟨#[]⟩ t 0) (by simp [results, Tryz.results131, go_sem]) rfl ⟨rfl, by repeat (first | exact Ext.refl _ | apply Ext.drew | apply Ext.alloc | apply Ext.more_)⟩
set_option maxHeartbeats 400000 in
theorem text_any (t : ByteArray) (w : World) (ht : t.size ≤ 9223372036854775807) :
    Calls Tryz.prog 130 #[.string t] w fun e w' => e = .returned (VV (textV t).kind 0 0 (textV t).text false (textV t).fault) ∧ Ext w w' := by
  by_cases h : 255 < t.size
  · have hv : textV t = ⟨4, 0, 0, ⟨#[]⟩, false, 2⟩ := by simp [textV, h]
    rw [hv]
    have hb : badF 2 = 2 := by decide
    go_enter Tryz.func130, Tryz.ntmps130
    go_wp2_with (go_at_call 74; refine (bad_any _ _).mono ?_; rintro e w' ⟨rfl, hb⟩; obtain ⟨os, d, rfl⟩ := hb.more)
    exact bodyPost_ret (v := VV 4 0 0 ⟨#[]⟩ false 2) (by simp [results, Tryz.results130, go_sem]) rfl ⟨rfl, by repeat (first | exact Ext.refl _ | apply Ext.drew | apply Ext.alloc | apply Ext.more_)⟩
  · have hv : textV t = ⟨2, 0, 0, t, false, 0⟩ := by simp [textV, h]
    rw [hv]
    go_enter Tryz.func130, Tryz.ntmps130
    go_wp2
    exact bodyPost_ret (v := VV 2 0 0 t false 0) (by simp [results, Tryz.results130, go_sem]) rfl ⟨rfl, by repeat (first | exact Ext.refl _ | apply Ext.drew | apply Ext.alloc | apply Ext.more_)⟩
end Go.Proofs.YteigcfflljoioaaGreatDoor
