/- What the rows' proofs lean on: the contracts of the functions that they reach, and plain facts (part S3). -/
import Derived.WalkKit
import Derived.WalkLawsBesides
import Derived.WalkSpells
import Derived.Outline
import Derived.Below
import Derived.Deep.RegionHeld3
import Derived.Deep.DeepCutAuto
import Derived.Deep.AppendLies
import Derived.Maps.AppendAt
import Derived.Lib.Hide
import Derived.OrdersHeld
import Derived.Test.YtlfbdodokldkhaaGreatDoorProg
import Derived.Shelf.Small.Bits
import Derived.Shelf.Small.Strs
import Derived.Shelf.Strconv.Itoa0
import Derived.Shelf.Strconv.Itoa1
import Derived.Shelf.LaysM
import Derived.Shelf.Strconv.Itoa2
import Derived.Shelf.Bits.Mul64
import Derived.Lib.ItoaMem
import Derived.Lib.OthersKept
import Derived.Deep.CutBlock
import Derived.Laws.Bits64b
import Derived.Lib.AppendZeros
import Derived.Lib.Bytealg
import Derived.Laws.RangeAny
import Derived.Maps.OwnSet
import Derived.Maps.Own
import Derived.Laws.EntriesVeiled
import Derived.Lib.ConvBytes
import Derived.Lib.SlBytesRow
import Derived.Lib.SmallJoins
import Derived.RegionTactic
import Derived.Test.YtlfbdodokldkhaaGreatDoorS2
set_option linter.unusedSimpArgs false
set_option linter.unusedVariables false
set_option maxRecDepth 100000
namespace Go.Proofs.YtlfbdodokldkhaaGreatDoor
open Go.RowKit
theorem beside_yes (R C R' C' : Nat) (A B : Option Addr) (n cap n' cap' : Nat) (l l' : List Val) (w : World) (h : ArrIn w A n cap l) (h' : ArrIn w B n' cap' l') (hr : rightA R C l = true) (hr' : rightA R' C' l' = true) (hf : max R R' * (C + C') ≤ 4096) :
    Calls Tryz.prog 51 #[AV R C (.slice A n cap), AV R' C' (.slice B n' cap')] w fun e w' => ∃ D c, e = .returned (.tuple #[AV (max R R' : Nat) (C + C' : Nat) (.slice D (max R R' * (C + C')) c), .bool true]) ∧ SlV w.heap.size w' D (besideL R C l R' C' l') ∧ max R R' * (C + C') ≤ c ∧ Ext w w' := by
  unfold besideL
  rcases Nat.lt_trichotomy R R' with hlt | rfl | hlt
  · rw [Nat.max_eq_right (Nat.le_of_lt hlt)] at hf ⊢
    exact beside_lt R C R' C' A B n cap n' cap' l l' w h h' hr hr' hlt hf
  · rw [Nat.max_self] at hf ⊢
    exact beside_eq R C C' A B n cap n' cap' l l' w h h' hr hr' hf
  · rw [Nat.max_eq_left (Nat.le_of_lt hlt)] at hf ⊢
    exact beside_gt R C R' C' A B n cap n' cap' l l' w h h' hr hr' hlt hf
theorem below_yes (R C R' C' : Nat) (A B : Option Addr) (n cap n' cap' : Nat) (l l' : List Val) (w : World) (h : ArrIn w A n cap l) (h' : ArrIn w B n' cap' l') (hr : rightA R C l = true) (hr' : rightA R' C' l' = true) (hf : (R + R') * max C C' ≤ 4096) :
    Calls Tryz.prog 64 #[AV R C (.slice A n cap), AV R' C' (.slice B n' cap')] w fun e w' => ∃ D c, e = .returned (.tuple #[AV (R + R' : Nat) (max C C' : Nat) (.slice D ((R + R') * max C C') c), .bool true]) ∧ SlV w.heap.size w' D (belowL R C l R' C' l') ∧ (R + R') * max C C' ≤ c ∧ Ext w w' := by
  unfold belowL
  rcases Nat.lt_trichotomy C C' with hlt | rfl | hlt
  · rw [Nat.max_eq_right (Nat.le_of_lt hlt)] at hf ⊢
    exact below_lt R C R' C' A B n cap n' cap' l l' w h h' hr hr' hlt hf
  · rw [Nat.max_self] at hf ⊢
    exact below_eq R C R' A B n cap n' cap' l l' w h h' hr hr' hf
  · rw [Nat.max_eq_left (Nat.le_of_lt hlt)] at hf ⊢
    exact below_gt R C R' C' A B n cap n' cap' l l' w h h' hr hr' hlt hf
set_option maxHeartbeats 600000 in
theorem beside_no (r c r' c' : Int) (A B : Option Addr) (n cap n' cap' : Nat) (l l' : List Val) (w : World) (h : ArrIn w A n cap l) (h' : ArrIn w B n' cap' l') (hr : (rightA r c l && rightA r' c' l' && fitsB (max r r') (c + c')) = false) :
    Calls Tryz.prog 51 #[AV r c (.slice A n cap), AV r' c' (.slice B n' cap')] w fun e w' => e = .returned (.tuple #[AV 0 0 (.slice none 0 0), .bool false]) ∧ Ext w w' := by
  by_cases h1 : rightA r c l = true
  · by_cases h2 : rightA r' c' l' = true
    · have h3 : fitsB (max r r') (c + c') = false := by simpa [h1, h2] using hr
      clear hr
      obtain ⟨R, C, rfl, rfl, r1, r2, r3, r4, _⟩ := right_parts h1
      obtain ⟨R', C', rfl, rfl, s1, s2, s3, s4, _⟩ := right_parts h2
      obtain ⟨_, _, _, _, r5, r6⟩ := right_bd h1
      obtain ⟨_, _, _, _, s5, s6⟩ := right_bd h2
      clear r4 s4
      rcases Nat.lt_trichotomy R R' with hlt | rfl | hlt
      · have hmx : max (R : Int) (R' : Int) = (R' : Int) := by omega
        rw [hmx] at h3
        go_enter Tryz.func51, Tryz.ntmps51; go_wp2_with fail; (refine (right_any _ _ _ _ _ _ _ (h.ext (by repeat (first | exact Ext.refl _ | exact ext_app _ _ _ _ _ | exact ext_app2 _ _ _ _ _ _ | apply Ext.drew | apply Ext.alloc | apply Ext.more_)))).mono ?_; rintro e w' ⟨rfl, hb⟩; obtain ⟨os1, d1, rfl⟩ := hb.more; clear hb); go_wp2_with fail; (refine (right_any _ _ _ _ _ _ _ (h'.ext (by repeat (first | exact Ext.refl _ | exact ext_app _ _ _ _ _ | exact ext_app2 _ _ _ _ _ _ | apply Ext.drew | apply Ext.alloc | apply Ext.more_)))).mono ?_; rintro e w' ⟨rfl, hb⟩; obtain ⟨os2, d2, rfl⟩ := hb.more; clear hb); go_wp2_with fail; refine (fits_any _ _ _).mono ?_; rintro e w' ⟨rfl, rfl⟩; go_wp2; exact bodyPost_ret (v := .tuple #[AV 0 0 (.slice none 0 0), .bool false]) (by simp [results, Tryz.results51, go_sem]) rfl ⟨rfl, by repeat (first | exact Ext.refl _ | exact ext_app _ _ _ _ _ | exact ext_app2 _ _ _ _ _ _ | apply Ext.drew | apply Ext.alloc | apply Ext.more_)⟩
      · have hmx : max (R : Int) (R : Int) = (R : Int) := by omega
        rw [hmx] at h3
        go_enter Tryz.func51, Tryz.ntmps51; go_wp2_with fail; (refine (right_any _ _ _ _ _ _ _ (h.ext (by repeat (first | exact Ext.refl _ | exact ext_app _ _ _ _ _ | exact ext_app2 _ _ _ _ _ _ | apply Ext.drew | apply Ext.alloc | apply Ext.more_)))).mono ?_; rintro e w' ⟨rfl, hb⟩; obtain ⟨os1, d1, rfl⟩ := hb.more; clear hb); go_wp2_with fail; (refine (right_any _ _ _ _ _ _ _ (h'.ext (by repeat (first | exact Ext.refl _ | exact ext_app _ _ _ _ _ | exact ext_app2 _ _ _ _ _ _ | apply Ext.drew | apply Ext.alloc | apply Ext.more_)))).mono ?_; rintro e w' ⟨rfl, hb⟩; obtain ⟨os2, d2, rfl⟩ := hb.more; clear hb); go_wp2_with fail; refine (fits_any _ _ _).mono ?_; rintro e w' ⟨rfl, rfl⟩; go_wp2; exact bodyPost_ret (v := .tuple #[AV 0 0 (.slice none 0 0), .bool false]) (by simp [results, Tryz.results51, go_sem]) rfl ⟨rfl, by repeat (first | exact Ext.refl _ | exact ext_app _ _ _ _ _ | exact ext_app2 _ _ _ _ _ _ | apply Ext.drew | apply Ext.alloc | apply Ext.more_)⟩
      · have hmx : max (R : Int) (R' : Int) = (R : Int) := by omega
        rw [hmx] at h3
        go_enter Tryz.func51, Tryz.ntmps51; go_wp2_with fail; (refine (right_any _ _ _ _ _ _ _ (h.ext (by repeat (first | exact Ext.refl _ | exact ext_app _ _ _ _ _ | exact ext_app2 _ _ _ _ _ _ | apply Ext.drew | apply Ext.alloc | apply Ext.more_)))).mono ?_; rintro e w' ⟨rfl, hb⟩; obtain ⟨os1, d1, rfl⟩ := hb.more; clear hb); go_wp2_with fail; (refine (right_any _ _ _ _ _ _ _ (h'.ext (by repeat (first | exact Ext.refl _ | exact ext_app _ _ _ _ _ | exact ext_app2 _ _ _ _ _ _ | apply Ext.drew | apply Ext.alloc | apply Ext.more_)))).mono ?_; rintro e w' ⟨rfl, hb⟩; obtain ⟨os2, d2, rfl⟩ := hb.more; clear hb); go_wp2_with fail; refine (fits_any _ _ _).mono ?_; rintro e w' ⟨rfl, rfl⟩; go_wp2; exact bodyPost_ret (v := .tuple #[AV 0 0 (.slice none 0 0), .bool false]) (by simp [results, Tryz.results51, go_sem]) rfl ⟨rfl, by repeat (first | exact Ext.refl _ | exact ext_app _ _ _ _ _ | exact ext_app2 _ _ _ _ _ _ | apply Ext.drew | apply Ext.alloc | apply Ext.more_)⟩
    · have h2' : rightA r' c' l' = false := by simpa using h2
      clear hr h2
      go_enter Tryz.func51, Tryz.ntmps51
      go_wp2_with fail
      refine (right_any _ _ _ _ _ _ _ (h.ext (by repeat (first | exact Ext.refl _ | exact ext_app _ _ _ _ _ | exact ext_app2 _ _ _ _ _ _ | apply Ext.drew | apply Ext.alloc | apply Ext.more_)))).mono ?_; rintro e w' ⟨rfl, hb⟩; obtain ⟨os1, d1, rfl⟩ := hb.more; clear hb
      go_wp2_with fail
      refine (right_any _ _ _ _ _ _ _ (h'.ext (by repeat (first | exact Ext.refl _ | exact ext_app _ _ _ _ _ | exact ext_app2 _ _ _ _ _ _ | apply Ext.drew | apply Ext.alloc | apply Ext.more_)))).mono ?_; rintro e w' ⟨rfl, hb⟩; obtain ⟨os2, d2, rfl⟩ := hb.more; clear hb
      go_wp2
      exact bodyPost_ret (v := .tuple #[AV 0 0 (.slice none 0 0), .bool false]) (by simp [results, Tryz.results51, go_sem]) rfl ⟨rfl, by repeat (first | exact Ext.refl _ | exact ext_app _ _ _ _ _ | exact ext_app2 _ _ _ _ _ _ | apply Ext.drew | apply Ext.alloc | apply Ext.more_)⟩
  · have h1' : rightA r c l = false := by simpa using h1
    clear hr h1
    go_enter Tryz.func51, Tryz.ntmps51
    go_wp2_with fail
    refine (right_any _ _ _ _ _ _ _ (h.ext (by repeat (first | exact Ext.refl _ | exact ext_app _ _ _ _ _ | exact ext_app2 _ _ _ _ _ _ | apply Ext.drew | apply Ext.alloc | apply Ext.more_)))).mono ?_; rintro e w' ⟨rfl, hb⟩; obtain ⟨os1, d1, rfl⟩ := hb.more; clear hb
    go_wp2
    exact bodyPost_ret (v := .tuple #[AV 0 0 (.slice none 0 0), .bool false]) (by simp [results, Tryz.results51, go_sem]) rfl ⟨rfl, by repeat (first | exact Ext.refl _ | exact ext_app _ _ _ _ _ | exact ext_app2 _ _ _ _ _ _ | apply Ext.drew | apply Ext.alloc | apply Ext.more_)⟩
set_option maxHeartbeats 600000 in
theorem below_no (r c r' c' : Int) (A B : Option Addr) (n cap n' cap' : Nat) (l l' : List Val) (w : World) (h : ArrIn w A n cap l) (h' : ArrIn w B n' cap' l') (hr : (rightA r c l && rightA r' c' l' && fitsB (r + r') (max c c')) = false) :
    Calls Tryz.prog 64 #[AV r c (.slice A n cap), AV r' c' (.slice B n' cap')] w fun e w' => e = .returned (.tuple #[AV 0 0 (.slice none 0 0), .bool false]) ∧ Ext w w' := by
  by_cases h1 : rightA r c l = true
  · by_cases h2 : rightA r' c' l' = true
    · have h3 : fitsB (r + r') (max c c') = false := by simpa [h1, h2] using hr
      clear hr
      obtain ⟨R, C, rfl, rfl, r1, r2, r3, r4, _⟩ := right_parts h1
      obtain ⟨R', C', rfl, rfl, s1, s2, s3, s4, _⟩ := right_parts h2
      obtain ⟨_, _, _, _, r5, r6⟩ := right_bd h1
      obtain ⟨_, _, _, _, s5, s6⟩ := right_bd h2
      clear r4 s4
      rcases Nat.lt_trichotomy C C' with hlt | rfl | hlt
      · have hmx : max (C : Int) (C' : Int) = (C' : Int) := by omega
        rw [hmx] at h3
        go_enter Tryz.func64, Tryz.ntmps64; go_wp2_with fail; (refine (right_any _ _ _ _ _ _ _ (h.ext (by repeat (first | exact Ext.refl _ | exact ext_app _ _ _ _ _ | exact ext_app2 _ _ _ _ _ _ | apply Ext.drew | apply Ext.alloc | apply Ext.more_)))).mono ?_; rintro e w' ⟨rfl, hb⟩; obtain ⟨os1, d1, rfl⟩ := hb.more; clear hb); go_wp2_with fail; (refine (right_any _ _ _ _ _ _ _ (h'.ext (by repeat (first | exact Ext.refl _ | exact ext_app _ _ _ _ _ | exact ext_app2 _ _ _ _ _ _ | apply Ext.drew | apply Ext.alloc | apply Ext.more_)))).mono ?_; rintro e w' ⟨rfl, hb⟩; obtain ⟨os2, d2, rfl⟩ := hb.more; clear hb); go_wp2_with fail; refine (fits_any _ _ _).mono ?_; rintro e w' ⟨rfl, rfl⟩; go_wp2; exact bodyPost_ret (v := .tuple #[AV 0 0 (.slice none 0 0), .bool false]) (by simp [results, Tryz.results64, go_sem]) rfl ⟨rfl, by repeat (first | exact Ext.refl _ | exact ext_app _ _ _ _ _ | exact ext_app2 _ _ _ _ _ _ | apply Ext.drew | apply Ext.alloc | apply Ext.more_)⟩
      · have hmx : max (C : Int) (C : Int) = (C : Int) := by omega
        rw [hmx] at h3
        go_enter Tryz.func64, Tryz.ntmps64; go_wp2_with fail; (refine (right_any _ _ _ _ _ _ _ (h.ext (by repeat (first | exact Ext.refl _ | exact ext_app _ _ _ _ _ | exact ext_app2 _ _ _ _ _ _ | apply Ext.drew | apply Ext.alloc | apply Ext.more_)))).mono ?_; rintro e w' ⟨rfl, hb⟩; obtain ⟨os1, d1, rfl⟩ := hb.more; clear hb); go_wp2_with fail; (refine (right_any _ _ _ _ _ _ _ (h'.ext (by repeat (first | exact Ext.refl _ | exact ext_app _ _ _ _ _ | exact ext_app2 _ _ _ _ _ _ | apply Ext.drew | apply Ext.alloc | apply Ext.more_)))).mono ?_; rintro e w' ⟨rfl, hb⟩; obtain ⟨os2, d2, rfl⟩ := hb.more; clear hb); go_wp2_with fail; refine (fits_any _ _ _).mono ?_; rintro e w' ⟨rfl, rfl⟩; go_wp2; exact bodyPost_ret (v := .tuple #[AV 0 0 (.slice none 0 0), .bool false]) (by simp [results, Tryz.results64, go_sem]) rfl ⟨rfl, by repeat (first | exact Ext.refl _ | exact ext_app _ _ _ _ _ | exact ext_app2 _ _ _ _ _ _ | apply Ext.drew | apply Ext.alloc | apply Ext.more_)⟩
      · have hmx : max (C : Int) (C' : Int) = (C : Int) := by omega
        rw [hmx] at h3
        go_enter Tryz.func64, Tryz.ntmps64; go_wp2_with fail; (refine (right_any _ _ _ _ _ _ _ (h.ext (by repeat (first | exact Ext.refl _ | exact ext_app _ _ _ _ _ | exact ext_app2 _ _ _ _ _ _ | apply Ext.drew | apply Ext.alloc | apply Ext.more_)))).mono ?_; rintro e w' ⟨rfl, hb⟩; obtain ⟨os1, d1, rfl⟩ := hb.more; clear hb); go_wp2_with fail; (refine (right_any _ _ _ _ _ _ _ (h'.ext (by repeat (first | exact Ext.refl _ | exact ext_app _ _ _ _ _ | exact ext_app2 _ _ _ _ _ _ | apply Ext.drew | apply Ext.alloc | apply Ext.more_)))).mono ?_; rintro e w' ⟨rfl, hb⟩; obtain ⟨os2, d2, rfl⟩ := hb.more; clear hb); go_wp2_with fail; refine (fits_any _ _ _).mono ?_; rintro e w' ⟨rfl, rfl⟩; go_wp2; exact bodyPost_ret (v := .tuple #[AV 0 0 (.slice none 0 0), .bool false]) (by simp [results, Tryz.results64, go_sem]) rfl ⟨rfl, by repeat (first | exact Ext.refl _ | exact ext_app _ _ _ _ _ | exact ext_app2 _ _ _ _ _ _ | apply Ext.drew | apply Ext.alloc | apply Ext.more_)⟩
    · have h2' : rightA r' c' l' = false := by simpa using h2
      clear hr h2
      go_enter Tryz.func64, Tryz.ntmps64
      go_wp2_with fail
      refine (right_any _ _ _ _ _ _ _ (h.ext (by repeat (first | exact Ext.refl _ | exact ext_app _ _ _ _ _ | exact ext_app2 _ _ _ _ _ _ | apply Ext.drew | apply Ext.alloc | apply Ext.more_)))).mono ?_; rintro e w' ⟨rfl, hb⟩; obtain ⟨os1, d1, rfl⟩ := hb.more; clear hb
      go_wp2_with fail
      refine (right_any _ _ _ _ _ _ _ (h'.ext (by repeat (first | exact Ext.refl _ | exact ext_app _ _ _ _ _ | exact ext_app2 _ _ _ _ _ _ | apply Ext.drew | apply Ext.alloc | apply Ext.more_)))).mono ?_; rintro e w' ⟨rfl, hb⟩; obtain ⟨os2, d2, rfl⟩ := hb.more; clear hb
      go_wp2
      exact bodyPost_ret (v := .tuple #[AV 0 0 (.slice none 0 0), .bool false]) (by simp [results, Tryz.results64, go_sem]) rfl ⟨rfl, by repeat (first | exact Ext.refl _ | exact ext_app _ _ _ _ _ | exact ext_app2 _ _ _ _ _ _ | apply Ext.drew | apply Ext.alloc | apply Ext.more_)⟩
  · have h1' : rightA r c l = false := by simpa using h1
    clear hr h1
    go_enter Tryz.func64, Tryz.ntmps64
    go_wp2_with fail
    refine (right_any _ _ _ _ _ _ _ (h.ext (by repeat (first | exact Ext.refl _ | exact ext_app _ _ _ _ _ | exact ext_app2 _ _ _ _ _ _ | apply Ext.drew | apply Ext.alloc | apply Ext.more_)))).mono ?_; rintro e w' ⟨rfl, hb⟩; obtain ⟨os1, d1, rfl⟩ := hb.more; clear hb
    go_wp2
    exact bodyPost_ret (v := .tuple #[AV 0 0 (.slice none 0 0), .bool false]) (by simp [results, Tryz.results64, go_sem]) rfl ⟨rfl, by repeat (first | exact Ext.refl _ | exact ext_app _ _ _ _ _ | exact ext_app2 _ _ _ _ _ _ | apply Ext.drew | apply Ext.alloc | apply Ext.more_)⟩
end Go.Proofs.YtlfbdodokldkhaaGreatDoor
namespace Go.Proofs.YtlfbdodokldkhaaGreatDoor
open Go.RowKit
theorem badV_ok (f : Int) (h : I64 f) : (badV f).ok := ⟨⟨by simp [badV], by simp [badV]⟩, ⟨by simp [badV], by simp [badV]⟩, ⟨by simp [badV], by simp [badV]⟩, by simp [badV, ByteArray.size], h⟩
theorem getV_mem {l : List Val} {k : Nat} (h : k < l.length) : getV l k ∈ l := by
  simp [getV, List.getElem?_eq_getElem h]
theorem orNone_cases (R C : Nat) (l : List Val) (i j : Int) (hl : l.length = R * C) : orNoneV R C l i j ∈ l ∨ orNoneV R C l i j = badV 6 := by
  unfold orNoneV
  split
  · rename_i hh
    obtain ⟨a, b, rfl, rfl, ha, hb⟩ := hasB_nat hh
    left
    refine getV_mem ?_
    rw [hl]
    simp only [Int.toNat_natCast]
    calc a * C + b < a * C + C := by omega
      _ = (a + 1) * C := by rw [Nat.succ_mul]
      _ ≤ R * C := Nat.mul_le_mul_right _ ha
  · exact .inr rfl
theorem orNone_out {R C : Nat} {l : List Val} {i j : Int} (h : hasB R C i j = false) : orNoneV R C l i j = badV 6 := by simp [orNoneV, h]
theorem getV_vals (g : Nat → Nat → Val) {R C i j : Nat} (hi : i < R) (hj : j < C) : getV (vals g C (R * C)) (i * C + j) = g i j := by
  have h1 : (i * C + j) / C = i := by rw [Nat.add_comm, Nat.add_mul_div_right _ _ (by omega), Nat.div_eq_of_lt hj]; omega
  have h2 : (i * C + j) % C = j := by rw [Nat.add_comm, Nat.add_mul_mod_self_right, Nat.mod_eq_of_lt hj]
  have h3 : i * C + j < R * C := by
    calc i * C + j < i * C + C := by omega
      _ = (i + 1) * C := by rw [Nat.succ_mul]
      _ ≤ R * C := Nat.mul_le_mul_right _ hi
  simp [getV, vals, h1, h2, h3]
theorem vals_congr {g g' : Nat → Nat → Val} {C R : Nat} (h : ∀ i j, i < R → j < C → g i j = g' i j) : vals g C (R * C) = vals g' C (R * C) := by
  unfold vals
  refine List.map_congr_left fun t ht => ?_
  have ht' : t < R * C := List.mem_range.1 ht
  have hC : 0 < C := by rcases Nat.eq_zero_or_pos C with rfl | h; · simp at ht'
                        · exact h
  exact h _ _ (Nat.div_lt_of_lt_mul (by rw [Nat.mul_comm]; exact ht')) (Nat.mod_lt _ hC)
theorem vals_mem {g : Nat → Nat → Val} {C k : Nat} {y : Val} (h : y ∈ vals g C k) : ∃ i j, y = g i j := by
  unfold vals at h
  obtain ⟨t, _, rfl⟩ := List.mem_map.1 h
  exact ⟨_, _, rfl⟩
/-- An array as data. -/
structure NA where
  R : Nat
  C : Nat
  l : List Val
def NA.right (a : NA) : Prop := rightA a.R a.C a.l = true
def NA.ok (a : NA) : Prop := ∀ x ∈ a.l, x.ok
theorem rightA_nat {R C : Nat} {l : List Val} : rightA R C l = true ↔ 1 ≤ R ∧ 1 ≤ C ∧ R * C ≤ 4096 ∧ l.length = R * C ∧ ∀ x ∈ l, valRight x = true := by
  simp only [rightA, Bool.and_eq_true, fits_nat, decide_eq_true_eq, List.all_eq_true]
  constructor
  · rintro ⟨⟨⟨h1, h2, h3⟩, h4⟩, h5⟩
    refine ⟨h1, h2, h3, ?_, h5⟩
    have : ((l.length : Nat) : Int) = ((R * C : Nat) : Int) := by rw [h4]; simp
    omega
  · rintro ⟨h1, h2, h3, h4, h5⟩
    exact ⟨⟨⟨h1, h2, h3⟩, by rw [h4]; simp⟩, h5⟩
def besideO (a b : NA) : Option NA := if max a.R b.R * (a.C + b.C) ≤ 4096 then some ⟨max a.R b.R, a.C + b.C, besideL a.R a.C a.l b.R b.C b.l⟩ else none
def belowO (a b : NA) : Option NA := if (a.R + b.R) * max a.C b.C ≤ 4096 then some ⟨a.R + b.R, max a.C b.C, belowL a.R a.C a.l b.R b.C b.l⟩ else none
theorem mem_two {P : Val → Prop} {a b : NA} (hl : a.l.length = a.R * a.C) (hl' : b.l.length = b.R * b.C) (ha : ∀ x ∈ a.l, P x) (hb : ∀ x ∈ b.l, P x) (h6 : P (badV 6)) (q : Prop) [Decidable q] (i j i' j' : Int) :
    P (if q then orNoneV a.R a.C a.l i j else orNoneV b.R b.C b.l i' j') := by
  split
  · rcases orNone_cases a.R a.C a.l i j hl with h | h
    · exact ha _ h
    · rw [h]; exact h6
  · rcases orNone_cases b.R b.C b.l i' j' hl' with h | h
    · exact hb _ h
    · rw [h]; exact h6
theorem beside_all {P : Val → Prop} {a b : NA} (hl : a.l.length = a.R * a.C) (hl' : b.l.length = b.R * b.C) (ha : ∀ x ∈ a.l, P x) (hb : ∀ x ∈ b.l, P x) (h6 : P (badV 6)) : ∀ x ∈ besideL a.R a.C a.l b.R b.C b.l, P x := by
  intro x hx
  obtain ⟨i, j, rfl⟩ := vals_mem hx
  exact mem_two hl hl' ha hb h6 _ _ _ _ _
theorem below_all {P : Val → Prop} {a b : NA} (hl : a.l.length = a.R * a.C) (hl' : b.l.length = b.R * b.C) (ha : ∀ x ∈ a.l, P x) (hb : ∀ x ∈ b.l, P x) (h6 : P (badV 6)) : ∀ x ∈ belowL a.R a.C a.l b.R b.C b.l, P x := by
  intro x hx
  obtain ⟨i, j, rfl⟩ := vals_mem hx
  exact mem_two hl hl' ha hb h6 _ _ _ _ _
theorem I64_6 : I64 6 := ⟨by omega, by omega⟩
theorem beside_right {a b c : NA} (ha : a.right) (hb : b.right) (h : besideO a b = some c) : c.right := by
  obtain ⟨a1, a2, a3, a4, a5⟩ := rightA_nat.1 ha
  obtain ⟨b1, b2, b3, b4, b5⟩ := rightA_nat.1 hb
  unfold besideO at h
  split at h
  · obtain rfl := (Option.some.inj h).symm
    refine rightA_nat.2 ⟨?_, ?_, ?_, ?_, ?_⟩
    · dsimp; omega
    · dsimp; omega
    · assumption
    · simp [besideL, vals_length]
    · exact beside_all a4 b4 a5 b5 (valRight_bad 6 (by omega))
  · cases h
theorem below_right {a b c : NA} (ha : a.right) (hb : b.right) (h : belowO a b = some c) : c.right := by
  obtain ⟨a1, a2, a3, a4, a5⟩ := rightA_nat.1 ha
  obtain ⟨b1, b2, b3, b4, b5⟩ := rightA_nat.1 hb
  unfold belowO at h
  split at h
  · obtain rfl := (Option.some.inj h).symm
    refine rightA_nat.2 ⟨?_, ?_, ?_, ?_, ?_⟩
    · dsimp; omega
    · dsimp; omega
    · assumption
    · simp [belowL, vals_length]
    · exact below_all a4 b4 a5 b5 (valRight_bad 6 (by omega))
  · cases h
theorem hasB_iff {R C : Nat} {i j : Int} : hasB R C i j = true ↔ 0 ≤ i ∧ i < R ∧ 0 ≤ j ∧ j < C := by
  simp only [hasB, Bool.and_eq_true, decide_eq_true_eq, and_assoc]
theorem hasB_no {R C : Nat} {i j : Int} (h : ¬ (0 ≤ i ∧ i < R ∧ 0 ≤ j ∧ j < C)) : hasB R C i j = false := by
  cases hh : hasB R C i j with
  | false => rfl
  | true => exact absurd (hasB_iff.1 hh) h
/-- What is handed back where there may be none. -/
def orZ (o : Option NA) : NA := o.getD ⟨0, 0, []⟩
/-- A contract of a join. -/
def JoinC (f : FuncId) (J : NA → NA → Option NA) : Prop :=
  ∀ (a b : NA) (A B : Option Addr) (n cap n' cap' : Nat) (w : World), ArrIn w A n cap a.l → ArrIn w B n' cap' b.l → a.right → b.right → ∀ x : NA, ∀ k : Bool, orZ (J a b) = x → (J a b).isSome = k →
    Calls Tryz.prog f #[AV a.R a.C (.slice A n cap), AV b.R b.C (.slice B n' cap')] w fun e w' => ∃ D m c, e = .returned (.tuple #[AV x.R x.C (.slice D m c), .bool k]) ∧ ArrIn w' D m c x.l ∧ SlV w.heap.size w' D x.l ∧ Ext w w'
theorem fits_no {a b : Nat} (_h1 : 1 ≤ a) (_h2 : 1 ≤ b) (h : ¬ a * b ≤ 4096) : fitsB a b = false := by
  cases hh : fitsB a b with
  | false => rfl
  | true => exact absurd (fits_nat.1 hh).2.2 h
theorem beside_c : JoinC 51 besideO := by
  intro a b A B n cap n' cap' w h h' ha hb x k hx hk
  obtain ⟨a1, a2, a3, a4, a5⟩ := rightA_nat.1 ha
  obtain ⟨b1, b2, b3, b4, b5⟩ := rightA_nat.1 hb
  by_cases hf : max a.R b.R * (a.C + b.C) ≤ 4096
  · simp only [besideO, if_pos hf, orZ, Option.getD_some, Option.isSome_some] at hx hk
    subst hx hk
    refine (beside_yes a.R a.C b.R b.C A B n cap n' cap' a.l b.l w h h' ha hb hf).mono ?_
    rintro e w' ⟨D, c, rfl, hs, hc, hX⟩
    exact ⟨D, _, c, rfl, ⟨Rd.mono hs (Nat.zero_le _), by simp [besideL, vals_length], hc, by omega, beside_all a4 b4 h.ok h'.ok (badV_ok 6 I64_6)⟩, hs, hX⟩
  · simp only [besideO, if_neg hf, orZ, Option.getD_none, Option.isSome_none] at hx hk
    subst hx hk
    refine (beside_no a.R a.C b.R b.C A B n cap n' cap' a.l b.l w h h' ?_).mono ?_
    · rw [show (max (a.R : Int) (b.R : Int)) = ((max a.R b.R : Nat) : Int) by omega, show ((a.C : Int) + (b.C : Int)) = ((a.C + b.C : Nat) : Int) by omega, fits_no (by omega) (by omega) hf, Bool.and_false]
    rintro e w' ⟨rfl, hX⟩
    exact ⟨none, 0, 0, rfl, ArrIn.none_ _, SlV.nil _ _ _, hX⟩
theorem below_c : JoinC 64 belowO := by
  intro a b A B n cap n' cap' w h h' ha hb x k hx hk
  obtain ⟨a1, a2, a3, a4, a5⟩ := rightA_nat.1 ha
  obtain ⟨b1, b2, b3, b4, b5⟩ := rightA_nat.1 hb
  by_cases hf : (a.R + b.R) * max a.C b.C ≤ 4096
  · simp only [belowO, if_pos hf, orZ, Option.getD_some, Option.isSome_some] at hx hk
    subst hx hk
    refine (below_yes a.R a.C b.R b.C A B n cap n' cap' a.l b.l w h h' ha hb hf).mono ?_
    rintro e w' ⟨D, c, rfl, hs, hc, hX⟩
    exact ⟨D, _, c, rfl, ⟨Rd.mono hs (Nat.zero_le _), by simp [belowL, vals_length], hc, by omega, below_all a4 b4 h.ok h'.ok (badV_ok 6 I64_6)⟩, hs, hX⟩
  · simp only [belowO, if_neg hf, orZ, Option.getD_none, Option.isSome_none] at hx hk
    subst hx hk
    refine (below_no a.R a.C b.R b.C A B n cap n' cap' a.l b.l w h h' ?_).mono ?_
    · rw [show (max (a.C : Int) (b.C : Int)) = ((max a.C b.C : Nat) : Int) by omega, show ((a.R : Int) + (b.R : Int)) = ((a.R + b.R : Nat) : Int) by omega, fits_no (by omega) (by omega) hf, Bool.and_false]
    rintro e w' ⟨rfl, hX⟩
    exact ⟨none, 0, 0, rfl, ArrIn.none_ _, SlV.nil _ _ _, hX⟩
end Go.Proofs.YtlfbdodokldkhaaGreatDoor
namespace Go.Proofs.YtlfbdodokldkhaaGreatDoor
open Go.RowKit NM
/-- An argument: an array that may be, and where its values lie. -/
structure Ar where
  x : NA
  A : Option Addr
  n : Nat
  cap : Nat
def Ar.cells (a : Ar) : List Value := [.int .i64 a.x.R, .int .i64 a.x.C, .slice a.A a.n a.cap]
def acells (xs : List Ar) : List Value := xs.flatMap Ar.cells
/-- The three cells of an array anywhere. -/
def ArAt (w : World) (b o : Nat) (a : Ar) : Prop :=
  w.cell? ⟨b, o, none⟩ = some (.int .i64 a.x.R) ∧ w.cell? ⟨b, o + 1, none⟩ = some (.int .i64 a.x.C) ∧ w.cell? ⟨b, o + 2, none⟩ = some (.slice a.A a.n a.cap)
theorem acells_at : ∀ (xs : List Ar) (i : Nat) (a : Ar), xs[i]? = some a → ∀ j, j < 3 → (acells xs)[i * 3 + j]? = a.cells[j]?
  | [], i, x, h, j, hj => by simp at h
  | y :: l, 0, x, h, j, hj => by
    obtain rfl : y = x := by simpa using h
    rw [acells, List.flatMap_cons, List.getElem?_append_left (by simp [Ar.cells]; omega)]
    simp
  | y :: l, i + 1, x, h, j, hj => by
    rw [acells, List.flatMap_cons, List.getElem?_append_right (by simp [Ar.cells]; omega)]
    rw [show (i + 1) * 3 + j - y.cells.length = i * 3 + j by simp [Ar.cells]; omega]
    exact acells_at l i x (by simpa using h) j hj
/-- An array whose values lie, and may be. -/
structure ArOk (w : World) (a : Ar) : Prop where
  arr : ArrIn w a.A a.n a.cap a.x.l
  right : a.x.right
theorem ArOk.ext {w w' : World} {a : Ar} (h : ArOk w a) (hx : Ext w w') : ArOk w' a := ⟨h.arr.ext hx, h.right⟩
structure ArgsIn (w : World) (A : Option Addr) (n cap : Nat) (xs : List Ar) : Prop where
  rd : Rd 0 w A (acells xs)
  len : xs.length = n
  cap : n ≤ cap
  small : n ≤ 9223372036854775807
  all : ∀ a ∈ xs, ArOk w a
theorem ArgsIn.ext {w w' : World} {A : Option Addr} {n cap : Nat} {xs : List Ar} (h : ArgsIn w A n cap xs) (hx : Ext w w') : ArgsIn w' A n cap xs :=
  ⟨h.rd.ext hx, h.len, h.cap, h.small, fun a ha => (h.all a ha).ext hx⟩
theorem ArgsIn.get {w : World} {A : Option Addr} {n cap : Nat} {xs : List Ar} (h : ArgsIn w A n cap xs) {k : Nat} {a : Ar} (hk : xs[k]? = some a) :
    ∃ b off, A = some ⟨b, off, none⟩ ∧ ArAt w b (off + k * 3) a ∧ ArOk w a := by
  have hc : ∀ j, j < 3 → (acells xs)[k * 3 + j]? = a.cells[j]? := acells_at xs k a hk
  obtain ⟨b, off, rfl, _, h0⟩ := h.rd (k * 3 + 0) (.int .i64 a.x.R) (by rw [hc 0 (by omega)]; rfl)
  refine ⟨b, off, rfl, ?_, h.all a (List.mem_of_getElem? hk)⟩
  have hg : ∀ j u, j < 3 → a.cells[j]? = some u → w.cell? ⟨b, off + k * 3 + j, none⟩ = some u := fun j u hj hu => by
    obtain ⟨b', off', he, _, h1⟩ := h.rd (k * 3 + j) u (by rw [hc j hj]; exact hu)
    simp only [Option.some.injEq, Addr.mk.injEq, and_true] at he
    obtain ⟨rfl, rfl⟩ := he
    rw [← h1]; congr 2; omega
  exact ⟨hg 0 _ (by omega) rfl, hg 1 _ (by omega) rfl, hg 2 _ (by omega) rfl⟩
theorem ArgsIn.at {w : World} {A : Option Addr} {n cap : Nat} {xs : List Ar} (h : ArgsIn w A n cap xs) {k : Nat} (hk : k < n) :
    ∃ a b off, xs[k]? = some a ∧ A = some ⟨b, off, none⟩ ∧ ArAt w b (off + k * 3) a ∧ ArOk w a := by
  have hl : k < xs.length := by rw [h.len]; exact hk
  obtain ⟨b, off, e, h1, h2⟩ := h.get (List.getElem?_eq_getElem hl)
  exact ⟨_, b, off, List.getElem?_eq_getElem hl, e, h1, h2⟩
/-- What lies in one block from its start on. -/
theorem Rd.of_row {w : World} {b : Nat} {cs : List Value} {t : TypeId} (h : w.heap[b]? = some (.cells cs.toArray t)) (base : Nat) (hb : base ≤ b) : Rd base w (some ⟨b, 0, none⟩) cs := fun j u hu => by
  refine ⟨b, 0, rfl, hb, ?_⟩
  simp only [World.cell?, h, Nat.zero_add]
  simpa using hu
/-- What a function of arrays hands back. -/
def ResA (w : World) (x : NA) (e : Ending) (w' : World) : Prop :=
  ∃ D m cc, e = .returned (AV x.R x.C (.slice D m cc)) ∧ ArrN w.heap.size w' D m cc x.l ∧ Ext w w'
def oneA (v : Val) : NA := ⟨1, 1, [v]⟩
def aloneO (f : Int) : NA := oneA (bad_ f)
end Go.Proofs.YtlfbdodokldkhaaGreatDoor
namespace Go.Proofs.YtlfbdodokldkhaaGreatDoor
open Go.RowKit NM
/-- Any array, and where its values lie. -/
structure GA where
  r : Int
  c : Int
  A : Option Addr
  n : Nat
  cap : Nat
  l : List Val
def GA.cells (g : GA) : List Value := [.int .i64 g.r, .int .i64 g.c, .slice g.A g.n g.cap]
def gcells (gs : List GA) : List Value := gs.flatMap GA.cells
def GA.right (g : GA) : Bool := rightA g.r g.c g.l
def Ar.toG (a : Ar) : GA := ⟨a.x.R, a.x.C, a.A, a.n, a.cap, a.x.l⟩
def GAt (w : World) (b o : Nat) (g : GA) : Prop :=
  w.cell? ⟨b, o, none⟩ = some (.int .i64 g.r) ∧ w.cell? ⟨b, o + 1, none⟩ = some (.int .i64 g.c) ∧ w.cell? ⟨b, o + 2, none⟩ = some (.slice g.A g.n g.cap)
theorem gcells_at : ∀ (gs : List GA) (i : Nat) (g : GA), gs[i]? = some g → ∀ j, j < 3 → (gcells gs)[i * 3 + j]? = g.cells[j]?
  | [], i, x, h, j, hj => by simp at h
  | y :: l, 0, x, h, j, hj => by
    obtain rfl : y = x := by simpa using h
    rw [gcells, List.flatMap_cons, List.getElem?_append_left (by simp [GA.cells]; omega)]
    simp
  | y :: l, i + 1, x, h, j, hj => by
    rw [gcells, List.flatMap_cons, List.getElem?_append_right (by simp [GA.cells]; omega)]
    rw [show (i + 1) * 3 + j - y.cells.length = i * 3 + j by simp [GA.cells]; omega]
    exact gcells_at l i x (by simpa using h) j hj
structure ArgsG (w : World) (A : Option Addr) (n cap : Nat) (gs : List GA) : Prop where
  rd : Rd 0 w A (gcells gs)
  len : gs.length = n
  cap : n ≤ cap
  small : n ≤ 9223372036854775807
  all : ∀ g ∈ gs, ArrIn w g.A g.n g.cap g.l
theorem ArgsG.ext {w w' : World} {A : Option Addr} {n cap : Nat} {gs : List GA} (h : ArgsG w A n cap gs) (hx : Ext w w') : ArgsG w' A n cap gs :=
  ⟨h.rd.ext hx, h.len, h.cap, h.small, fun g hg => (h.all g hg).ext hx⟩
theorem ArgsG.get {w : World} {A : Option Addr} {n cap : Nat} {gs : List GA} (h : ArgsG w A n cap gs) {k : Nat} {g : GA} (hk : gs[k]? = some g) :
    ∃ b off, A = some ⟨b, off, none⟩ ∧ GAt w b (off + k * 3) g ∧ ArrIn w g.A g.n g.cap g.l := by
  have hc : ∀ j, j < 3 → (gcells gs)[k * 3 + j]? = g.cells[j]? := gcells_at gs k g hk
  obtain ⟨b, off, rfl, _, h0⟩ := h.rd (k * 3 + 0) (.int .i64 g.r) (by rw [hc 0 (by omega)]; rfl)
  refine ⟨b, off, rfl, ?_, h.all g (List.mem_of_getElem? hk)⟩
  have hg : ∀ j u, j < 3 → g.cells[j]? = some u → w.cell? ⟨b, off + k * 3 + j, none⟩ = some u := fun j u hj hu => by
    obtain ⟨b', off', he, _, h1⟩ := h.rd (k * 3 + j) u (by rw [hc j hj]; exact hu)
    simp only [Option.some.injEq, Addr.mk.injEq, and_true] at he
    obtain ⟨rfl, rfl⟩ := he
    rw [← h1]; congr 2; omega
  exact ⟨hg 0 _ (by omega) rfl, hg 1 _ (by omega) rfl, hg 2 _ (by omega) rfl⟩
theorem ArgsG.at {w : World} {A : Option Addr} {n cap : Nat} {gs : List GA} (h : ArgsG w A n cap gs) {k : Nat} (hk : k < n) :
    ∃ g b off, gs[k]? = some g ∧ A = some ⟨b, off, none⟩ ∧ GAt w b (off + k * 3) g ∧ ArrIn w g.A g.n g.cap g.l := by
  have hl : k < gs.length := by rw [h.len]; exact hk
  obtain ⟨b, off, e, h1, h2⟩ := h.get (List.getElem?_eq_getElem hl)
  exact ⟨_, b, off, List.getElem?_eq_getElem hl, e, h1, h2⟩
theorem rightA_shape {r c : Int} {l : List Val} (h : rightA r c l = true) : ∃ R C : Nat, r = (R : Int) ∧ c = (C : Int) := by
  unfold rightA at h
  simp only [Bool.and_eq_true] at h
  have := fits_mul h.1.1
  exact ⟨r.toNat, c.toNat, by omega, by omega⟩
theorem gcells_toG : ∀ xs : List Ar, gcells (xs.map Ar.toG) = acells xs
  | [] => rfl
  | a :: xs => by
    show GA.cells (Ar.toG a) ++ gcells (xs.map Ar.toG) = Ar.cells a ++ acells xs
    rw [gcells_toG xs]; rfl
theorem ArgsG.toIn {w : World} {A : Option Addr} {n cap : Nat} {xs : List Ar} (h : ArgsG w A n cap (xs.map Ar.toG)) (hr : ∀ a ∈ xs, a.x.right) : ArgsIn w A n cap xs :=
  ⟨by rw [← gcells_toG]; exact h.rd, by rw [← h.len, List.length_map], h.cap, h.small, fun a ha => ⟨h.all a.toG (List.mem_map.2 ⟨a, ha, rfl⟩), hr a ha⟩⟩
theorem ArgsIn.toG {w : World} {A : Option Addr} {n cap : Nat} {xs : List Ar} (h : ArgsIn w A n cap xs) : ArgsG w A n cap (xs.map Ar.toG) :=
  ⟨by rw [gcells_toG]; exact h.rd, by rw [List.length_map]; exact h.len, h.cap, h.small, fun g hg => by obtain ⟨a, ha, rfl⟩ := List.mem_map.1 hg; exact (h.all a ha).arr⟩
/-- What Call tells of a function that there is, of so many arguments, each of which may be or not. -/
def callX (lo hi : Nat) (gs : List GA) (F : NA) : NA :=
  if gs.length < lo ∨ hi < gs.length then aloneO 2 else if gs.all GA.right then F else aloneO 9
end Go.Proofs.YtlfbdodokldkhaaGreatDoor
namespace Go.Proofs.YtlfbdodokldkhaaGreatDoor
open Go.RowKit NM
theorem ArrO.res {w w' : World} {e : Ending} {x : NA} (h : ArrO w.heap.size w' e x.R x.C x.l) (hl : x.l.length ≤ 9223372036854775807) (ho : x.ok) (hx : Ext w w') : ResA w x e w' := by
  obtain ⟨A, cap, rfl, h1, h2⟩ := h
  exact ⟨A, _, cap, rfl, ⟨h1, rfl, h2, hl, ho⟩, hx⟩
theorem one_res (v : Val) (w : World) (hv : v.ok) (hr : v.right) :
    Calls Tryz.prog 46 #[VV v.kind v.mant v.exp v.text v.truth v.fault] w fun e w' => ResA w (oneA v) e w' :=
  (one_right v.kind v.mant v.exp v.fault v.text v.truth w hv.2.1 hv.2.2.2.1 hr).mono fun e w' ⟨h1, h2⟩ => ArrO.res (x := oneA v) h1 (by simp [oneA]) (fun y hy => by rw [show y = v by simpa [oneA] using hy]; exact hv) h2
theorem ok_bad (f : Int) : (bad_ f).ok := badV_ok _ (by have := badF_bd f; unfold I64; omega)
end Go.Proofs.YtlfbdodokldkhaaGreatDoor
namespace Go.Proofs.YtlfbdodokldkhaaGreatDoor
open Go.RowKit NM
set_option maxHeartbeats 1000000 in
theorem galone_any (f : Int) (w : World) : Calls Tryz.prog 27 #[.int .i64 f] w fun e w' => ResA w (aloneO f) e w' := by
  go_enter Tryz.func27, Tryz.ntmps27
  go_wp2_with (go_at_call 65; (with_reducible refine (bad_any _ _).mono ?_); rintro e w' ⟨rfl, hb⟩; obtain ⟨os, d, rfl⟩ := hb.more; clear hb)
  go_at_call 46
  refine (one_res (bad_ f) _ (ok_bad f) (right_bad f)).mono ?_
  rintro e w' ⟨D, m, cc, rfl, hD, hb⟩
  obtain ⟨os2, d2, rfl⟩ := hb.more
  clear hb
  have hDr := hD.rd
  go_wp2_with fail
  exact bodyPost_ret (v := AV (oneA (bad_ f)).R (oneA (bad_ f)).C (.slice D m cc)) (by simp [results, Tryz.results27, go_sem]) rfl ⟨D, m, cc, rfl, ⟨(by (try simp only [more_more] at hDr); (try simp only [drew_more] at hDr); (try simp only [more_drew] at hDr); (try simp only [Array.append_assoc] at hDr); exact Rd.swap hDr (by first | (simp; done) | (simp; omega) | omega) (by first | (simp; done) | (simp; omega) | omega) (by first | (simp; done) | (simp; omega) | omega)), hD.len, hD.cap, hD.small, hD.ok⟩, by with_reducible repeat (first | exact Ext.refl _ | apply Ext.drew | apply Ext.alloc | apply Ext.more_)⟩
abbrev gfnE (lo hi : Int) (f : Value) : Value := .agg #[.int .i64 lo, .int .i64 hi, f]
def farrayL (p1 p2 : Nat) : Tab1 :=
  [([67, 79, 76, 85, 77, 78, 83], gfnE 1 1 (fn0 45)), ([68, 82, 79, 80], gfnE 1 3 (fn0 48)), ([70, 73, 76, 84, 69, 82], gfnE 2 3 (fn0 49)),
   ([72, 83, 84, 65, 67, 75], gfnE 1 32 (fn1 100 p1)), ([77, 77, 85, 76, 84], gfnE 2 2 (fn0 52)), ([82, 79, 87, 83], gfnE 1 1 (fn0 53)),
   ([83, 69, 81, 85, 69, 78, 67, 69], gfnE 1 4 (fn0 54)), ([83, 79, 82, 84], gfnE 1 3 (fn0 55)), ([84, 65, 75, 69], gfnE 1 3 (fn0 56)),
   ([84, 79, 67, 79, 76], gfnE 1 1 (fn0 57)), ([84, 79, 82, 79, 87], gfnE 1 1 (fn0 60)), ([84, 82, 65, 78, 83, 80, 79, 83, 69], gfnE 1 1 (fn0 61)),
   ([85, 78, 73, 81, 85, 69], gfnE 1 1 (fn0 63)), ([86, 83, 84, 65, 67, 75], gfnE 1 32 (fn1 100 p2))]
abbrev bxJ (fid : FuncId) : Obj := .cells #[fn0 fid] 72
def farrayB (p1 p2 : Nat) : List (Nat × Obj) := [(p1, bxJ 51), (p2, bxJ 64)]
theorem gfarray_pair (p1 p2 : Nat) : (farrayL p1 p2).Pairwise (fun p q => p.1 ≠ q.1) := by simp [farrayL]
theorem zero_gfn (w : World) : (zeroValue 51).run Tryz.prog w = .ok (.agg #[.int .i64 0, .int .i64 0, .nilFunc]) w := by kernel_rfl
theorem galloc_new (w : World) (o : Obj) : (w.alloc o).heap[w.heap.size]? = some o := Array.getElem?_push_size
theorem gstack_any (fid : FuncId) (w : World) :
    Calls Tryz.prog 50 #[.func (.func fid) #[] #[]] w fun e w' => e = .returned (.func (.func 100) #[] #[.pointer (some ⟨w.heap.size, 0, none⟩)]) ∧ w' = w.alloc (bxJ fid) := by
  go_enter Tryz.func50, Tryz.ntmps50
  go_wp2_with fail
  go_ret
  exact ⟨rfl, rfl⟩
set_option maxHeartbeats 1000000 in
theorem gtable_any (w : World) :
    Calls Tryz.prog 26 #[] w fun e w' => ∃ b, e = .returned (.map (some b)) ∧ ∃ p1 p2, TabS Tryz.prog 9 w b (farrayL p1 p2) (farrayB p1 p2) w' := by
  have hmm := @run_makeMap Tryz.prog
  have hT := TabS.start w Tryz.prog 9
  go_enter Tryz.func26, Tryz.ntmps26
  go_wp2_with (first | (go_at_call 50; (with_reducible refine (gstack_any _ _).mono ?_); rintro e w' ⟨rfl, hw⟩; have hT := hT.new (W' := w') (by rw [hw]; exact (Ext.refl _).alloc _) (by rw [hw]; exact galloc_new _ _); clear hw; (try (rw [show (w.alloc (Obj.map #[] 0)).heap.size = w.heap.size + 1 by simp] at hT))) | (refine wpL_insert rfl _ _ _ _ rfl 9 51 Tryz.underlying9 Tryz.underlying53 _ _ rfl hT.tab (by simp only [List.length_append, List.length_nil, List.length_cons, maxLen]; omega) _ rfl (by simp only [maxLen, ByteArray.size, List.size_toArray, List.length_cons, List.length_nil]; omega) _ rfl ?_; intro w1 ht1 hg1; have hT := hT.put ht1 hg1; clear ht1 hg1))
  go_ret
  exact ⟨w.heap.size, rfl, _, _, hT⟩
end Go.Proofs.YtlfbdodokldkhaaGreatDoor
namespace Go.Proofs.YtlfbdodokldkhaaGreatDoor
open Go.RowKit NM
abbrev CallG (w : World) (X : NA) : Ending → World → Prop := fun e w' => ∃ D m cc, e = .returned (.tuple #[AV X.R X.C (.slice D m cc), .bool true]) ∧ ArrN w.heap.size w' D m cc X.l ∧ Ext w w'
theorem all_at {gs : List GA} (h : ∀ j g, j < gs.length → gs[j]? = some g → g.right = true) : ∀ g ∈ gs, g.right = true := by
  intro g hg
  obtain ⟨j, hj, rfl⟩ := List.mem_iff_getElem.1 hg
  exact h j _ hj (List.getElem?_eq_getElem hj)
set_option maxHeartbeats 2000000 in
theorem gcall_any (s : ByteArray) (lo hi : Nat) (fid : FuncId) (ct : Nat → Nat → Array Value) (hs : s.size ≤ maxLen) (hl : ∀ p1 p2, tabAt (farrayL p1 p2) s.data.toList = some (gfnE lo hi (.func (.func fid) #[] (ct p1 p2))))
    (hent : ∀ (args : Array Value) (W : World), (callFunc fid args).run Tryz.prog W = .ok (.enter fid args) W) (hlo9 : lo ≤ 100) (hhi9 : hi ≤ 100)
    (A : Option Addr) (n cap : Nat) (gs : List GA) (w : World) (h : ArgsG w A n cap gs) (F : NA)
    (hf : (∀ g ∈ gs, g.right = true) → lo ≤ n → n ≤ hi → ∀ p1 p2 W, Ext w W → (∀ p ∈ farrayB p1 p2, W.heap[p.1]? = some p.2) → Calls Tryz.prog fid (#[.slice A n cap] ++ ct p1 p2) W fun e W' => ResA W F e W') :
    Calls Tryz.prog 15 #[.string s, .slice A n cap] w (CallG w (callX lo hi gs F)) := by
  have hsm := h.small
  have hlen := h.len
  by_cases q1 : n < lo
  · have hX : callX lo hi gs F = aloneO 2 := by unfold callX; rw [if_pos (by omega)]
    rw [hX]
    clear hf hlen hX
    go_enter Tryz.func15, Tryz.ntmps15
    go_wp2_with (first | (go_at_call 26; (with_reducible refine (gtable_any _).mono ?_); rintro e w' ⟨bm, rfl, p1, p2, hT⟩; have hbm := hT.hb; have hxT := hT.ext; have hbx := fun p hp => (hT.box p hp).2.2; have ht := hl p1 p2; generalize ct p1 p2 = c0 at ht; have HT := Lib.hid ht; clear ht; obtain ⟨os1, d1, rfl⟩ := hxT.more) | (refine wpL_look rfl _ _ _ rfl 9 51 Tryz.underlying9 Tryz.underlying53 _ _ rfl (hT.tab.ext (by with_reducible repeat (first | exact Ext.refl _ | apply Ext.drew | apply Ext.alloc | apply Ext.more_))) (gfarray_pair _ _) _ (zero_gfn _) _ rfl hs (gfnE lo hi (.func (.func fid) #[] c0)) true (by rw [HT.out]; rfl) (by rw [HT.out]; rfl) ?_) | (go_at_call 27; (with_reducible refine (galone_any _ _).mono ?_); rintro e w' ⟨D, m, cc, rfl, hD, hb⟩; obtain ⟨os5, d5, rfl⟩ := hb.more; clear hb; have hDr := hD.rd))
    all_goals exact bodyPost_ret (v := .tuple #[AV (aloneO 2).R (aloneO 2).C (.slice D m cc), .bool true]) (by simp [results, Tryz.results15, go_sem]) rfl ⟨D, m, cc, rfl, ⟨(by (try simp only [more_more] at hDr); (try simp only [drew_more] at hDr); (try simp only [more_drew] at hDr); (try simp only [Array.append_assoc] at hDr); exact Rd.swap hDr (by first | (simp; done) | (simp; omega) | omega) (by first | (simp; done) | (simp; omega) | omega) (by first | (simp; done) | (simp; omega) | omega)), hD.len, hD.cap, hD.small, hD.ok⟩, by with_reducible repeat (first | exact Ext.refl _ | apply Ext.drew | apply Ext.alloc | apply Ext.more_)⟩
  · by_cases q2 : hi < n
    · have hX : callX lo hi gs F = aloneO 2 := by unfold callX; rw [if_pos (by omega)]
      rw [hX]
      clear hf hlen hX
      go_enter Tryz.func15, Tryz.ntmps15
      go_wp2_with (first | (go_at_call 26; (with_reducible refine (gtable_any _).mono ?_); rintro e w' ⟨bm, rfl, p1, p2, hT⟩; have hbm := hT.hb; have hxT := hT.ext; have hbx := fun p hp => (hT.box p hp).2.2; have ht := hl p1 p2; generalize ct p1 p2 = c0 at ht; have HT := Lib.hid ht; clear ht; obtain ⟨os1, d1, rfl⟩ := hxT.more) | (refine wpL_look rfl _ _ _ rfl 9 51 Tryz.underlying9 Tryz.underlying53 _ _ rfl (hT.tab.ext (by with_reducible repeat (first | exact Ext.refl _ | apply Ext.drew | apply Ext.alloc | apply Ext.more_))) (gfarray_pair _ _) _ (zero_gfn _) _ rfl hs (gfnE lo hi (.func (.func fid) #[] c0)) true (by rw [HT.out]; rfl) (by rw [HT.out]; rfl) ?_) | (go_at_call 27; (with_reducible refine (galone_any _ _).mono ?_); rintro e w' ⟨D, m, cc, rfl, hD, hb⟩; obtain ⟨os5, d5, rfl⟩ := hb.more; clear hb; have hDr := hD.rd))
      all_goals exact bodyPost_ret (v := .tuple #[AV (aloneO 2).R (aloneO 2).C (.slice D m cc), .bool true]) (by simp [results, Tryz.results15, go_sem]) rfl ⟨D, m, cc, rfl, ⟨(by (try simp only [more_more] at hDr); (try simp only [drew_more] at hDr); (try simp only [more_drew] at hDr); (try simp only [Array.append_assoc] at hDr); exact Rd.swap hDr (by first | (simp; done) | (simp; omega) | omega) (by first | (simp; done) | (simp; omega) | omega) (by first | (simp; done) | (simp; omega) | omega)), hD.len, hD.cap, hD.small, hD.ok⟩, by with_reducible repeat (first | exact Ext.refl _ | apply Ext.drew | apply Ext.alloc | apply Ext.more_)⟩
    · have HF := Lib.hid hf
      obtain ⟨X, hX⟩ : ∃ X, callX lo hi gs F = X := ⟨_, rfl⟩
      rw [hX]
      have HX := Lib.hid hX
      clear hf hX
      go_enter Tryz.func15, Tryz.ntmps15
      go_wp2_with (first | (go_at_call 26; (with_reducible refine (gtable_any _).mono ?_); rintro e w' ⟨bm, rfl, p1, p2, hT⟩; have hbm := hT.hb; have hxT := hT.ext; have hbx := fun p hp => (hT.box p hp).2.2; have ht := hl p1 p2; have hfc := HF.out; have hfd := fun a b c => hfc a b c p1 p2; clear hfc; generalize ct p1 p2 = c0 at ht hfd; have HT := Lib.hid ht; clear ht; obtain ⟨os1, d1, rfl⟩ := hxT.more) | (refine wpL_look rfl _ _ _ rfl 9 51 Tryz.underlying9 Tryz.underlying53 _ _ rfl (hT.tab.ext (by with_reducible repeat (first | exact Ext.refl _ | apply Ext.drew | apply Ext.alloc | apply Ext.more_))) (gfarray_pair _ _) _ (zero_gfn _) _ rfl hs (gfnE lo hi (.func (.func fid) #[] c0)) true (by rw [HT.out]; rfl) (by rw [HT.out]; rfl) ?_))
      go_loopw [34] (fun i wr => ∃ k : Nat, k ≤ n ∧ i = .int .i64 k ∧ Ext ((more (w.alloc (Obj.cells #[.int .i64 0, .int .i64 0, .slice none 0 0] 30)) os1 d1).alloc (Obj.cells #[.int .i64 lo, .int .i64 hi, .func (.func fid) #[] c0] 51)) wr ∧ Hid (∀ j g, j < k → gs[j]? = some g → g.right = true)) (fun i _ => n - (intOf i).toNat)
      case atStart => exact ⟨0, Nat.zero_le _, rfl, Ext.refl _, fun j g hj => absurd hj (Nat.not_lt_zero _)⟩
      case round =>
        obtain ⟨k, hk, rfl, hX, HR⟩ := hrel
        have hX0 := hX
        obtain ⟨os, d, rfl⟩ := hX.more
        clear hX
        by_cases hlt : k < n
        · obtain ⟨g, b, off, hg, rfl, hat, harr⟩ := h.at hlt
          obtain ⟨v0, v1, v2⟩ := hat
          have hbl : b < w.heap.size := lt_of_cell v0
          have hcap := h.cap
          cases hr : rightA g.r g.c g.l with
          | true =>
            have hra := fun W => (hr ▸ right_any g.r g.c g.A g.n g.cap g.l W : ArrIn W g.A g.n g.cap g.l → _)
            clear hT hxT hX0 hbx hfd hlen
            go_wp2_with (go_at_call 28; refine (hra _ (harr.ext (by with_reducible repeat (first | exact Ext.refl _ | apply Ext.drew | apply Ext.alloc | apply Ext.more_)))).mono ?_; rintro e w' ⟨rfl, hb⟩; obtain ⟨os', d', rfl⟩ := hb.more; clear hb)
            refine ⟨⟨k + 1, by omega, by go_num, by with_reducible repeat (first | exact Ext.refl _ | apply Ext.drew | apply Ext.alloc | apply Ext.more_), ?_⟩, by simp [intOf]; omega⟩
            intro j g' hj hg'
            by_cases hjk : j = k
            · subst hjk
              obtain rfl : g = g' := by rw [hg] at hg'; simpa using hg'
              exact hr
            · exact HR.out j g' (by omega) hg'
          | false =>
            have hra := fun W => (hr ▸ right_any g.r g.c g.A g.n g.cap g.l W : ArrIn W g.A g.n g.cap g.l → _)
            obtain rfl : aloneO 9 = X := by
              rw [← HX.out]
              unfold callX
              rw [if_neg (by omega), if_neg]
              intro ha
              have := List.all_eq_true.1 ha g (List.mem_of_getElem? hg)
              unfold GA.right at this
              rw [hr] at this
              cases this
            clear hT hxT hX0 hbx hfd hlen HX
            go_wp2_with (first | (go_at_call 28; refine (hra _ (harr.ext (by with_reducible repeat (first | exact Ext.refl _ | apply Ext.drew | apply Ext.alloc | apply Ext.more_)))).mono ?_; rintro e w' ⟨rfl, hb⟩; obtain ⟨os', d', rfl⟩ := hb.more; clear hb) | (go_at_call 27; (with_reducible refine (galone_any _ _).mono ?_); rintro e w' ⟨D, m, cc, rfl, hD, hb⟩; obtain ⟨os5, d5, rfl⟩ := hb.more; clear hb; have hDr := hD.rd))
            exact bodyPost_ret (v := .tuple #[AV (aloneO 9).R (aloneO 9).C (.slice D m cc), .bool true]) (by simp [results, Tryz.results15, go_sem]) rfl ⟨D, m, cc, rfl, ⟨(by (try simp only [more_more] at hDr); (try simp only [drew_more] at hDr); (try simp only [more_drew] at hDr); (try simp only [Array.append_assoc] at hDr); exact Rd.swap hDr (by first | (simp; done) | (simp; omega) | omega) (by first | (simp; done) | (simp; omega) | omega) (by first | (simp; done) | (simp; omega) | omega)), hD.len, hD.cap, hD.small, hD.ok⟩, by with_reducible repeat (first | exact Ext.refl _ | apply Ext.drew | apply Ext.alloc | apply Ext.more_)⟩
        · obtain rfl : k = n := by omega
          have hall : ∀ g ∈ gs, g.right = true := all_at fun j g hj hg => HR.out j g (by omega) hg
          obtain rfl : F = X := by
            rw [← HX.out]
            unfold callX
            rw [if_neg (by omega), if_pos (List.all_eq_true.2 hall)]
          have hfe := hfd hall (by omega) (by omega)
          have HB := Lib.hid hbx
          clear hT hxT hbx hfd hlen hall HR HX
          go_wp2_with fail
          refine (hfe _ (by with_reducible repeat (first | exact Ext.refl _ | apply Ext.drew | apply Ext.alloc | apply Ext.more_)) (fun p hp => ?_)).mono ?_
          · have hb0 := HB.out p hp
            have hl0 := lt_block hb0
            exact (hX0.block (Nat.lt_of_lt_of_le hl0 (by simp))).trans ((((Ext.refl _).alloc _).block hl0).trans hb0)
          · rintro e w' ⟨D, m, cc, rfl, hD, hb⟩
            obtain ⟨os2, d2, rfl⟩ := hb.more
            clear hb
            have hDr := hD.rd
            go_wp2_with fail
            exact bodyPost_ret (v := .tuple #[AV F.R F.C (.slice D m cc), .bool true]) (by simp [results, Tryz.results15, go_sem]) rfl ⟨D, m, cc, rfl, ⟨(by (try simp only [more_more] at hDr); (try simp only [drew_more] at hDr); (try simp only [more_drew] at hDr); (try simp only [Array.append_assoc] at hDr); exact Rd.swap hDr (by first | (simp; done) | (simp; omega) | omega) (by first | (simp; done) | (simp; omega) | omega) (by first | (simp; done) | (simp; omega) | omega)), hD.len, hD.cap, hD.small, hD.ok⟩, by with_reducible repeat (first | exact Ext.refl _ | apply Ext.drew | apply Ext.alloc | apply Ext.more_)⟩
end Go.Proofs.YtlfbdodokldkhaaGreatDoor
namespace Go.Proofs.YtlfbdodokldkhaaGreatDoor
open Go.RowKit
/-- A variable that may come up at any time: the operation, its slot, what it makes. -/
abbrev FL := Nat × Nat × Obj
def ptrB (b : Nat) : Value := .pointer (some ⟨b, 0, none⟩)
def putF : List FL → (Nat → Option Nat) → Act → Act
  | [], _, a => a
  | x :: fs, β, a => match β x.1 with
    | none => putF fs β a
    | some b => (putF fs β a).put (some x.2.1) (ptrB b)
def setB (β : Nat → Option Nat) (j b : Nat) : Nat → Option Nat := fun i => if i = j then some b else β i
def np (fs : List FL) (β : Nat → Option Nat) : Nat := fs.countP fun x => (β x.1).isNone
theorem putF_congr {β β' : Nat → Option Nat} {a : Act} : ∀ {fs : List FL}, (∀ x ∈ fs, β x.1 = β' x.1) → putF fs β a = putF fs β' a
  | [], _ => rfl
  | x :: fs, h => by
    unfold putF
    rw [h x (by simp), putF_congr (fs := fs) fun y hy => h y (by simp [hy])]
theorem putF_put {β : Nat → Option Nat} {a : Act} {d : Option Tmp} {v : Value} : ∀ {fs : List FL}, (∀ x ∈ fs, d ≠ some x.2.1) → putF fs β (a.put d v) = (putF fs β a).put d v
  | [], _ => rfl
  | x :: fs, h => by
    unfold putF
    rw [putF_put (fs := fs) fun y hy => h y (by simp [hy])]
    cases β x.1 with
    | none => rfl
    | some b => exact Act.put_comm _ _ _ fun e he hx => h x (by simp) (by rw [he, hx])
theorem putF_set {β : Nat → Option Nat} {a : Act} {x : FL} {b : Nat} : ∀ {fs : List FL}, x ∈ fs → (fs.map (·.1)).Nodup → (fs.map (·.2.1)).Nodup → β x.1 = none → putF fs (setB β x.1 b) a = (putF fs β a).put (some x.2.1) (ptrB b)
  | [], h, _, _, _ => by cases h
  | y :: fs, h, hn, hs, hb => by
    simp only [List.map_cons, List.nodup_cons, List.mem_map, not_exists, not_and] at hn hs
    unfold putF
    by_cases hxy : y.1 = x.1
    · have hyx : y = x := by
        rcases List.mem_cons.1 h with rfl | h'
        · rfl
        · exact absurd hxy.symm (hn.1 x h')
      subst hyx
      have e : putF fs (setB β y.1 b) a = putF fs β a := putF_congr fun z hz => by
        unfold setB; rw [if_neg (fun e => hn.1 z hz e)]
      simp only [setB, if_true, hb] at e ⊢
      rw [e]
    · have hx : x ∈ fs := by
        rcases List.mem_cons.1 h with rfl | h'
        · exact absurd rfl hxy
        · exact h'
      have e : setB β x.1 b y.1 = β y.1 := by unfold setB; rw [if_neg hxy]
      rw [e, putF_set hx hn.2 hs.2 hb]
      cases β y.1 with
      | none => rfl
      | some b' => exact Act.put_comm _ _ _ fun d hd hd' => hs.1 x hx (by simp_all)
theorem np_set {β : Nat → Option Nat} {x : FL} {b : Nat} : ∀ {fs : List FL}, x ∈ fs → (fs.map (·.1)).Nodup → β x.1 = none → np fs (setB β x.1 b) + 1 = np fs β
  | [], h, _, _ => by cases h
  | y :: fs, h, hn, hb => by
    simp only [List.map_cons, List.nodup_cons, List.mem_map, not_exists, not_and] at hn
    unfold np
    rw [List.countP_cons, List.countP_cons]
    by_cases hxy : y.1 = x.1
    · have e : fs.countP (fun z => (setB β x.1 b z.1).isNone) = fs.countP (fun z => (β z.1).isNone) := by
        refine List.countP_congr fun z hz => ?_
        rw [show setB β x.1 b z.1 = β z.1 by unfold setB; rw [if_neg (fun e => hn.1 z hz (e.trans hxy.symm))]]
      rw [e, show setB β x.1 b y.1 = some b by unfold setB; rw [if_pos hxy], show β y.1 = none by rw [hxy]; exact hb]
      simp
    · have hx : x ∈ fs := by
        rcases List.mem_cons.1 h with rfl | h'
        · exact absurd rfl hxy
        · exact h'
      have ih := np_set (b := b) hx hn.2 hb
      unfold np at ih
      rw [show setB β x.1 b y.1 = β y.1 by unfold setB; rw [if_neg hxy]]
      omega
theorem nodup_inj {x y : FL} : ∀ {fs : List FL}, (fs.map (·.1)).Nodup → x ∈ fs → y ∈ fs → x.1 = y.1 → x = y
  | [], _, h, _, _ => by cases h
  | z :: fs, hn, hx, hy, e => by
    simp only [List.map_cons, List.nodup_cons, List.mem_map, not_exists, not_and] at hn
    rcases List.mem_cons.1 hx with rfl | hx'
    · rcases List.mem_cons.1 hy with rfl | hy'
      · rfl
      · exact absurd e.symm (hn.1 y hy')
    · rcases List.mem_cons.1 hy with rfl | hy'
      · exact absurd e (hn.1 x hx')
      · exact nodup_inj hn.2 hx' hy' e
theorem np_zero {β : Nat → Option Nat} {fs : List FL} (h : np fs β = 0) : ∀ x ∈ fs, ∃ b, β x.1 = some b := by
  intro x hx
  have := List.countP_eq_zero.1 h x hx
  cases hb : β x.1 with
  | none => simp [hb] at this
  | some b => exact ⟨b, rfl⟩
theorem np_pos {β : Nat → Option Nat} {fs : List FL} (h : np fs β ≠ 0) : ∃ x ∈ fs, β x.1 = none := by
  obtain ⟨x, hx, hb⟩ := List.countP_pos_iff.1 (Nat.pos_of_ne_zero h)
  exact ⟨x, hx, by simpa using hb⟩
section
variable {P : Program} {ops : Array Oper} {Q : Exit → Act → World → Prop} {tl : List Nat}
theorem wpOp_put1 {j : Nat} {oj : Oper} {d : Tmp} {v : Value} (hj : ops[j]? = some oj) (hsj : ∀ cs b, oj.op ≠ .select cs b) (h1 : d ∉ oj.looksAt ops) (h2 : oj.dst ≠ some d)
    (hQ : ∀ c a w, Q (.panic c) a w → Q (.panic c) (a.put (some d) v) w) {K : Act → World → Prop} {a : Act} {w : World} (h : wpOp P ops Q j K a w) :
    wpOp P ops Q j (fun a' w' => ∃ a'', a' = a''.put (some d) v ∧ K a'' w') (a.put (some d) v) w := by
  have h1' : ∀ e, (some d : Option Tmp) = some e → e ∉ oj.looksAt ops := fun e he => by obtain rfl := Option.some.inj he; exact h1
  have h2' : ∀ e, (some d : Option Tmp) = some e → oj.dst ≠ some e := fun e he => by obtain rfl := Option.some.inj he; exact h2
  unfold wpOp at *
  simp only [hj] at *
  rw [wanted_put oj a (some d) v h1']
  split
  · rename_i hw
    simp only [hw, if_true] at h
    rcases h with h | ⟨hasks, hlets⟩
    case inr => exact .inr ⟨by unfold Oper.asks at *; rw [execOp_put oj hsj a (some d) v h1']; exact hasks, hlets⟩
    refine .inl ?_
    unfold Oper.wp at *
    rw [execOp_put oj hsj a (some d) v h1']
    generalize (execOp a.eval oj).run P w = r at *
    cases r with
    | ok n w' =>
      cases n <;> simp only [Oper.upon] at h ⊢
      case value u => exact ⟨_, Act.put_comm a v u h2', h⟩
      case skip => exact ⟨_, Act.put_comm a v undef h2', h⟩
      case defer f => exact ⟨_, Act.put_comm { a with defers := f :: a.defers } v undef h2', h⟩
      case enter f args =>
        refine Calls.mono h fun e w'' he => ?_
        cases e with
        | returned u => exact ⟨_, Act.put_comm a v u h2', he⟩
        | panicked c => exact hQ _ _ _ he
        | outgrown => exact he
      case row row args => exact Rows.mono h fun u w'' he => ⟨_, Act.put_comm a v u h2', he⟩
    | halt x w' =>
      cases x <;> simp only [Oper.upon] at h ⊢
      case panic u => exact hQ _ _ _ h
  · rename_i hw
    simp only [hw] at h
    exact ⟨_, Act.put_comm a v undef h2', h⟩
theorem wpOp_putF {j : Nat} {oj : Oper} {β : Nat → Option Nat} (hj : ops[j]? = some oj) (hsj : ∀ cs b, oj.op ≠ .select cs b) (hQ : ∀ c a d v w, Q (.panic c) a w → Q (.panic c) (a.put d v) w)
    {K : Act → World → Prop} {a : Act} {w : World} (h : wpOp P ops Q j K a w) : ∀ {fs : List FL}, (∀ x ∈ fs, x.2.1 ∉ oj.looksAt ops ∧ oj.dst ≠ some x.2.1) →
    wpOp P ops Q j (fun a' w' => ∃ a'', a' = putF fs β a'' ∧ K a'' w') (putF fs β a) w
  | [], _ => wpOp_mono (fun a' w' h' => ⟨a', rfl, h'⟩) h
  | x :: fs, hx => by
    have ih := wpOp_putF (β := β) hj hsj hQ h (fs := fs) fun y hy => hx y (by simp [hy])
    unfold putF
    cases β x.1 with
    | none => exact ih
    | some b =>
      refine wpOp_mono ?_ (wpOp_put1 (v := ptrB b) hj hsj (hx x (by simp)).1 (hx x (by simp)).2 (fun c a w => hQ c a _ _ w) ih)
      rintro a' w' ⟨a1, rfl, a2, rfl, hk⟩
      exact ⟨a2, rfl, hk⟩
theorem yields_putF {S : World → Prop} {o : Oper} {v : Value} {a : Act} {β : Nat → Option Nat} (hs : ∀ cs b, o.op ≠ .select cs b) (hy : YieldsIf P ops S o v a) : ∀ {fs : List FL}, (∀ x ∈ fs, x.2.1 ∉ o.looksAt ops) → YieldsIf P ops S o v (putF fs β a)
  | [], _ => hy
  | x :: fs, hx => by
    have ih := yields_putF (β := β) hs hy (fs := fs) fun y hy => hx y (by simp [hy])
    unfold putF
    cases β x.1 with
    | none => exact ih
    | some b =>
      have h1 : ∀ e, (some x.2.1 : Option Tmp) = some e → e ∉ o.looksAt ops := fun e he => by obtain rfl := Option.some.inj he; exact hx x (by simp)
      exact ih.of_same (execOp_put o hs _ _ _ h1) (wanted_put o _ _ _ h1)
/-- As 'wpAnyT'; an operation of 'pu' reads no memory: it may come up behind those of 'tl', too. -/
def wpAnyU (P : Program) (ops : Array Oper) (Q : Exit → Act → World → Prop) (S : World → Prop) (tl pu : List Nat) : Nat → Array Bool → Act → World → Prop
  | 0, listed, a, w => Region.ready .any ops listed = [] ∧ Q .normal a w
  | fuel + 1, listed, a, w =>
    (Region.ready .any ops listed = [] → Q .normal a w) ∧
    ∀ i ∈ Region.ready .any ops listed, wpOp P ops Q i (fun a' w' => (tl.contains i = false → (pu.contains i = true → S w) → S w') ∧ wpAnyU P ops Q S tl pu fuel (listed.setIfInBounds i true) a' w') a w
theorem wpAny_of_U {S : World → Prop} {pu : List Nat} : ∀ (fuel : Nat) (listed : Array Bool) (a : Act) (w : World), wpAnyU P ops Q S tl pu fuel listed a w → wpAny P .any ops Q fuel listed a w
  | 0, _, _, _, h => h
  | fuel + 1, _, _, _, h => ⟨h.1, fun i hi => wpOp_mono (fun a' w' h' => wpAny_of_U fuel _ a' w' h'.2) (h.2 i hi)⟩
/-- k is i, or waits for it by way of others that have not come up. -/
def dep (ops : Array Oper) (listed : Array Bool) (i : Nat) : Nat → Nat → Prop
  | 0, k => k = i
  | n + 1, k => k = i ∨ (listed.getD k false = false ∧ ∃ om, ops[k]? = some om ∧ ∃ e' ∈ om.after, Region.binds .any e' = true ∧ dep ops listed i n e'.on)
theorem dep_top {listed : Array Bool} {i : Nat} : ∀ {n k : Nat}, dep ops listed i n k → k = i ∨ listed.getD k false = false
  | 0, _, h => .inl h
  | _ + 1, _, .inl h => .inl h
  | _ + 1, _, .inr h => .inr h.1
theorem dep_set {listed : Array Bool} {i j : Nat} {oj : Oper} (hoj : ops[j]? = some oj) (hall : ∀ e ∈ oj.after, Region.binds .any e = true → listed.getD e.on false = true) (hnot : ∀ e ∈ oj.after, Region.binds .any e = true → e.on ≠ i) :
    ∀ (n k : Nat), dep ops listed i n k → dep ops (listed.setIfInBounds j true) i n k
  | 0, _, h => h
  | _ + 1, _, .inl h => .inl h
  | n + 1, k, .inr ⟨ho, om, hom, e', he', hb', hd⟩ => by
    refine .inr ⟨?_, om, hom, e', he', hb', dep_set hoj hall hnot n _ hd⟩
    have hje : j ≠ k := fun hje => by
      subst hje
      rw [hoj] at hom
      obtain rfl := Option.some.inj hom
      rcases dep_top hd with h | h
      · exact hnot e' he' hb' h
      · rw [hall e' he' hb'] at h; cases h
    rw [getD_set_ne false hje]; exact ho
/-- Every tail operation that has not come up waits for i, or for others that do. -/
def waits2 (ops : Array Oper) (tl : List Nat) (listed : Array Bool) (i : Nat) : Prop :=
  ∀ j oj, ops[j]? = some oj → tl.contains j = true → listed.getD j true = false → ∃ e ∈ oj.after, Region.binds .any e = true ∧ dep ops listed i 4 e.on
theorem wpAnyU_first {S : World → Prop} {pu : List Nat} {i : Nat} {oi : Oper} {v : Value} (hi : ops[i]? = some oi) (hsel : ∀ (j : Nat) (o : Oper) cs b, ops[j]? = some o → o.op ≠ .select cs b)
    (hQ : ∀ c a w, Q (.panic c) (a.put oi.dst v) w → Q (.panic c) a w) :
    ∀ (fuel : Nat) (listed : Array Bool) (a : Act) (w : World),
      (∀ j oj, ops[j]? = some oj → j ≠ i → listed.getD j true = false → (∀ e ∈ oj.after, Region.binds .any e = true → e.on ≠ i) → oi.apart ops oj = true) →
      waits2 ops tl listed i →
      i ∈ Region.ready .any ops listed → YieldsIf P ops S oi v a → S w →
      wpAnyU P ops Q S tl pu fuel (listed.setIfInBounds i true) (a.put oi.dst v) w → wpAnyU P ops Q S tl pu (fuel + 1) listed a w := by
  intro fuel
  induction fuel with
  | zero =>
    intro listed a w _ _ hr hy hS H
    refine ⟨fun h => (by rw [h] at hr; cases hr), fun j hj => ?_⟩
    by_cases hji : j = i
    · subst hji; exact hy.wpOp hi hS ⟨fun _ _ => hS, H⟩
    · have := ready_mono hj hji
      rw [H.1] at this
      cases this
  | succ fuel ih =>
    intro listed a w hfree hwt hr hy hS H
    refine ⟨fun h => (by rw [h] at hr; cases hr), fun j hj => ?_⟩
    by_cases hji : j = i
    · subst hji; exact hy.wpOp hi hS ⟨fun _ _ => hS, H⟩
    · have h1 := H.2 j (ready_mono hj hji)
      obtain ⟨hjun, oj, hoj, hall⟩ := mem_ready.1 hj
      have hnot : ∀ e ∈ oj.after, Region.binds .any e = true → e.on ≠ i := fun e he hb heq => by
        have h1 := hall e he hb
        have h0 := (mem_ready.1 hr).1
        rw [heq] at h1
        rcases Nat.lt_or_ge i listed.size with h' | h'
        · simp [h'] at h0 h1; rw [h0] at h1; cases h1
        · simp [Array.getElem?_eq_none h'] at h1
      have htj : tl.contains j = false := by
        cases hc : tl.contains j with
        | false => rfl
        | true =>
          obtain ⟨e, he, hb, ho⟩ := hwt j oj hoj hc hjun
          rcases dep_top ho with ho | ho
          · exact absurd ho (hnot e he hb)
          · have := hall e he hb
            rw [ho] at this; cases this
      have h2 := wpOp_putIf hoj (hfree j oj hoj hji hjun hnot) (fun cs b => hsel i oi cs b hi) (fun cs b => hsel j oj cs b hoj) hQ hy h1
      have hfree' : ∀ k ok, ops[k]? = some ok → k ≠ i → (listed.setIfInBounds j true).getD k true = false →
          (∀ e ∈ ok.after, Region.binds .any e = true → e.on ≠ i) → oi.apart ops ok = true := fun k ok hk hki hun hno => by
        refine hfree k ok hk hki ?_ hno
        by_cases hjk : j = k
        · subst hjk; exact hjun
        · rw [getD_set_ne true hjk] at hun; exact hun
      have hwt' : waits2 ops tl (listed.setIfInBounds j true) i := fun k ok hk htk hun => by
        obtain ⟨e, he, hb, ho⟩ := hwt k ok hk htk (by
          by_cases hjk : j = k
          · subst hjk; exact hjun
          · rw [getD_set_ne true hjk] at hun; exact hun)
        exact ⟨e, he, hb, dep_set hoj hall hnot _ _ ho⟩
      refine wpOp_mono (fun a' w' h3 => ⟨h3.2.1, ih (listed.setIfInBounds j true) a' w' hfree' hwt' (ready_mono hr (Ne.symm hji)) h3.1 (h3.2.1 htj fun _ => hS) ?_⟩) h2
      rw [Array.setIfInBounds_comm _ _ hji]
      exact h3.2.2
theorem wpAnyU_pure {S : World → Prop} {pu : List Nat} {i : Nat} {oi : Oper} {v : Value} (hi : ops[i]? = some oi) (hsel : ∀ (j : Nat) (o : Oper) cs b, ops[j]? = some o → o.op ≠ .select cs b)
    (hpi : pu.contains i = true) (hQ : ∀ c a w, Q (.panic c) (a.put oi.dst v) w → Q (.panic c) a w) :
    ∀ (fuel : Nat) (listed : Array Bool) (a : Act) (w : World),
      (∀ j oj, ops[j]? = some oj → j ≠ i → listed.getD j true = false → (∀ e ∈ oj.after, Region.binds .any e = true → e.on ≠ i) → oi.apart ops oj = true) →
      i ∈ Region.ready .any ops listed → YieldsIf P ops (fun _ => True) oi v a →
      wpAnyU P ops Q S tl pu fuel (listed.setIfInBounds i true) (a.put oi.dst v) w → wpAnyU P ops Q S tl pu (fuel + 1) listed a w := by
  intro fuel
  induction fuel with
  | zero =>
    intro listed a w _ hr hy H
    refine ⟨fun h => (by rw [h] at hr; cases hr), fun j hj => ?_⟩
    by_cases hji : j = i
    · subst hji; exact hy.wpOp hi trivial ⟨fun _ h => h hpi, H⟩
    · have := ready_mono hj hji
      rw [H.1] at this
      cases this
  | succ fuel ih =>
    intro listed a w hfree hr hy H
    refine ⟨fun h => (by rw [h] at hr; cases hr), fun j hj => ?_⟩
    by_cases hji : j = i
    · subst hji; exact hy.wpOp hi trivial ⟨fun _ h => h hpi, H⟩
    · have h1 := H.2 j (ready_mono hj hji)
      obtain ⟨hjun, oj, hoj, hall⟩ := mem_ready.1 hj
      have hnot : ∀ e ∈ oj.after, Region.binds .any e = true → e.on ≠ i := fun e he hb heq => by
        have h1 := hall e he hb
        have h0 := (mem_ready.1 hr).1
        rw [heq] at h1
        rcases Nat.lt_or_ge i listed.size with h' | h'
        · simp [h'] at h0 h1; rw [h0] at h1; cases h1
        · simp [Array.getElem?_eq_none h'] at h1
      have h2 := wpOp_putIf hoj (hfree j oj hoj hji hjun hnot) (fun cs b => hsel i oi cs b hi) (fun cs b => hsel j oj cs b hoj) hQ hy h1
      have hfree' : ∀ k ok, ops[k]? = some ok → k ≠ i → (listed.setIfInBounds j true).getD k true = false →
          (∀ e ∈ ok.after, Region.binds .any e = true → e.on ≠ i) → oi.apart ops ok = true := fun k ok hk hki hun hno => by
        refine hfree k ok hk hki ?_ hno
        by_cases hjk : j = k
        · subst hjk; exact hjun
        · rw [getD_set_ne true hjk] at hun; exact hun
      refine wpOp_mono (fun a' w' h3 => ⟨h3.2.1, ih (listed.setIfInBounds j true) a' w' hfree' (ready_mono hr (Ne.symm hji)) h3.1 ?_⟩) h2
      rw [Array.setIfInBounds_comm _ _ hji]
      exact h3.2.2
/-- What ends the region, one behind the other. -/
def wpTl (P : Program) (ops : Array Oper) (Q : Exit → Act → World → Prop) : List Nat → Act → World → Prop
  | [], a, w => Q .normal a w
  | i :: rest, a, w => wpOp P ops Q i (wpTl P ops Q rest) a w
def tailOk (ops : Array Oper) (tl : List Nat) : Array Bool → List Nat → Bool
  | listed, [] => (Region.ready .any ops listed).isEmpty
  | listed, i :: rest => (Region.ready .any ops listed == [i]) && tl.contains i && tailOk ops tl (listed.setIfInBounds i true) rest
theorem wpTl_sound {S : World → Prop} {pu : List Nat} : ∀ (tp : List Nat) (listed : Array Bool) (a : Act) (w : World), tailOk ops tl listed tp = true → wpTl P ops Q tp a w → wpAnyU P ops Q S tl pu tp.length listed a w
  | [], listed, a, w, ho, h => ⟨by simpa [tailOk] using ho, h⟩
  | i :: rest, listed, a, w, ho, h => by
    simp only [tailOk, Bool.and_eq_true, beq_iff_eq] at ho
    obtain ⟨⟨h1, h2⟩, h3⟩ := ho
    refine ⟨fun h0 => (by rw [h1] at h0; cases h0), fun j hj => ?_⟩
    rw [h1] at hj
    obtain rfl : j = i := by simpa using hj
    exact wpOp_mono (fun a' w' h' => ⟨fun ht => (by rw [h2] at ht; cases ht), wpTl_sound rest _ _ _ h3 h'⟩) h
theorem wpTl_op {i : Nat} {o : Oper} {rest : List Nat} {a : Act} {w : World} (hi : ops.toList[i]? = some o) (hw : Region.wanted o (yielded ops a.tmps) = true) (h : ∀ K : Act → World → Prop, (∀ a' w', wpTl P ops Q rest a' w' → K a' w') → o.wp P a w K Q) :
    wpTl P ops Q (i :: rest) a w := by
  have hi' : ops[i]? = some o := by simpa using hi
  show wpOp _ _ _ _ _ _ _
  unfold wpOp
  simp only [hi', hw, if_true]
  exact .inl (h _ fun a' w' hk => hk)
theorem wpTl_nil {a : Act} {w : World} (h : Q .normal a w) : wpTl P ops Q [] a w := h
/-- The walk by a plan, whatever the new variables' turns. -/
def wpFp (P : Program) (ops : Array Oper) (Q : Exit → Act → World → Prop) (W0 : World) (fs : List FL) (tp : List Nat) : List (Nat × Nat) → Act → (World → Prop) → Prop
  | [], a, E => ∀ (β : Nat → Option Nat) (w : World), Ext W0 w → E w → (∀ x ∈ fs, ∃ b, β x.1 = some b ∧ w.heap[b]? = some x.2.2 ∧ W0.heap.size ≤ b) →
      (∀ x ∈ fs, ∀ y ∈ fs, ∀ b, β x.1 = some b → β y.1 = some b → x.1 = y.1) → wpTl P ops Q tp (putF fs β a) w
  | (i, 0) :: rest, a, E => ∃ o v, ops[i]? = some o ∧ YieldsIf P ops (Ext W0) o v a ∧ wpFp P ops Q W0 fs tp rest (a.put o.dst v) E
  | (i, 2) :: rest, a, E => ∃ o v, ops[i]? = some o ∧ YieldsIf P ops (fun _ => True) o v a ∧ wpFp P ops Q W0 fs tp rest (a.put o.dst v) E
  | (i, _) :: rest, a, E => ∀ w, Ext W0 w → E w → wpOp P ops Q i (fun a' w' => Ext w w' ∧ ∃ E' : World → Prop, (∀ w1 w2, Ext w1 w2 → E' w1 → E' w2) ∧ E' w' ∧ wpFp P ops Q W0 fs tp rest a' E') a w
def floatsOk (ops : Array Oper) (fs : List FL) (tl : List Nat) : Bool :=
  fs.all (fun x => match ops[x.1]? with
    | some o => o.guard.isNone && o.dst == some x.2.1 && o.after.all (fun e => !Region.binds .any e) && !tl.contains x.1
    | none => false) &&
  decide (fs.map (·.1)).Nodup && decide (fs.map (·.2.1)).Nodup &&
  (List.range ops.size).all (fun j => (fs.map (·.1)).contains j || match ops[j]? with
    | none => true
    | some oj =>
      if tl.contains j then fs.all (fun x => oj.after.any (fun e => Region.binds .any e && e.on == x.1))
      else oj.after.all (fun e => !Region.binds .any e || !(fs.map (·.1)).contains e.on) &&
        fs.all (fun x => !(oj.looksAt ops).contains x.2.1 && oj.dst != some x.2.1 && (match ops[x.1]? with | some o => oj.apart ops o | none => false)))
def depB (ops : Array Oper) (F : List Nat) (listed : Array Bool) (i : Nat) : Nat → Nat → Bool
  | 0, k => k == i
  | n + 1, k => k == i || (!F.contains k && !listed.getD k false && match ops[k]? with | some om => om.after.any (fun e' => Region.binds .any e' && depB ops F listed i n e'.on) | none => false)
def planF (ops : Array Oper) (F : List Nat) (tl pu : List Nat) : Array Bool → List (Nat × Nat) → Bool
  | listed, [] => (List.range ops.size).all (fun j => listed.getD j true || tl.contains j)
  | listed, (i, 0) :: rest => Region.free .any ops listed i && (Region.ready .any ops listed).contains i && !tl.contains i && !F.contains i &&
      tl.all (fun j => listed.getD j true || match ops[j]? with | some oj => oj.after.any (fun e => Region.binds .any e && depB ops F listed i 4 e.on) | none => true) && planF ops F tl pu (listed.setIfInBounds i true) rest
  | listed, (i, 2) :: rest => Region.free .any ops listed i && (Region.ready .any ops listed).contains i && !tl.contains i && !F.contains i && pu.contains i && planF ops F tl pu (listed.setIfInBounds i true) rest
  | listed, (i, _) :: rest => (Region.ready .any ops listed == [i]) && !tl.contains i && !F.contains i && !pu.contains i && planF ops F tl pu (listed.setIfInBounds i true) rest
def listAll (listed : Array Bool) (pl : List (Nat × Nat)) : Array Bool := pl.foldl (fun l x => l.setIfInBounds x.1 true) listed
/-- How far the floats have come up. -/
structure Rel (fs : List FL) (listed lF : Array Bool) (β : Nat → Option Nat) : Prop where
  size : listed.size = lF.size
  main : ∀ j, j ∉ fs.map (·.1) → listed[j]? = lF[j]?
  done : ∀ x ∈ fs, listed[x.1]? = some (β x.1).isSome ∧ lF[x.1]? = some true
theorem Rel.step {fs : List FL} {listed lF : Array Bool} {β : Nat → Option Nat} (h : Rel fs listed lF β) {i : Nat} (hi : i ∉ fs.map (·.1)) : Rel fs (listed.setIfInBounds i true) (lF.setIfInBounds i true) β := by
  refine ⟨by simp [h.size], fun j hj => ?_, fun x hx => ?_⟩
  · rw [Array.getElem?_setIfInBounds, Array.getElem?_setIfInBounds, h.size, h.main j hj]
  · have hne : i ≠ x.1 := fun e => hi (by rw [e]; exact List.mem_map.2 ⟨x, hx, rfl⟩)
    rw [Array.getElem?_setIfInBounds_ne hne, Array.getElem?_setIfInBounds_ne hne]
    exact h.done x hx
theorem Rel.float {fs : List FL} {listed lF : Array Bool} {β : Nat → Option Nat} (h : Rel fs listed lF β) {x : FL} (hx : x ∈ fs) (b : Nat) : Rel fs (listed.setIfInBounds x.1 true) lF (setB β x.1 b) := by
  refine ⟨by simp [h.size], fun j hj => ?_, fun y hy => ?_⟩
  · rw [Array.getElem?_setIfInBounds_ne (fun e => hj (by rw [← e]; exact List.mem_map.2 ⟨x, hx, rfl⟩))]; exact h.main j hj
  · refine ⟨?_, (h.done y hy).2⟩
    have hl := (h.done y hy).1
    by_cases hxy : x.1 = y.1
    · rw [← hxy, Array.getElem?_setIfInBounds_self]
      have : x.1 < listed.size := by rw [hxy]; exact (Array.getElem?_eq_some_iff.1 hl).1
      simp [this, setB]
    · rw [Array.getElem?_setIfInBounds_ne hxy, hl]
      unfold setB; rw [if_neg (fun e => hxy e.symm)]
theorem getD_of {l : Array Bool} {j : Nat} {b d : Bool} (h : l[j]? = some b) : l.getD j d = b := by simp [h]
theorem getD_same {l l' : Array Bool} {j : Nat} {d : Bool} (h : l[j]? = l'[j]?) : l.getD j d = l'.getD j d := by simp [h]
theorem dep_of {fs : List FL} {listed lF : Array Bool} {β : Nat → Option Nat} (hR : Rel fs listed lF β) {i : Nat} : ∀ (n k : Nat), depB ops (fs.map (·.1)) lF i n k = true → dep ops listed i n k
  | 0, k, h => by show k = i; simpa [depB] using h
  | n + 1, k, h => by
    simp only [depB, Bool.or_eq_true, beq_iff_eq, Bool.and_eq_true, Bool.not_eq_true'] at h
    rcases h with h | ⟨⟨hF, hun⟩, h⟩
    · exact .inl h
    · right
      refine ⟨by rw [getD_same (hR.main k (by simpa using hF))]; exact hun, ?_⟩
      cases hom : ops[k]? with
      | none => rw [hom] at h; cases h
      | some om =>
        rw [hom] at h
        obtain ⟨e', he', hb'⟩ := Array.any_eq_true'.1 h
        simp only [Bool.and_eq_true] at hb'
        exact ⟨om, rfl, e', he', hb'.1, dep_of hR n _ hb'.2⟩
/-- What floatsOk says. -/
structure FOk (ops : Array Oper) (fs : List FL) (tl : List Nat) : Prop where
  fl : ∀ x ∈ fs, ∃ o, ops[x.1]? = some o ∧ o.guard = none ∧ o.dst = some x.2.1 ∧ (∀ e ∈ o.after, Region.binds .any e = false) ∧ tl.contains x.1 = false
  n1 : (fs.map (·.1)).Nodup
  n2 : (fs.map (·.2.1)).Nodup
  tail : ∀ j oj, ops[j]? = some oj → j ∉ fs.map (·.1) → tl.contains j = true → ∀ x ∈ fs, ∃ e ∈ oj.after, Region.binds .any e = true ∧ e.on = x.1
  main : ∀ j oj, ops[j]? = some oj → j ∉ fs.map (·.1) → tl.contains j = false → (∀ e ∈ oj.after, Region.binds .any e = true → e.on ∉ fs.map (·.1)) ∧ ∀ x ∈ fs, x.2.1 ∉ oj.looksAt ops ∧ oj.dst ≠ some x.2.1 ∧ ∀ o, ops[x.1]? = some o → oj.apart ops o = true
theorem FOk.of {fs : List FL} (h : floatsOk ops fs tl = true) : FOk ops fs tl := by
  simp only [floatsOk, Bool.and_eq_true, decide_eq_true_eq, List.all_eq_true] at h
  obtain ⟨⟨⟨h1, h2⟩, h3⟩, h4⟩ := h
  refine ⟨fun x hx => ?_, h2, h3, fun j oj hj hn ht x hx => ?_, fun j oj hj hn ht => ?_⟩
  · have := h1 x hx
    cases ho : ops[x.1]? with
    | none => rw [ho] at this; cases this
    | some o =>
      rw [ho] at this
      simp only [Bool.and_eq_true, Bool.not_eq_true', Option.isNone_iff_eq_none, beq_iff_eq, Array.all_eq_true_iff_forall_mem] at this
      exact ⟨o, rfl, this.1.1.1, this.1.1.2, this.1.2, this.2⟩
  · have := h4 j (List.mem_range.2 (Array.getElem?_eq_some_iff.1 hj).1)
    rw [show (fs.map (·.1)).contains j = false by simpa using hn, hj] at this
    simp only [Bool.false_or, ht, if_true, List.all_eq_true] at this
    obtain ⟨e, he, hb⟩ := Array.any_eq_true'.1 (this x hx)
    simp only [Bool.and_eq_true, beq_iff_eq] at hb
    exact ⟨e, he, hb⟩
  · have := h4 j (List.mem_range.2 (Array.getElem?_eq_some_iff.1 hj).1)
    rw [show (fs.map (·.1)).contains j = false by simpa using hn, hj] at this
    simp only [Bool.false_or, ht, Bool.false_eq_true, if_false, Bool.and_eq_true, List.all_eq_true, Array.all_eq_true_iff_forall_mem] at this
    refine ⟨fun e he hb hin => ?_, fun x hx => ?_⟩
    · have := this.1 e he
      rw [hb] at this
      simp only [Bool.not_true, Bool.false_or, Bool.not_eq_true'] at this
      exact absurd hin (by simpa using this)
    · have := this.2 x hx
      obtain ⟨⟨a1, a2⟩, a3⟩ := this
      refine ⟨by simpa using a1, by simpa using a2, fun o ho => ?_⟩
      rw [ho] at a3
      exact a3
theorem wpFp_sound {W0 : World} {fs : List FL} {tp pu : List Nat} (hok : FOk ops fs tl) (hsel : Region.noSelect ops = true) (hQ : ∀ c a d v w, Q (.panic c) (a.put d v) w → Q (.panic c) a w) (hQ' : ∀ c a d v w, Q (.panic c) a w → Q (.panic c) (a.put d v) w)
    (hob : ∀ x ∈ fs, ∀ o, ops[x.1]? = some o → ∀ (a : Act) (w : World), (execOp a.eval o).run P w = .ok (.value (ptrB w.heap.size)) (w.alloc x.2.2)) :
    ∀ (m : Nat) (pl : List (Nat × Nat)) (listed lF : Array Bool) (β : Nat → Option Nat) (a : Act) (E : World → Prop) (w : World), pl.length + np fs β = m → Rel fs listed lF β →
      planF ops (fs.map (·.1)) tl pu lF pl = true → tailOk ops tl (listAll lF pl) tp = true → Ext W0 w → (∀ w1 w2, Ext w1 w2 → E w1 → E w2) → E w →
      (∀ x ∈ fs, ∀ b, β x.1 = some b → w.heap[b]? = some x.2.2 ∧ W0.heap.size ≤ b) → (∀ x ∈ fs, ∀ y ∈ fs, ∀ b, β x.1 = some b → β y.1 = some b → x.1 = y.1) →
      wpFp P ops Q W0 fs tp pl a E → wpAnyU P ops Q (Ext W0) tl pu (m + tp.length) listed (putF fs β a) w := by
  intro m
  induction m with
  | zero =>
    intro pl listed lF β a E w hm hR hpl htp hX hst hE hbl hinj h
    obtain rfl : pl = [] := List.eq_nil_of_length_eq_zero (by omega)
    have hz : np fs β = 0 := by simpa using hm
    have hdone := np_zero hz
    have hl : listed = lF := by
      apply Array.ext_getElem?
      intro j
      by_cases hj : j ∈ fs.map (·.1)
      · obtain ⟨x, hx, rfl⟩ := List.mem_map.1 hj
        obtain ⟨b, hb⟩ := hdone x hx
        rw [(hR.done x hx).1, (hR.done x hx).2, hb]; rfl
      · exact hR.main j hj
    subst hl
    rw [Nat.zero_add]
    exact wpTl_sound tp _ _ _ htp (h β w hX hE (fun x hx => by obtain ⟨b, hb⟩ := hdone x hx; exact ⟨b, hb, hbl x hx b hb⟩) hinj)
  | succ m ih =>
    intro pl listed lF β a E w hm hR hpl htp hX hst hE hbl hinj h
    have hal : ∀ x ∈ fs, β x.1 = none → wpOp P ops Q x.1 (fun a' w' => (tl.contains x.1 = false → (pu.contains x.1 = true → Ext W0 w) → Ext W0 w') ∧ wpAnyU P ops Q (Ext W0) tl pu (m + tp.length) (listed.setIfInBounds x.1 true) a' w') (putF fs β a) w := by
      intro x hx hb
      obtain ⟨o, ho, hg, hd, _, _⟩ := hok.fl x hx
      unfold wpOp
      simp only [ho]
      rw [if_pos (by simp [Region.wanted, hg])]
      refine .inl ?_
      unfold Oper.wp
      rw [hob x hx o ho]
      have hnp := np_set (b := w.heap.size) hx hok.n1 hb
      have hXa : Ext w (w.alloc x.2.2) := (Ext.refl w).alloc _
      have key := ih pl (listed.setIfInBounds x.1 true) lF (setB β x.1 w.heap.size) a E (w.alloc x.2.2) (by omega) (hR.float hx _) hpl htp (hX.trans hXa) hst (hst _ _ hXa hE) ?_ ?_ h
      · rw [putF_set hx hok.n1 hok.n2 hb] at key
        simp only [Oper.upon, hd]
        exact ⟨fun _ _ => hX.trans hXa, key⟩
      · intro y hy b hyb
        by_cases hxy : y.1 = x.1
        · have hyx : y = x := by
            have := hok.n1
            exact nodup_inj this hy hx hxy
          subst hyx
          simp only [setB, if_true, Option.some.injEq] at hyb
          subst hyb
          exact ⟨heap_alloc_new _ _, hX.size⟩
        · simp only [setB, hxy, if_false] at hyb
          obtain ⟨h1, h2⟩ := hbl y hy b hyb
          have hlt : b < w.heap.size := by
            rcases Nat.lt_or_ge b w.heap.size with hl | hl
            · exact hl
            · rw [Array.getElem?_eq_none hl] at h1; cases h1
          exact ⟨by rw [hXa.block hlt]; exact h1, h2⟩
      · intro y hy z hz b hyb hzb
        have hlt : ∀ u ∈ fs, β u.1 = some b → b < w.heap.size := fun u hu hub => by
          obtain ⟨h1, _⟩ := hbl u hu b hub
          rcases Nat.lt_or_ge b w.heap.size with hl | hl
          · exact hl
          · rw [Array.getElem?_eq_none hl] at h1; cases h1
        unfold setB at hyb hzb
        split at hyb
        · rename_i e1
          split at hzb
          · rename_i e2; rw [e1, e2]
          · have := hlt z hz hzb
            simp only [Option.some.injEq] at hyb
            omega
        · split at hzb
          · have := hlt y hy hyb
            simp only [Option.some.injEq] at hzb
            omega
          · exact hinj y hy z hz b hyb hzb
    have hfr : ∀ x ∈ fs, β x.1 = none → x.1 ∈ Region.ready .any ops listed := by
      intro x hx hb
      obtain ⟨o, ho, _, _, ha, _⟩ := hok.fl x hx
      refine mem_ready.2 ⟨?_, o, ho, fun e he hbi => ?_⟩
      · rw [getD_of (hR.done x hx).1, hb]; rfl
      · rw [ha e he] at hbi; cases hbi
    have hfl : ∀ x ∈ fs, x.1 ∈ Region.ready .any ops listed → β x.1 = none := by
      intro x hx hr
      have h0 := (mem_ready.1 hr).1
      rw [getD_of (hR.done x hx).1] at h0
      cases hb : β x.1 with
      | none => rfl
      | some b => rw [hb] at h0; cases h0
    have hto : ∀ j, j ∉ fs.map (·.1) → j ∈ Region.ready .any ops listed → j ∈ Region.ready .any ops lF := by
      intro j hj hr
      obtain ⟨h0, o, ho, ha⟩ := mem_ready.1 hr
      refine mem_ready.2 ⟨by rw [← getD_same (hR.main j hj)]; exact h0, o, ho, fun e he hb => ?_⟩
      have h1 := ha e he hb
      by_cases hin : e.on ∈ fs.map (·.1)
      · obtain ⟨x, hx, hxe⟩ := List.mem_map.1 hin
        rw [← hxe, getD_of (hR.done x hx).2]
      · rw [← getD_same (hR.main _ hin)]; exact h1
    have hfrom : ∀ j oj, ops[j]? = some oj → j ∉ fs.map (·.1) → tl.contains j = false → j ∈ Region.ready .any ops lF → j ∈ Region.ready .any ops listed := by
      intro j oj hoj hj ht hr
      obtain ⟨h0, o, ho, ha⟩ := mem_ready.1 hr
      obtain rfl : oj = o := by rw [hoj] at ho; exact Option.some.inj ho
      refine mem_ready.2 ⟨by rw [getD_same (hR.main j hj)]; exact h0, oj, hoj, fun e he hb => ?_⟩
      rw [getD_same (hR.main _ ((hok.main j oj hoj hj ht).1 e he hb))]
      exact ha e he hb
    match pl, hm, hpl, htp, h with
    | [], hm, hpl, htp, h =>
      have hnz : np fs β ≠ 0 := by simp at hm; omega
      obtain ⟨x0, hx0, hb0⟩ := np_pos hnz
      rw [show m + 1 + tp.length = (m + tp.length) + 1 by omega]
      refine ⟨fun h0 => (by have := hfr x0 hx0 hb0; rw [h0] at this; cases this), fun j hj => ?_⟩
      by_cases hin : j ∈ fs.map (·.1)
      · obtain ⟨x, hx, rfl⟩ := List.mem_map.1 hin
        exact hal x hx (hfl x hx hj)
      · exfalso
        obtain ⟨h0, oj, hoj, ha⟩ := mem_ready.1 hj
        rw [getD_same (hR.main j hin)] at h0
        simp only [planF, List.all_eq_true] at hpl
        have := hpl j (List.mem_range.2 (Array.getElem?_eq_some_iff.1 hoj).1)
        rw [h0, Bool.false_or] at this
        obtain ⟨e, he, hb, hon⟩ := hok.tail j oj hoj hin this x0 hx0
        have h1 := ha e he hb
        rw [hon, getD_of (hR.done x0 hx0).1, hb0] at h1
        cases h1
    | (i, 0) :: rest, hm, hpl, htp, h =>
      obtain ⟨o, v, hi, hy, h⟩ := h
      simp only [planF, Bool.and_eq_true, Bool.not_eq_true'] at hpl
      obtain ⟨⟨⟨⟨⟨h1, h2⟩, h3⟩, h3'⟩, h4⟩, h5⟩ := hpl
      have hiF : i ∉ fs.map (·.1) := by simpa using h3'
      obtain ⟨hm1, hm2⟩ := hok.main i o hi hiF h3
      have key := ih rest (listed.setIfInBounds i true) (lF.setIfInBounds i true) β (a.put o.dst v) E w (by simp at hm; omega) (hR.step hiF) h5 htp hX hst hE hbl hinj h
      rw [putF_put fun x hx => (hm2 x hx).2.1] at key
      rw [show m + 1 + tp.length = (m + tp.length) + 1 by omega]
      refine wpAnyU_first hi (Region.noSelect_spec hsel) (fun c a w => hQ c a _ _ w) _ _ _ _ ?_ ?_ (hfrom i o hi hiF h3 (by simpa using h2)) (yields_putF (Region.noSelect_spec hsel i o · · hi) hy fun x hx => (hm2 x hx).1) hX key
      · intro j oj hj hji hun hno
        by_cases hin : j ∈ fs.map (·.1)
        · obtain ⟨x, hx, rfl⟩ := List.mem_map.1 hin
          exact (hm2 x hx).2.2 oj hj
        · exact Region.free_spec hi h1 j oj hj hji (by rw [← getD_same (hR.main j hin)]; exact hun) hno
      · intro j oj hj htj hun
        have hjF : j ∉ fs.map (·.1) := fun hin => by
          obtain ⟨x, hx, rfl⟩ := List.mem_map.1 hin
          obtain ⟨_, _, _, _, _, ht⟩ := hok.fl x hx
          rw [ht] at htj; cases htj
        have h6 := List.all_eq_true.1 h4 j (by simpa using htj)
        rw [getD_same (hR.main j hjF)] at hun
        rw [hj] at h6
        simp only [hun, Bool.false_or] at h6
        obtain ⟨e, he, hb⟩ := Array.any_eq_true'.1 h6
        simp only [Bool.and_eq_true] at hb
        exact ⟨e, he, hb.1, dep_of hR _ _ hb.2⟩
    | (i, 2) :: rest, hm, hpl, htp, h =>
      obtain ⟨o, v, hi, hy, h⟩ := h
      simp only [planF, Bool.and_eq_true, Bool.not_eq_true'] at hpl
      obtain ⟨⟨⟨⟨⟨h1, h2⟩, h3⟩, h3'⟩, h4⟩, h5⟩ := hpl
      have hiF : i ∉ fs.map (·.1) := by simpa using h3'
      obtain ⟨hm1, hm2⟩ := hok.main i o hi hiF h3
      have key := ih rest (listed.setIfInBounds i true) (lF.setIfInBounds i true) β (a.put o.dst v) E w (by simp at hm; omega) (hR.step hiF) h5 htp hX hst hE hbl hinj h
      rw [putF_put fun x hx => (hm2 x hx).2.1] at key
      rw [show m + 1 + tp.length = (m + tp.length) + 1 by omega]
      refine wpAnyU_pure hi (Region.noSelect_spec hsel) h4 (fun c a w => hQ c a _ _ w) _ _ _ _ ?_ (hfrom i o hi hiF h3 (by simpa using h2)) (yields_putF (Region.noSelect_spec hsel i o · · hi) hy fun x hx => (hm2 x hx).1) key
      intro j oj hj hji hun hno
      by_cases hin : j ∈ fs.map (·.1)
      · obtain ⟨x, hx, rfl⟩ := List.mem_map.1 hin
        exact (hm2 x hx).2.2 oj hj
      · exact Region.free_spec hi h1 j oj hj hji (by rw [← getD_same (hR.main j hin)]; exact hun) hno
    | (i, 1) :: rest, hm, hpl, htp, h | (i, k + 3) :: rest, hm, hpl, htp, h =>
      simp only [planF, Bool.and_eq_true, Bool.not_eq_true', beq_iff_eq] at hpl
      obtain ⟨⟨⟨⟨h1, h2⟩, h3⟩, h4⟩, h5⟩ := hpl
      have hiF : i ∉ fs.map (·.1) := by simpa using h3
      have hir : i ∈ Region.ready .any ops lF := by rw [h1]; simp
      obtain ⟨_, o, hi, _⟩ := mem_ready.1 hir
      rw [show m + 1 + tp.length = (m + tp.length) + 1 by omega]
      refine ⟨fun h0 => (by have := hfrom i o hi hiF h2 hir; rw [h0] at this; cases this), fun j hj => ?_⟩
      by_cases hin : j ∈ fs.map (·.1)
      · obtain ⟨x, hx, rfl⟩ := List.mem_map.1 hin
        exact hal x hx (hfl x hx hj)
      · have hjr := hto j hin hj
        rw [h1] at hjr
        obtain rfl : j = i := by simpa using hjr
        obtain ⟨_, hm2⟩ := hok.main j o hi hiF h2
        refine wpOp_mono ?_ (wpOp_putF (β := β) hi (Region.noSelect_spec hsel j o · · hi) hQ' (h w hX hE) (fs := fs) fun x hx => ⟨(hm2 x hx).1, (hm2 x hx).2.1⟩)
        rintro a' w' ⟨a'', rfl, hXw, E', hst', hE', hk⟩
        refine ⟨fun _ _ => hX.trans hXw, ih rest (listed.setIfInBounds j true) (lF.setIfInBounds j true) β a'' E' w' (by simp at hm; omega) (hR.step hiF) h5 htp (hX.trans hXw) hst' hE' ?_ hinj hk⟩
        intro y hy b hyb
        obtain ⟨g1, g2⟩ := hbl y hy b hyb
        have hlt : b < w.heap.size := by
          rcases Nat.lt_or_ge b w.heap.size with hl | hl
          · exact hl
          · rw [Array.getElem?_eq_none hl] at g1; cases g1
        exact ⟨by rw [hXw.block hlt]; exact g1, g2⟩
/-- **The region, by a plan, with new variables at any time.** -/
theorem wp_float {id : Nat} {a : Act} {w : World} (fs : List FL) (pl : List (Nat × Nat)) (tp tl pu : List Nat) (hm : P.follows .mixedOrders = true) (hsel : Region.noSelect ops = true)
    (hok : (floatsOk ops fs tl && planF ops (fs.map (·.1)) tl pu (fs.foldl (fun l x => l.setIfInBounds x.1 true) (Array.replicate ops.size false)) pl && tailOk ops tl (listAll (fs.foldl (fun l x => l.setIfInBounds x.1 true) (Array.replicate ops.size false)) pl) tp && pl.length + fs.length + tp.length == ops.size) = true)
    (hQ : ∀ c a d v w, Q (.panic c) (a.put d v) w → Q (.panic c) a w) (hQ' : ∀ c a d v w, Q (.panic c) a w → Q (.panic c) (a.put d v) w)
    (hob : ∀ x ∈ fs, ∀ o, ops[x.1]? = some o → ∀ (a : Act) (w : World), (execOp a.eval o).run P w = .ok (.value (ptrB w.heap.size)) (w.alloc x.2.2))
    (h : wpFp P ops Q w.drew fs tp pl a (fun _ => True)) : (Code.region id ops true).wp P Q a w := by
  simp only [Bool.and_eq_true, beq_iff_eq] at hok
  obtain ⟨⟨⟨h1, h2⟩, h3⟩, h4⟩ := hok
  have hF := FOk.of h1
  refine wp_region_any hm (wpAny_of_U (S := Ext w.drew) (tl := tl) (pu := pu) _ _ _ _ ?_)
  have hnone : ∀ (fs' : List FL), np fs' (fun _ => none) = fs'.length := fun fs' => by
    unfold np; rw [List.countP_eq_length.2]; intro x hx; rfl
  have hput : ∀ (fs' : List FL) (a : Act), putF fs' (fun _ => none) a = a := fun fs' a => by
    induction fs' with
    | nil => rfl
    | cons x fs' ih => unfold putF; exact ih
  have hlF : ∀ (fs' : List FL) (l : Array Bool), l.size = ops.size → (∀ x ∈ fs', x.1 < ops.size) → (fs'.foldl (fun l x => l.setIfInBounds x.1 true) l).size = ops.size ∧ (∀ j : Nat, j ∉ fs'.map (·.1) → (fs'.foldl (fun l x => l.setIfInBounds x.1 true) l)[j]? = l[j]?) ∧
      (∀ x ∈ fs', (fs'.foldl (fun l x => l.setIfInBounds x.1 true) l)[x.1]? = some true) ∧ (∀ j : Nat, l[j]? = some true → (fs'.foldl (fun l x => l.setIfInBounds x.1 true) l)[j]? = some true) := by
    intro fs'
    induction fs' with
    | nil => intro l hl _; exact ⟨hl, fun _ _ => rfl, fun x hx => (by cases hx), fun _ h => h⟩
    | cons y fs' ih =>
      intro l hl hlt
      obtain ⟨i1, i2, i3, i4⟩ := ih (l.setIfInBounds y.1 true) (by simp [hl]) (fun x hx => hlt x (by simp [hx]))
      have hy : (l.setIfInBounds y.1 true)[y.1]? = some true := by
        have := hlt y (by simp)
        simp [hl, this]
      refine ⟨i1, fun j hj => ?_, fun x hx => ?_, fun j hj => ?_⟩
      · simp only [List.map_cons, List.mem_cons, not_or] at hj
        rw [List.foldl_cons, i2 j hj.2, Array.getElem?_setIfInBounds_ne (fun e => hj.1 e.symm)]
      · rcases List.mem_cons.1 hx with rfl | hx'
        · exact i4 _ hy
        · exact i3 x hx'
      · refine i4 j ?_
        by_cases e : y.1 = j
        · rw [← e]; exact hy
        · rw [Array.getElem?_setIfInBounds_ne e]; exact hj
  obtain ⟨l1, l2, l3, _⟩ := hlF fs (Array.replicate ops.size false) (by simp) (fun x hx => by
    obtain ⟨o, ho, _⟩ := hF.fl x hx
    exact (Array.getElem?_eq_some_iff.1 ho).1)
  have key := wpFp_sound (P := P) (Q := Q) (W0 := w.drew) (tp := tp) (pu := pu) hF hsel hQ hQ' hob (pl.length + fs.length) pl (Array.replicate ops.size false) _ (fun _ => none) a (fun _ => True) w.drew (by rw [hnone]) ⟨by rw [l1]; simp, fun j hj => (l2 j hj).symm, fun x hx => ⟨?_, l3 x hx⟩⟩ h2 h3 (Ext.refl _) (fun _ _ _ _ => trivial) trivial (fun x _ b hb => by cases hb) (fun x _ y _ b hb => by cases hb) h
  · rw [hput, h4] at key
    exact key
  · obtain ⟨o, ho, _⟩ := hF.fl x hx
    have := (Array.getElem?_eq_some_iff.1 ho).1
    simp [this]
variable {W0 : World} {fs : List FL} {tp : List Nat} {a : Act} {E : World → Prop} {i : Nat} {rest : List (Nat × Nat)} {o : Oper}
theorem wpFp_read {v : Value} (hi : ops.toList[i]? = some o) (hw : Region.wanted o (yielded ops a.tmps) = true) (h : ∀ w, Ext W0 w → (execOp a.eval o).run P w = .ok (.value v) w) (k : wpFp P ops Q W0 fs tp rest (a.put o.dst v) E) :
    wpFp P ops Q W0 fs tp ((i, 0) :: rest) a E := ⟨o, v, by simpa using hi, .inl ⟨hw, h⟩, k⟩
theorem wpFp_pure {v : Value} (hi : ops.toList[i]? = some o) (hw : Region.wanted o (yielded ops a.tmps) = true) (h : ∀ w, (execOp a.eval o).run P w = .ok (.value v) w) (k : wpFp P ops Q W0 fs tp rest (a.put o.dst v) E) :
    wpFp P ops Q W0 fs tp ((i, 2) :: rest) a E := ⟨o, v, by simpa using hi, .inl ⟨hw, fun w _ => h w⟩, k⟩
theorem wpFp_eff (hi : ops.toList[i]? = some o) (hw : Region.wanted o (yielded ops a.tmps) = true)
    (h : ∀ w, Ext W0 w → E w → ∀ K : Act → World → Prop, (∀ a' w' (E' : World → Prop), Ext w w' → (∀ w1 w2, Ext w1 w2 → E' w1 → E' w2) → E' w' → wpFp P ops Q W0 fs tp rest a' E' → K a' w') → o.wp P a w K Q) :
    wpFp P ops Q W0 fs tp ((i, 1) :: rest) a E := by
  have hi' : ops[i]? = some o := by simpa using hi
  intro w hX hE
  unfold wpOp
  simp only [hi', hw, if_true]
  exact .inl (h w hX hE _ fun a' w' E' h1 h2 h3 h4 => ⟨h1, E', h2, h3, h4⟩)
/-- One new variable: the world behind the others. -/
theorem wpFp_one {i t : Nat} {ob : Obj} (h : ∀ os1 d1 os2 d2, E (more ((more W0 os1 d1).alloc ob) os2 d2) → wpTl P ops Q tp (a.put (some t) (.pointer (some ⟨W0.heap.size + os1.size, 0, none⟩))) (more ((more W0 os1 d1).alloc ob) os2 d2)) :
    wpFp P ops Q W0 [(i, t, ob)] tp [] a E := by
  intro β w hX hE hb _
  obtain ⟨b, hb1, hb2, hb3⟩ := hb _ (List.mem_singleton.2 rfl)
  obtain ⟨os, d, rfl⟩ := hX.more
  obtain ⟨k, rfl⟩ : ∃ k, b = W0.heap.size + k := ⟨b - W0.heap.size, by omega⟩
  have hk : os[k]? = some ob := by
    have : (W0.heap ++ os)[W0.heap.size + k]? = some ob := hb2
    rw [Array.getElem?_append_right (by omega)] at this
    simpa using this
  have hklt : k < os.size := (Array.getElem?_eq_some_iff.1 hk).1
  have hos : os = (os.extract 0 k).push ob ++ os.extract (k + 1) os.size := by
    apply Array.ext_getElem?
    intro j
    have hs : (os.extract 0 k).size = k := by simp; omega
    rcases Nat.lt_trichotomy j k with hj | rfl | hj
    · rw [Array.getElem?_append_left (by simp; omega), Array.getElem?_push, if_neg (by omega), Array.getElem?_extract]
      simp
      omega
    · rw [Array.getElem?_append_left (by simp; omega), Array.getElem?_push, if_pos (by omega)]; exact hk
    · rw [Array.getElem?_append_right (by simp; omega), Array.getElem?_extract]
      by_cases h2 : j < os.size
      · rw [if_pos (by simp; omega)]
        congr 1
        simp
        omega
      · rw [if_neg (by simp; omega), Array.getElem?_eq_none (by omega)]
  have hw : more W0 os d = more ((more W0 (os.extract 0 k) d).alloc ob) (os.extract (k + 1) os.size) d := by
    simp only [more, World.alloc]
    congr 1
    conv => lhs; rw [hos]
    simp
  have hsz : (os.extract 0 k).size = k := by simp; omega
  have := h (os.extract 0 k) d (os.extract (k + 1) os.size) d (by rw [← hw]; exact hE)
  rw [← hw, hsz] at this
  have hp : putF [(i, t, ob)] β a = a.put (some t) (ptrB (W0.heap.size + k)) := by
    unfold putF
    rw [hb1]
    rfl
  rw [hp]
  exact this
end
end Go.Proofs.YtlfbdodokldkhaaGreatDoor
namespace Go.Proofs.YtlfbdodokldkhaaGreatDoor
open Go.RowKit NM
theorem z64 : I64 0 := by unfold I64; omega
end Go.Proofs.YtlfbdodokldkhaaGreatDoor
namespace Go.Proofs.YtlfbdodokldkhaaGreatDoor
open Go.RowKit NM
abbrev tnV (x : Val) : Value := .tuple #[NV (tnP x).1 (tnP x).2, .int .i64 (tnF x)]
theorem tn_blank : tnV (Val.only 0) = .tuple #[NV 0 0, .int .i64 0] := rfl
theorem tn_num (m e : Int) : tnV ⟨1, m, e, ⟨#[]⟩, false, 0⟩ = .tuple #[NV m e, .int .i64 0] := rfl
theorem tn_true : tnV (truthV true) = .tuple #[NV 1 0, .int .i64 0] := rfl
theorem tn_false : tnV (truthV false) = .tuple #[NV 0 0, .int .i64 0] := rfl
theorem tn_bad (f : Int) : tnV (badV f) = .tuple #[NV 0 0, .int .i64 f] := rfl
theorem tn_text_no {t : ByteArray} (h : parS t = none) : tnV ⟨2, 0, 0, t, false, 0⟩ = .tuple #[NV 0 0, .int .i64 2] := by unfold tnV tnP tnF; simp [h]
theorem tn_text_yes {t : ByteArray} {p : Int × Int} (h : parS t = some p) : tnV ⟨2, 0, 0, t, false, 0⟩ = .tuple #[NV p.1 p.2, .int .i64 0] := by unfold tnV tnP tnF; simp [h]
set_option maxHeartbeats 1000000 in
theorem toNum_any (x : Val) (w : World) (hx : x.right) :
    Calls Tryz.prog 106 #[VV x.kind x.mant x.exp x.text x.truth x.fault] w fun e w' => e = .returned (tnV x) ∧ Ext w w' := by
  rcases hx.form with rfl | ⟨m, e, rfl, hr⟩ | ⟨t, rfl, ht⟩ | ⟨b, rfl⟩ | ⟨f, rfl, hf⟩
  · rw [tn_blank]
    simp only [Val.only]
    go_enter Tryz.func106, Tryz.ntmps106
    go_wp2_with fail
    exact bodyPost_ret (v := .tuple #[NV 0 0, .int .i64 0]) (by simp [results, Tryz.results106, go_sem]) rfl ⟨rfl, by with_reducible repeat (first | exact Ext.refl _ | apply Ext.drew | apply Ext.alloc | apply Ext.more_)⟩
  · rw [tn_num]
    clear hx hr
    simp only
    go_enter Tryz.func106, Tryz.ntmps106
    go_wp2_with fail
    exact bodyPost_ret (v := .tuple #[NV m e, .int .i64 0]) (by simp [results, Tryz.results106, go_sem]) rfl ⟨rfl, by with_reducible repeat (first | exact Ext.refl _ | apply Ext.drew | apply Ext.alloc | apply Ext.more_)⟩
  · have hp := fun W => parse_any t W (by omega)
    simp only
    cases h : parS t with
    | none =>
      rw [tn_text_no h]
      rw [h] at hp
      simp only [rnV, rm, re, Option.getD_none, Option.isSome_none] at hp
      clear h hx
      go_enter Tryz.func106, Tryz.ntmps106
      go_wp2_with (go_at_call 141; (with_reducible refine (hp _).mono ?_); rintro e w' ⟨rfl, hb⟩; obtain ⟨os, d, rfl⟩ := hb.more; clear hb)
      exact bodyPost_ret (v := .tuple #[NV 0 0, .int .i64 2]) (by simp [results, Tryz.results106, go_sem]) rfl ⟨rfl, by with_reducible repeat (first | exact Ext.refl _ | apply Ext.drew | apply Ext.alloc | apply Ext.more_)⟩
    | some p =>
      rw [tn_text_yes h]
      rw [h] at hp
      simp only [rnV, rm, re, Option.getD_some, Option.isSome_some] at hp
      clear h hx
      go_enter Tryz.func106, Tryz.ntmps106
      go_wp2_with (go_at_call 141; (with_reducible refine (hp _).mono ?_); rintro e w' ⟨rfl, hb⟩; obtain ⟨os, d, rfl⟩ := hb.more; clear hb)
      exact bodyPost_ret (v := .tuple #[NV p.1 p.2, .int .i64 0]) (by simp [results, Tryz.results106, go_sem]) rfl ⟨rfl, by with_reducible repeat (first | exact Ext.refl _ | apply Ext.drew | apply Ext.alloc | apply Ext.more_)⟩
  · cases b
    · rw [tn_false]
      simp only [truthV]
      clear hx
      go_enter Tryz.func106, Tryz.ntmps106
      go_wp2_with fail
      exact bodyPost_ret (v := .tuple #[NV 0 0, .int .i64 0]) (by simp [results, Tryz.results106, go_sem]) rfl ⟨rfl, by with_reducible repeat (first | exact Ext.refl _ | apply Ext.drew | apply Ext.alloc | apply Ext.more_)⟩
    · rw [tn_true]
      simp only [truthV]
      clear hx
      go_enter Tryz.func106, Tryz.ntmps106
      go_wp2_with fail
      exact bodyPost_ret (v := .tuple #[NV 1 0, .int .i64 0]) (by simp [results, Tryz.results106, go_sem]) rfl ⟨rfl, by with_reducible repeat (first | exact Ext.refl _ | apply Ext.drew | apply Ext.alloc | apply Ext.more_)⟩
  · rw [tn_bad]
    simp only [badV]
    clear hx hf
    go_enter Tryz.func106, Tryz.ntmps106
    go_upto_region 13 with fail
    go_region
    all_goals
      go_wp2_with fail
      exact bodyPost_ret (v := .tuple #[NV 0 0, .int .i64 f]) (by simp [results, Tryz.results106, go_sem]) rfl ⟨rfl, by with_reducible repeat (first | exact Ext.refl _ | apply Ext.drew | apply Ext.alloc | apply Ext.more_)⟩
end Go.Proofs.YtlfbdodokldkhaaGreatDoor
namespace Go.Proofs.YtlfbdodokldkhaaGreatDoor
open Go.RowKit NM
/-- A number of at most 15 digits is what it is. -/
theorem exactx {x e : Int} (hx : x.natAbs < T 15) (h1 : -40 ≤ e) (h2 : e ≤ 25) : ∃ m k, rndI x e = some (m, k) ∧ Rt m k ∧ sc m k = sc x e ∧ (m = 0 ↔ x = 0) ∧ (x ≠ 0 → e ≤ k) := by
  have hn : nd x.natAbs ≤ 15 := (nd_le_iff _ _).2 hx
  have hz : nd x.natAbs - 15 = 0 := by omega
  by_cases h0 : x = 0
  · subst h0
    refine ⟨0, 0, ?_, rt_zero, ?_, ⟨fun _ => rfl, fun _ => rfl⟩, fun h => absurd rfl h⟩
    · unfold rndI; exact rnd_nought _ _ _
    · unfold sc; rw [Int.zero_mul, Int.zero_mul]
  · have hN : x.natAbs ≠ 0 := by omega
    have e1 : n1 x.natAbs false = x.natAbs := by unfold n1; rw [hz, cutN_zero]
    have e2' : n2 x.natAbs false e = x.natAbs := by
      unfold n2; rw [e1, hz, show (-40 - (e + ((0 : Nat) : Int))).toNat = 0 by omega, cutN_zero]
    have e3 : NM.e2 x.natAbs e = e := by unfold NM.e2; rw [hz]; omega
    have hr : rndI x e = some (sg (decide (x < 0)) (trim x.natAbs e).1, (trim x.natAbs e).2) := by
      unfold rndI
      rw [rnd_fin, e2', e3]
      unfold fin
      rw [if_neg hN, if_neg (by omega)]
    obtain ⟨k, g1, g2, g3⟩ := trim_spec x.natAbs e hN
    have g4 : (trim x.natAbs e).1 ≠ 0 := fun h => g3 (by rw [h])
    refine ⟨_, _, hr, ?_, ?_, ⟨fun h => absurd (sg_zero.1 h) g4, fun h => absurd h h0⟩, fun _ => by rw [g2]; omega⟩
    · have := hr; unfold rndI at this; exact rnd_right this
    · have g5 := sc_trim (N := x.natAbs) (e := e) hN (by omega)
      unfold sc
      rw [← sg_mul_nat, g5, sg_mul_nat, sg_nat]
/-- The number of a whole number. -/
def wholeN (n : Int) : Int × Int := (rndI n 0).getD (0, 0)
theorem wholex {n : Int} (h : n.natAbs < T 15) : rndI n 0 = some (wholeN n) ∧ Rt (wholeN n).1 (wholeN n).2 ∧ sc (wholeN n).1 (wholeN n).2 = sc n 0 ∧ ((wholeN n).1 = 0 ↔ n = 0) ∧ 0 ≤ (wholeN n).2 := by
  obtain ⟨m, k, h1, h2, h3, h4, h5⟩ := exactx h (e := 0) (by omega) (by omega)
  have hw : wholeN n = (m, k) := by unfold wholeN; rw [h1]; rfl
  rw [hw]
  refine ⟨h1, h2, h3, h4, ?_⟩
  by_cases h0 : n = 0
  · have hm := h4.2 h0
    rcases h2 with ⟨_, hk⟩ | ⟨hm', _⟩
    · show 0 ≤ k; omega
    · exact absurd hm hm'
  · exact h5 h0
end Go.Proofs.YtlfbdodokldkhaaGreatDoor
namespace Go.Proofs.YtlfbdodokldkhaaGreatDoor
open NM
/-- 10 to the power 140: what no right number reaches, scaled. -/
def MX : Nat := T 140
/-- A value without its sign, scaled, to the nearest of so many, a half up; but beyond the greatest one itself. -/
def GU (U x : Nat) : Nat := (if U ≤ 2 * (x % U) then x / U + 1 else x / U) * U
def HU (U x : Nat) : Nat := if GU U x < MX then GU U x else x
/-- The same with a sign. -/
def HI (U : Nat) (x : Int) : Int := if x < 0 then -(HU U x.natAbs : Int) else HU U x.natAbs
theorem sc_sg (neg : Bool) (N : Nat) (e : Int) : sc (sg neg N) e = sg neg (N * T (e + 100).toNat) := by unfold sc; rw [sg_mul_nat]
theorem sg_nought (b : Bool) : sg b 0 = 0 := by cases b <;> rfl
end Go.Proofs.YtlfbdodokldkhaaGreatDoor
namespace Go.Proofs.YtlfbdodokldkhaaGreatDoor
open Go.RowKit NM
theorem fin_whole {neg : Bool} {N : Nat} (h : nd N ≤ 15) : rnd neg N false 0 = some (sg neg (trim N 0).1, (trim N 0).2) := by
  rw [rnd_small h (by omega)]
  unfold fin
  by_cases h0 : N = 0
  · subst h0; rw [if_pos rfl, trim_zero]; cases neg <;> rfl
  · rw [if_neg h0, if_neg (by omega)]
theorem floorN_nd {m e : Int} {k : Nat} (h : Rt m e) (hk : 0 < k) : nd (floorN m k) ≤ 15 := by
  obtain ⟨b1, _, _⟩ := Rt_bd h
  have hT15 : T 15 = 1000000000000000 := by decide
  have h1 : m.natAbs / T k ≤ m.natAbs / T 1 := Nat.div_le_div_left (T_mono hk) (T_pos 1)
  have h2 : T 1 = 10 := by decide
  rw [h2] at h1
  rw [nd_le_iff]
  unfold floorN
  split <;> omega
end Go.Proofs.YtlfbdodokldkhaaGreatDoor
namespace Go.Proofs.YtlfbdodokldkhaaGreatDoor
open Go.RowKit NM
/-- 10 to the power 100, as a word. -/
def HX : Int := ((T 100 : Nat) : Int)
theorem HX_pos : 0 < HX := by have := T_pos 100; unfold HX; omega
theorem whole_sc {neg : Bool} {N : Nat} (h : nd N ≤ 15) : Rt (sg neg (trim N 0).1) (trim N 0).2 ∧ sc (sg neg (trim N 0).1) (trim N 0).2 = sg neg N * HX ∧ 0 ≤ (trim N 0).2 := by
  have h1 := fin_whole (neg := neg) h
  refine ⟨rnd_right h1, ?_, ?_⟩
  · rw [sc_sg]
    by_cases h0 : N = 0
    · rw [h0, trim_zero, Nat.zero_mul, sg_nought, Int.zero_mul]
    · rw [sc_trim h0 (by omega), sg_mul_nat]; rfl
  · by_cases h0 : N = 0
    · rw [h0, trim_zero]; exact Int.le_refl _
    · obtain ⟨k, _, hb, _⟩ := trim_spec N 0 h0
      rw [hb]; omega
theorem floor_spec {m e : Int} (h : Rt m e) : Rt (floorS m e).1 (floorS m e).2 ∧ 0 ≤ (floorS m e).2 ∧ sc (floorS m e).1 (floorS m e).2 ≤ sc m e ∧ sc m e < sc (floorS m e).1 (floorS m e).2 + HX := by
  have hH := HX_pos
  unfold floorS
  rw [if_neg (by simpa using h)]
  by_cases h0 : 0 ≤ e
  · rw [if_pos h0]; exact ⟨h, h0, Int.le_refl _, by show sc m e < sc m e + HX; omega⟩
  · rw [if_neg h0]
    obtain ⟨b1, b2, b3⟩ := Rt_bd h
    obtain ⟨k, hk⟩ : ∃ k : Nat, -e = (k : Int) := ⟨(-e).toNat, by omega⟩
    rw [hk, Int.toNat_natCast]
    have hk0 : 0 < k := by omega
    have hk100 : k ≤ 100 := by omega
    obtain ⟨w1, w2, w3⟩ := whole_sc (neg := decide (m < 0)) (floorN_nd h hk0)
    refine ⟨w1, w3, ?_⟩
    show sc (sg (decide (m < 0)) (trim (floorN m k) 0).1) (trim (floorN m k) 0).2 ≤ sc m e ∧ sc m e < sc (sg (decide (m < 0)) (trim (floorN m k) 0).1) (trim (floorN m k) 0).2 + HX
    rw [w2]
    have hdm := Nat.div_add_mod m.natAbs (T k)
    have hml := Nat.mod_lt m.natAbs (T_pos k)
    have hsc : sc m e = m * ((T (100 - k) : Nat) : Int) := by unfold sc; congr 3; omega
    have hHX : HX = ((T k : Nat) : Int) * ((T (100 - k) : Nat) : Int) := by unfold HX; rw [← T_cast_mul]; congr 2; omega
    have hr0 : m < 0 → m.natAbs % T k ≠ 0 := by
      intro hm
      rcases h with ⟨h1, _⟩ | ⟨_, _, h3, _, _⟩
      · omega
      · exact mod_T_ne h3 hk0
    have ht := T_pos (100 - k)
    unfold floorN
    rw [hsc, hHX]
    generalize T (100 - k) = t at *
    generalize m.natAbs / T k = q at *
    generalize m.natAbs % T k = r at *
    generalize T k = u at *
    have htI : (0 : Int) < (t : Int) := by omega
    have hrt : (r : Int) * (t : Int) < (u : Int) * (t : Int) := Int.mul_lt_mul_of_pos_right (by omega) htI
    have hrp : 0 ≤ (r : Int) * (t : Int) := Int.mul_nonneg (by omega) (by omega)
    by_cases hm : m < 0
    · have hmr : m = -((u : Int) * (q : Int) + (r : Int)) := by rw [← Int.natCast_mul]; omega
      have hr1 : 0 < (r : Int) * (t : Int) := Int.mul_pos (by have := hr0 hm; omega) htI
      rw [if_pos hm, decide_eq_true hm]
      have e1 : sg true (q + 1) * ((u : Int) * (t : Int)) = -((q : Int) * ((u : Int) * (t : Int))) - (u : Int) * (t : Int) := by
        simp only [sg, if_true]; rw [Int.neg_mul, Int.natCast_add, Int.add_mul]; simp; omega
      have e2 : m * (t : Int) = -((q : Int) * ((u : Int) * (t : Int))) - (r : Int) * (t : Int) := by
        rw [hmr, Int.neg_mul, Int.add_mul, Int.mul_comm (u : Int) (q : Int), Int.mul_assoc]; omega
      rw [e1, e2]
      omega
    · have hmr : m = (u : Int) * (q : Int) + (r : Int) := by rw [← Int.natCast_mul]; omega
      rw [if_neg hm, show decide (m < 0) = false by simp [hm]]
      have e1 : sg false q * ((u : Int) * (t : Int)) = (q : Int) * ((u : Int) * (t : Int)) := by simp [sg]
      have e2 : m * (t : Int) = (q : Int) * ((u : Int) * (t : Int)) + (r : Int) * (t : Int) := by
        rw [hmr, Int.add_mul, Int.mul_comm (u : Int) (q : Int), Int.mul_assoc]
      rw [e1, e2]
      omega
theorem int_go : ∀ (k : Nat) (n : Int), (n * (T k : Nat)).natAbs ≤ 1000000000000000 → intGo n k = some (n * (T k : Nat))
  | 0, n, _ => by simp [intGo, T]
  | k + 1, n, h => by
    have h1 : n * ((T (k + 1) : Nat) : Int) = n * 10 * ((T k : Nat) : Int) := by rw [T_succ, Int.natCast_mul, ← Int.mul_assoc]; rfl
    rw [h1] at h ⊢
    have h2 : n.natAbs * 10 ≤ 1000000000000000 := by
      have h3 : (n * 10 * ((T k : Nat) : Int)).natAbs = n.natAbs * 10 * T k := by rw [Int.natAbs_mul, Int.natAbs_mul, Int.natAbs_natCast]; rfl
      rw [h3] at h
      exact Nat.le_trans (Nat.le_mul_of_pos_right _ (T_pos k)) h
    rw [intGo, if_neg (by omega)]
    exact int_go k (n * 10) h
theorem sc_whole {m e : Int} (h : 0 ≤ e) : sc m e = m * (T e.toNat : Nat) * HX := by
  unfold sc HX
  rw [Int.mul_assoc, ← T_cast_mul]; congr 3; omega
end Go.Proofs.YtlfbdodokldkhaaGreatDoor
namespace Go.Proofs.YtlfbdodokldkhaaGreatDoor
open Go.RowKit NM
theorem rt_i64 {m e : Int} (h : Rt m e) : I64 m := by
  obtain ⟨h1, h2, h3⟩ := Rt_bd h
  unfold I64; omega
def cntV (n : Int) : Val := ⟨1, (wholeN n).1, (wholeN n).2, ⟨#[]⟩, false, 0⟩
/-- A value's whole number, and a fault. -/
def wholeO (v : Val) : Int × Int := if tnF v = 0 then ((intS (floorS (tnP v).1 (tnP v).2).1 (floorS (tnP v).1 (tnP v).2).2).getD 0, if (intS (floorS (tnP v).1 (tnP v).2).1 (floorS (tnP v).1 (tnP v).2).2).isSome then 0 else 5) else (0, tnF v)
end Go.Proofs.YtlfbdodokldkhaaGreatDoor
namespace Go.Proofs.YtlfbdodokldkhaaGreatDoor
open Go.RowKit
theorem orNone_in {R C : Nat} {l : List Val} {i j : Nat} (hi : i < R) (hj : j < C) : orNoneV R C l i j = getV l (i * C + j) := by
  have : hasB R C i j = true := hasB_iff.2 ⟨by omega, by omega, by omega, by omega⟩
  simp [orNoneV, this]
theorem orNone_eq (R C : Nat) (l : List Val) (i j : Nat) : orNoneV R C l i j = if i < R ∧ j < C then getV l (i * C + j) else badV 6 := by
  split
  · rename_i h; exact orNone_in h.1 h.2
  · rename_i h; exact orNone_out (hasB_no (by omega))
theorem turn_at (R C : Nat) (l : List Val) {i j : Nat} (hi : i < C) (hj : j < R) : getV (turnL R C l) (i * R + j) = getV l (j * C + i) := getV_vals _ hi hj
theorem orNone_turn (R C : Nat) (l : List Val) (i j : Nat) : orNoneV C R (turnL R C l) i j = orNoneV R C l j i := by
  rw [orNone_eq, orNone_eq]
  by_cases h : i < C ∧ j < R
  · rw [if_pos h, if_pos ⟨h.2, h.1⟩, turn_at R C l h.1 h.2]
  · rw [if_neg h, if_neg (fun k => h ⟨k.2, k.1⟩)]
theorem turnL_length (R C : Nat) (l : List Val) : (turnL R C l).length = C * R := vals_length _ _ _
theorem besideL_length (R C : Nat) (l : List Val) (R' C' : Nat) (l' : List Val) : (besideL R C l R' C' l').length = max R R' * (C + C') := vals_length _ _ _
theorem beside_get (R C : Nat) (l : List Val) (R' C' : Nat) (l' : List Val) {i j : Nat} (hi : i < max R R') (hj : j < C + C') :
    getV (besideL R C l R' C' l') (i * (C + C') + j) = if j < C then orNoneV R C l i j else orNoneV R' C' l' i ((j : Int) - (C : Int)) := by
  rw [besideL, getV_vals _ hi hj]
theorem getV_all {P : Val → Prop} {l : List Val} {k : Nat} (h : ∀ x ∈ l, P x) (hk : k < l.length) : P (getV l k) := h _ (getV_mem hk)
theorem turn_all {P : Val → Prop} {R C : Nat} {l : List Val} (hl : l.length = R * C) (h : ∀ x ∈ l, P x) : ∀ x ∈ turnL R C l, P x := by
  intro x hx
  unfold turnL vals at hx
  obtain ⟨t, ht, rfl⟩ := List.mem_map.1 hx
  have ht' : t < C * R := List.mem_range.1 ht
  have hR : 0 < R := by rcases Nat.eq_zero_or_pos R with rfl | h; · simp at ht'
                        · exact h
  refine getV_all h ?_
  rw [hl]
  have h1 : t / R < C := Nat.div_lt_of_lt_mul (by rw [Nat.mul_comm]; exact ht')
  have h2 : t % R < R := Nat.mod_lt _ hR
  calc t % R * C + t / R < t % R * C + C := by omega
    _ = (t % R + 1) * C := by rw [Nat.succ_mul]
    _ ≤ R * C := Nat.mul_le_mul_right _ h2
theorem turn_right {R C : Nat} {l : List Val} (h : rightA R C l = true) : rightA C R (turnL R C l) = true := by
  obtain ⟨a1, a2, a3, a4, a5⟩ := rightA_nat.1 h
  exact rightA_nat.2 ⟨a2, a1, by rw [Nat.mul_comm]; exact a3, turnL_length _ _ _, turn_all a4 a5⟩
end Go.Proofs.YtlfbdodokldkhaaGreatDoor
namespace Go.Proofs.YtlfbdodokldkhaaGreatDoor
open Go.RowKit
theorem wp_append_own {P : Program} (w : World) {o : Oper} {a : Act} {K : Act → World → Prop} {Q : Exit → Act → World → Prop} (s x : Operand) (t : TypeId)
    (ho : o.op = .call { callee := .builtin .append, args := #[s, x], argTypes := #[t, t] })
    (base : Nat) (e : TypeId) (i : TypeInfo) (z : Value) (size bytes : Nat) (ht : P.underlying t = some (.slice e)) (hi : P.info? e = some i) (hz : i.zero = some z)
    (hsize : i.size = size) (hby : i.bytes = bytes) (hzs : z.cells.size = size) (hsz : 0 < size)
    (v : Value) (n : Nat) (xs : List Value) (hs : a.eval s = v) (hown : w.ownsRow base e size v n xs)
    (ad : Addr) (m c : Nat) (news : List Value) (hx : a.eval x = .slice (some ad) m c) (hl : news.length = m * size) (hnews : ∀ j u, news[j]? = some u → w.cell? (ad.add j) = some u) (h1 : ∀ u ∈ news, u.oneCell' = true)
    (b1 : n + m ≤ maxLen) (b2 : (n + m) * bytes ≤ 140737488355328) (hbase : base ≤ w.heap.size)
    (h : ∀ v' w', w'.ownsRow base e size v' (n + m) (xs ++ news) → w.grownBy w' v.ownBlock → K (a.put o.dst v') w') : o.wp P a w K Q := by
  obtain ⟨v', w', hr, h2, h3, _⟩ := run_append_own (P := P) w base t o.type e i z size bytes ht hi hz hsize hby hzs hsz v n xs hown ad m c news hl hnews h1 b1 b2 hbase
  unfold Oper.wp execOp
  simp only [ho, resolve, invoke, builtin, Sem.run_bind, Sem.run_pure, Result.andThen_ok, List.map_toArray, List.map_cons, List.map_nil, hs, hx, hr]
  exact h v' w' h2 h3
theorem new_cells_at (w : World) (n : Nat) (cs : List Value) {C : Array Value} (hn : n = w.heap.size) (hC : C = cs.toArray) (ty : TypeId) : ∀ j u, cs[j]? = some u → (w.alloc (.cells C ty)).cell? ((⟨n, 0, none⟩ : Addr).add j) = some u := by
  subst hn hC; exact new_cells w cs ty
theorem own_slice {w : World} {base : Nat} {e : TypeId} {size n : Nat} {v : Value} {xs : List Value} (h : w.ownsRow base e size v n xs) : ∃ A c, v = .slice A n c := by
  rcases h.2 with ⟨rfl, rfl⟩ | ⟨g, cap, cur, rfl, _⟩
  · exact ⟨_, _, rfl⟩
  · exact ⟨_, _, rfl⟩
theorem own_ext {w w1 : World} {base : Nat} {e : TypeId} {size n : Nat} {v : Value} {xs : List Value} (h : w.ownsRow base e size v n xs) (hx : Ext w w1) : w1.ownsRow base e size v n xs := by
  refine ⟨h.1, ?_⟩
  rcases h.2 with h2 | ⟨g, cap, cur, hv, hg, hh, r⟩
  · exact .inl h2
  · refine .inr ⟨g, cap, cur, hv, hg, ?_, r⟩
    rw [hx.block ?_]; exact hh
    rcases Nat.lt_or_ge g w.heap.size with hl | hl
    · exact hl
    · rw [Array.getElem?_eq_none hl] at hh; cases hh
theorem own_block {w : World} {base : Nat} {e : TypeId} {size n : Nat} {v : Value} {xs : List Value} (h : w.ownsRow base e size v n xs) : ∀ k, v.ownBlock = some k → base ≤ k := by
  intro k hk
  rcases h.2 with ⟨rfl, _⟩ | ⟨g, cap, cur, rfl, hg, _⟩
  · cases hk
  · simp only [Value.ownBlock, Option.some.injEq] at hk; omega
/-- An array's variable (block s0) whose list has been put together by append: k values so far. -/
structure Acc (w0 : World) (s0 : Nat) (r c : Int) (A : Option Addr) (cap k : Nat) (l : List Val) (wr : World) : Prop where
  ext : Ext w0 wr
  hi : w0.heap.size ≤ s0
  row : wr.heap[s0]? = some (.cells #[.int .i64 r, .int .i64 c, .slice A k cap] 30)
  own : wr.ownsRow (s0 + 1) 39 6 (.slice A k cap) k (vcells l)
theorem lt_of_block {w : World} {b : Nat} {o : Obj} (h : w.heap[b]? = some o) : b < w.heap.size := by
  rcases Nat.lt_or_ge b w.heap.size with hl | hl
  · exact hl
  · rw [Array.getElem?_eq_none hl] at h; cases h
/-- What reads need of it. -/
def AccS (w0 : World) (s0 : Nat) (r c : Int) (A : Option Addr) (cap k : Nat) (W : World) : Prop := Ext w0 W ∧ W.heap[s0]? = some (.cells #[.int .i64 r, .int .i64 c, .slice A k cap] 30)
section
variable {w0 : World} {s0 : Nat} {r c : Int} {A : Option Addr} {cap k : Nat} {l : List Val} {wr : World}
theorem Acc.lt (h : Acc w0 s0 r c A cap k l wr) : s0 < wr.heap.size := lt_of_block h.row
theorem Acc.of_ext (h : Acc w0 s0 r c A cap k l wr) {w1 : World} (hx : Ext wr w1) : Acc w0 s0 r c A cap k l w1 :=
  ⟨h.ext.trans hx, h.hi, by rw [hx.block h.lt]; exact h.row, own_ext h.own hx⟩
theorem Acc.start (w0 : World) (r c : Int) : Acc w0 w0.heap.size r c none 0 0 [] (w0.alloc (.cells #[.int .i64 r, .int .i64 c, .slice none 0 0] 30)) :=
  ⟨(Ext.refl _).alloc _, Nat.le_refl _, heap_alloc_new _ _, World.ownsRow_nil _ _ _ _⟩
theorem Acc.rd (h : Acc w0 s0 r c A cap k l wr) : SlV (s0 + 1) wr A l ∧ k ≤ cap := by
  obtain ⟨A', c', e, hr, hc⟩ := Rd.of_own h.own
  simp only [Value.slice.injEq, true_and] at e
  obtain ⟨rfl, rfl⟩ := e
  exact ⟨hr, hc⟩
theorem Acc.step (h : Acc w0 s0 r c A cap k l wr) {x : Val} {v' : Value} {w1 w3 : World} {ty : TypeId} (hx : Ext wr w1)
    (hg : (w1.alloc (.cells x.cells.toArray ty)).grownBy w3 (Value.slice A k cap).ownBlock) (ho : w3.ownsRow (s0 + 1) 39 6 v' (k + 1) (vcells l ++ x.cells)) :
    ∃ A' cap', v' = .slice A' (k + 1) cap' ∧ w3.heap[s0]? = some (.cells #[.int .i64 r, .int .i64 c, .slice A k cap] 30) ∧ Ext w0 w3 ∧ Acc w0 s0 r c A' cap' (k + 1) (l ++ [x]) (w3.setCell ⟨s0, 2, none⟩ v') := by
  obtain ⟨A', cap', rfl⟩ := own_slice ho
  have h1 := h.of_ext hx
  have hlt := h1.lt
  have hnb : some s0 ≠ (Value.slice A k cap).ownBlock := fun e => by have := own_block h.own _ e.symm; omega
  have hrow : w3.heap[s0]? = some (.cells #[.int .i64 r, .int .i64 c, .slice A k cap] 30) := by
    rw [hg.block _ (by simp; omega) hnb, Below.heap_alloc _ _ _ hlt]; exact h1.row
  have hex : Ext w0 w3 := by
    have h2 : Ext w0 (w1.alloc (.cells x.cells.toArray ty)) := h1.ext.alloc _
    exact ⟨hg.os.trans h2.os, hg.tape.trans h2.tape, hg.output.trans h2.output, Nat.le_trans h2.size hg.size, fun b hb => (hg.block b (Nat.lt_of_lt_of_le hb h2.size) (fun e => by have := own_block h.own _ e.symm; have := h.hi; omega)).trans (h2.block hb)⟩
  refine ⟨A', cap', rfl, hrow, hex, Ext.set hex _ h.hi, h.hi, ?_, ?_⟩
  · simp [World.setCell, Array.getElem?_modify, hrow]
  · have : vcells (l ++ [x]) = vcells l ++ x.cells := by simp [vcells]
    rw [this]
    refine ho.kept (row := some s0) ⟨rfl, rfl, rfl, by simp [World.setCell], fun b hb hne => Below.heap_setCell _ _ _ _ (fun e => hne (by simp [e]))⟩ ?_
    right
    intro e
    have := own_block ho s0 e
    omega
end
set_option maxHeartbeats 400000 in
theorem refGet_any (R C i j : Nat) (A : Option Addr) (n cap : Nat) (l : List Val) (w : World) (h : ArrIn w A n cap l) (hn : n = R * C) (hN : n ≤ 4096) (hi : i < R) (hj : j < C) (x : Val) (hx : getV l (i * C + j) = x) :
    Calls Tryz.prog 73 #[AV R C (.slice A n cap), .int .i64 i, .int .i64 j] w fun e w' => e = .returned (VV x.kind x.mant x.exp x.text x.truth x.fault) ∧ Ext w w' := by
  subst hn
  obtain ⟨hk, hk2⟩ := cell_prod R hi hj hN
  obtain ⟨b, off, rfl, hv, ho⟩ := h.get hk
  rw [hx] at hv
  clear hx ho
  obtain ⟨v0, v1, v2, v3, v4, v5⟩ := hv
  have hbl : b < w.heap.size := lt_of_cell v0
  have w1 : IntKind.i64.wrap ((i : Int) * (C : Int)) = ((i * C : Nat) : Int) := by rw [IntKind.wrap_i64, Int.natCast_mul]; omega
  generalize hjc : i * C = jc at *
  generalize hrc : R * C = rc at *
  clear hjc hrc
  go_enter Tryz.func73, Tryz.ntmps73
  go_wp2
  exact bodyPost_ret (v := VV x.kind x.mant x.exp x.text x.truth x.fault) (by simp [results, Tryz.results73, go_sem]) rfl ⟨rfl, by repeat (first | exact Ext.refl _ | exact ext_app _ _ _ _ _ | exact ext_app2 _ _ _ _ _ _ | apply Ext.drew | apply Ext.alloc | apply Ext.more_)⟩
set_option maxHeartbeats 400000 in
theorem refHas_any (r c i j : Int) (s : Value) (w : World) (_hs : s.oneCell' = true) :
    Calls Tryz.prog 124 #[AV r c s, .int .i64 i, .int .i64 j] w fun e w' => e = .returned (.bool (hasB r c i j)) ∧ Ext w w' := by
  have e : hasB r c i j = (decide (0 ≤ i) && decide (0 ≤ j) && decide (i < r) && decide (j < c)) := by
    unfold hasB
    cases decide (0 ≤ i) <;> cases decide (i < r) <;> cases decide (0 ≤ j) <;> rfl
  rw [e]
  clear e
  go_enter Tryz.func124, Tryz.ntmps124
  go_upto_region 1 with (fail)
  refine wp_region_lit ?_
  iterate 3 ((refine wpL_read (v := ?_) rfl ?_ ?_; rotate_left 1; (go_simp; first | done | rfl)); try simp only [Act.put, zqA, zqB, zqC])
  iterate 2 ((refine wpL_gread (v := ?_) (c := ?_) rfl rfl rfl ?_ (fun hc => ?_) ?_; rotate_left 2; (first | exact gc_t _ | exact gc_f _ | exact gc_gt _ _ | exact gc_gf _ _); ((try simp only [gv_of hc]); (try (have hc1 := and_l hc; (try simp only [gv_of hc1]); (try (have hc2 := and_l hc1; (try simp only [gv_of hc2]))))); go_simp; first | done | rfl)); try simp only [Act.put, zqA, zqB, zqC])
  first | (refine wpL_pick_and rfl rfl rfl rfl rfl ?_) | (refine wpL_pick_or rfl rfl rfl rfl rfl ?_)
  try simp only [Act.put, zqA, zqB, zqC]
  (refine wpL_read (v := ?_) rfl ?_ ?_; rotate_left 1; (go_simp; first | done | rfl))
  try simp only [Act.put, zqA, zqB, zqC]
  iterate 4 ((refine wpL_gread (v := ?_) (c := ?_) rfl rfl rfl ?_ (fun hc => ?_) ?_; rotate_left 2; (first | exact gc_t _ | exact gc_f _ | exact gc_gt _ _ | exact gc_gf _ _); ((try simp only [gv_of hc]); (try (have hc1 := and_l hc; (try simp only [gv_of hc1]); (try (have hc2 := and_l hc1; (try simp only [gv_of hc2]))))); go_simp; first | done | rfl)); try simp only [Act.put, zqA, zqB, zqC])
  first | (refine wpL_pick_and rfl rfl rfl rfl rfl ?_) | (refine wpL_pick_or rfl rfl rfl rfl rfl ?_)
  try simp only [Act.put, zqA, zqB, zqC]
  (refine wpL_read (v := ?_) rfl ?_ ?_; rotate_left 1; (go_simp; first | done | rfl))
  try simp only [Act.put, zqA, zqB, zqC]
  iterate 4 ((refine wpL_gread (v := ?_) (c := ?_) rfl rfl rfl ?_ (fun hc => ?_) ?_; rotate_left 2; (first | exact gc_t _ | exact gc_f _ | exact gc_gt _ _ | exact gc_gf _ _); ((try simp only [gv_of hc]); (try (have hc1 := and_l hc; (try simp only [gv_of hc1]); (try (have hc2 := and_l hc1; (try simp only [gv_of hc2]))))); go_simp; first | done | rfl)); try simp only [Act.put, zqA, zqB, zqC])
  first | (refine wpL_pick_and rfl rfl rfl rfl rfl ?_) | (refine wpL_pick_or rfl rfl rfl rfl rfl ?_)
  try simp only [Act.put, zqA, zqB, zqC]
  (refine wpL_read (v := ?_) rfl ?_ ?_; rotate_left 1; (go_simp; first | done | rfl))
  try simp only [Act.put, zqA, zqB, zqC]
  refine wpList_nil ?_
  try go_simp
  go_wp2
  go_ret
  exact ⟨rfl, by repeat (first | exact Ext.refl _ | exact ext_app _ _ _ _ _ | exact ext_app2 _ _ _ _ _ _ | apply Ext.drew | apply Ext.alloc | apply Ext.more_)⟩
end Go.Proofs.YtlfbdodokldkhaaGreatDoor
namespace Go.Proofs.YtlfbdodokldkhaaGreatDoor
open Go.RowKit
set_option maxHeartbeats 800000 in
theorem refTurn_any (R C : Nat) (A : Option Addr) (n cap : Nat) (l : List Val) (w : World) (h : ArrIn w A n cap l) (hr1 : 1 ≤ R) (hc1 : 1 ≤ C) (hN : n ≤ 4096) (hn : n = R * C) :
    Calls Tryz.prog 36 #[AV R C (.slice A n cap)] w fun e w' => ArrO w.heap.size w' e C R (turnL R C l) ∧ Ext w w' := by
  obtain ⟨i0, hi0, hz0, hz1, hz2⟩ := info_parts info_val
  have hcr : C * R ≤ 4096 := by rw [Nat.mul_comm]; omega
  have b1 : R ≤ 4096 := by have : R * 1 ≤ R * C := Nat.mul_le_mul_left R hc1; omega
  have b2 : C ≤ 4096 := by have : 1 * C ≤ R * C := Nat.mul_le_mul_right C hr1; omega
  have HN := Lib.hid hn
  clear hn
  go_enter Tryz.func36, Tryz.ntmps36
  go_wp2
  have hacc0 := Acc.start ((w.alloc (Obj.cells #[.int .i64 R, .int .i64 C, .slice A n cap] 30)).alloc (Obj.cells #[.int .i64 0, .int .i64 0, .slice none 0 0] 30)) C R
  go_loopw [4] (fun i wr => ∃ (r cp : Nat) (D : Option Addr), r ≤ C ∧ i = .int .i64 r ∧ Acc ((w.alloc (Obj.cells #[.int .i64 R, .int .i64 C, .slice A n cap] 30)).alloc (Obj.cells #[.int .i64 0, .int .i64 0, .slice none 0 0] 30)) (w.heap.size + 1 + 1) C R D cp (r * R) (vals (fun i j => getV l (j * C + i)) R (r * R)) wr) (fun i _ => C - (intOf i).toNat)
  case atStart => exact ⟨0, 0, none, Nat.zero_le _, rfl, by simpa [vals] using hacc0⟩
  case round =>
    clear hacc0
    obtain ⟨r, cp, D, hr, rfl, hacc⟩ := hrel
    have p0 : wr.cell? ⟨w.heap.size, 0, none⟩ = some (.int .i64 R) := hacc.ext.cell_some (by simp [go_sem])
    have p1 : wr.cell? ⟨w.heap.size, 1, none⟩ = some (.int .i64 C) := hacc.ext.cell_some (by simp [go_sem])
    have hlt0 := hacc.lt
    by_cases hlt : r < C
    · go_wp2
      clear p0 p1 hlt0
      obtain ⟨wo, rfl⟩ : ∃ wo : World, wo = wr := ⟨_, rfl⟩
      go_loopw [5] (fun i wr => ∃ (j cp : Nat) (D : Option Addr), j ≤ R ∧ i = .int .i64 j ∧ Acc ((w.alloc (Obj.cells #[.int .i64 R, .int .i64 C, .slice A n cap] 30)).alloc (Obj.cells #[.int .i64 0, .int .i64 0, .slice none 0 0] 30)) (w.heap.size + 1 + 1) C R D cp (r * R + j) (vals (fun i j => getV l (j * C + i)) R (r * R + j)) wr) (fun i _ => R - (intOf i).toNat)
      case atStart => exact ⟨0, cp, D, Nat.zero_le _, rfl, by simpa using hacc⟩
      case round =>
        clear hacc
        obtain ⟨j, cp, D, hj, rfl, hacc⟩ := hrel
        have p0 : wr.cell? ⟨w.heap.size, 0, none⟩ = some (.int .i64 R) := hacc.ext.cell_some (by simp [go_sem])
        have hlt0 := hacc.lt
        by_cases hjt : j < R
        · have hk : r * R + j < 4096 := by have := cell_prod C hlt hjt hcr; omega
          go_wp2
          clear p0
          generalize hx : getV l (j * C + r) = x
          refine wp_plan (S := AccS _ _ _ _ _ _ _) [(0, 0), (1, 0), (2, 0), (3, 0), (4, 0), (5, 1), (6, 1), (7, 1), (8, 0), (9, 2)] [9] (by kernel_rfl) (by kernel_rfl) (by kernel_rfl) (fun _ _ d _ _ h => by cases d <;> exact h) ⟨(hacc.of_ext (by repeat (first | exact Ext.refl _ | (with_reducible (first | exact ext_d _ _ _ _ | exact ext_app _ _ _ _ _ | apply Ext.drew | apply Ext.alloc | apply Ext.more_)) | apply Ext.drew | apply Ext.alloc | apply Ext.more_))).ext, (hacc.of_ext (by repeat (first | exact Ext.refl _ | (with_reducible (first | exact ext_d _ _ _ _ | exact ext_app _ _ _ _ _ | apply Ext.drew | apply Ext.alloc | apply Ext.more_)) | apply Ext.drew | apply Ext.alloc | apply Ext.more_))).row⟩ ?_
          iterate 5 ((refine wpPl_read (v := ?_) rfl ?_ (fun w1 h1 => ?_) ?_; rotate_left 1; rfl; (obtain ⟨h1e, h1r⟩ := h1; have c2 := cell_of_row _ _ 2 _ _ _ h1r; clear h1r; obtain ⟨os1, d1, rfl⟩ := h1e.more; (try simp only [more_more, Array.append_assoc] at c2); go_simp; first | done | rfl)); try simp only [Act.put, zqA, zqB, zqC])
          (refine wpPl_eff rfl ?_ (fun K hK => ?_); rfl; go_simp; refine (refGet_any R C j r A n cap l _ (h.ext (Ext.trans (by repeat (first | exact Ext.refl _ | exact ext_app _ _ _ _ _ | exact ext_app2 _ _ _ _ _ _ | apply Ext.drew | apply Ext.alloc | apply Ext.more_)) hacc.ext.drew)) HN.out hN hjt hlt x hx).mono ?_; rintro e w' ⟨rfl, hb⟩; obtain ⟨os, d, rfl⟩ := hb.more; clear hb; refine hK _ _ ⟨(hacc.of_ext (by repeat (first | exact Ext.refl _ | (with_reducible (first | exact ext_d _ _ _ _ | exact ext_app _ _ _ _ _ | apply Ext.drew | apply Ext.alloc | apply Ext.more_)) | apply Ext.drew | apply Ext.alloc | apply Ext.more_))).ext, (hacc.of_ext (by repeat (first | exact Ext.refl _ | (with_reducible (first | exact ext_d _ _ _ _ | exact ext_app _ _ _ _ _ | apply Ext.drew | apply Ext.alloc | apply Ext.more_)) | apply Ext.drew | apply Ext.alloc | apply Ext.more_))).row⟩ ?_)
          try simp only [Act.put, zqA, zqB, zqC]
          (refine wpPl_eff rfl ?_ (fun K hK => ?_); rfl; go_simp; refine hK _ _ ⟨(hacc.of_ext (by repeat (first | exact Ext.refl _ | (with_reducible (first | exact ext_d _ _ _ _ | exact ext_app _ _ _ _ _ | apply Ext.drew | apply Ext.alloc | apply Ext.more_)) | apply Ext.drew | apply Ext.alloc | apply Ext.more_))).ext, (hacc.of_ext (by repeat (first | exact Ext.refl _ | (with_reducible (first | exact ext_d _ _ _ _ | exact ext_app _ _ _ _ _ | apply Ext.drew | apply Ext.alloc | apply Ext.more_)) | apply Ext.drew | apply Ext.alloc | apply Ext.more_))).row⟩ ?_)
          try simp only [Act.put, zqA, zqB, zqC]
          (refine wpPl_eff rfl ?_ (fun K hK => ?_); rfl)
          refine wp_append_own _ _ _ _ rfl _ 39 i0 (VV 0 0 0 ⟨#[]⟩ false 0) 6 56 Tryz.underlying28 hi0 hz0 hz1 hz2 rfl (by decide) _ _ _ rfl (own_ext hacc.own (by repeat (first | exact Ext.refl _ | (with_reducible (first | exact ext_d _ _ _ _ | exact ext_app _ _ _ _ _ | apply Ext.drew | apply Ext.alloc | apply Ext.more_)) | apply Ext.drew | apply Ext.alloc | apply Ext.more_))) _ 1 1 (Val.cells x) rfl rfl (new_cells_at _ _ _ (by simp) rfl _) (cells_one _) (by simp only [maxLen]; omega) (by omega) (by have := hacc.lt; simp; omega) ?_
          intro v3 w3 ho3 hg3
          obtain ⟨A2, cap2, rfl, hrow3, hex3, hacc2⟩ := hacc.step (by repeat (first | exact Ext.refl _ | (with_reducible (first | exact ext_d _ _ _ _ | exact ext_app _ _ _ _ _ | apply Ext.drew | apply Ext.alloc | apply Ext.more_)) | apply Ext.drew | apply Ext.alloc | apply Ext.more_)) hg3 ho3
          refine hK _ _ ⟨hex3, hrow3⟩ ?_
          try simp only [Act.put, zqA, zqB, zqC]
          (refine wpPl_read (v := ?_) rfl ?_ (fun w1 h1 => ?_) ?_; rotate_left 1; rfl; (obtain ⟨h1e, h1r⟩ := h1; have c2 := cell_of_row _ _ 2 _ _ _ h1r; clear h1r; obtain ⟨os1, d1, rfl⟩ := h1e.more; (try simp only [more_more, Array.append_assoc] at c2); go_simp; first | done | rfl))
          try simp only [Act.put, zqA, zqB, zqC]
          have c2 := cell_of_row _ _ 2 _ _ _ hrow3
          have f2 := frozen_of_row _ _ 2 _ _ hrow3
          clear hrow3 hex3 hg3 ho3
          (refine wpPl_tail rfl ?_ (fun K hK => ?_); rfl; go_simp; refine hK _ _ ?_)
          clear c2 f2
          try simp only [Act.put]
          refine wpPl_nil ?_
          go_wp2
          refine ⟨⟨j + 1, cap2, A2, by omega, by go_num, ?_⟩, by simp [intOf]; omega⟩
          rw [show r * R + (j + 1) = r * R + j + 1 by omega, vals_succ _ R r j hjt, hx]
          exact hacc2
        · obtain rfl : j = R := by omega
          go_wp2
          refine ⟨⟨r + 1, cp, D, by omega, by go_num, by rw [Nat.succ_mul]; exact hacc⟩, by simp [intOf]; omega⟩
    · obtain rfl : r = C := by omega
      have q0 : wr.cell? ⟨w.heap.size + 1, 0, none⟩ = some (.int .i64 0) := hacc.ext.cell_some (by simp [go_sem]); have q1 : wr.cell? ⟨w.heap.size + 1, 1, none⟩ = some (.int .i64 0) := hacc.ext.cell_some (by simp [go_sem]); have q2 : wr.cell? ⟨w.heap.size + 1, 2, none⟩ = some (.slice none 0 0) := hacc.ext.cell_some (by simp [go_sem]); have q3 : wr.frozen? ⟨w.heap.size + 1, 0, none⟩ = false := (hacc.ext.frozen (p := ⟨w.heap.size + 1, 0, none⟩) (by simp)).trans (by simp [go_sem]); have q4 : wr.frozen? ⟨w.heap.size + 1, 1, none⟩ = false := (hacc.ext.frozen (p := ⟨w.heap.size + 1, 1, none⟩) (by simp)).trans (by simp [go_sem]); have q5 : wr.frozen? ⟨w.heap.size + 1, 2, none⟩ = false := (hacc.ext.frozen (p := ⟨w.heap.size + 1, 2, none⟩) (by simp)).trans (by simp [go_sem]); have c0 := cell_of_row _ _ 0 _ _ _ hacc.row; have c1 := cell_of_row _ _ 1 _ _ _ hacc.row; have c2 := cell_of_row _ _ 2 _ _ _ hacc.row
      go_wp2
      obtain ⟨hrd, hcp⟩ := hacc.rd
      have hl : (turnL R r l).length = r * R := vals_length _ _ _
      refine bodyPost_ret (v := AV r R (.slice D (r * R) cp)) (by simp [results, Tryz.results36, go_sem, q0, q1, q2]) rfl ⟨⟨D, cp, by rw [hl], ?_, by rw [hl]; exact hcp⟩, ?_⟩
      · exact Rd.mono (((hrd.set_far _ (by simp)).set_far _ (by simp)).set_far _ (by simp)) (by omega)
      · exact Ext.set (Ext.set (Ext.set (Ext.trans (by repeat (first | exact Ext.refl _ | exact ext_app _ _ _ _ _ | exact ext_app2 _ _ _ _ _ _ | apply Ext.drew | apply Ext.alloc | apply Ext.more_)) hacc.ext) _ (by simp)) _ (by simp)) _ (by simp)
end Go.Proofs.YtlfbdodokldkhaaGreatDoor
namespace Go.Proofs.YtlfbdodokldkhaaGreatDoor
open Go.RowKit NM
@[go_sem] theorem run_field_L (r c : Int) (s : Value) (w : World) : (Instr.field 30 (AV r c s) 2).run Tryz.prog w = .ok s w := by
  first | rfl | kernel_rfl
/-- An array turned. -/
def turnN (a : NA) : NA := ⟨a.C, a.R, turnL a.R a.C a.l⟩
theorem turn_res (a : NA) (A : Option Addr) (n cap : Nat) (w : World) (h : ArrIn w A n cap a.l) (hr : a.right) :
    Calls Tryz.prog 62 #[AV a.R a.C (.slice A n cap)] w fun e w' => ResA w (turnN a) e w' := by
  refine (turn_yes a.R a.C A n cap a.l w h hr).mono ?_
  rintro e w' ⟨⟨D, c, rfl, hs, hc⟩, hX⟩
  obtain ⟨a1, a2, a3, a4, a5⟩ := rightA_nat.1 hr
  exact ⟨D, _, c, rfl, ⟨hs, rfl, hc, by rw [turnL_length]; rw [Nat.mul_comm] at a3; omega, turn_all a4 h.ok⟩, hX⟩
theorem refTurn_res (a : NA) (A : Option Addr) (n cap : Nat) (w : World) (h : ArrIn w A n cap a.l) (hr : a.right) :
    Calls Tryz.prog 36 #[AV a.R a.C (.slice A n cap)] w fun e w' => ResA w (turnN a) e w' := by
  obtain ⟨a1, a2, a3, a4, a5⟩ := rightA_nat.1 hr
  have hln := h.len
  refine (refTurn_any a.R a.C A n cap a.l w h a1 a2 (by omega) (by omega)).mono ?_
  rintro e w' ⟨⟨D, c, rfl, hs, hc⟩, hX⟩
  exact ⟨D, _, c, rfl, ⟨hs, rfl, hc, by rw [turnL_length]; rw [Nat.mul_comm] at a3; omega, turn_all a4 h.ok⟩, hX⟩
end Go.Proofs.YtlfbdodokldkhaaGreatDoor
namespace Go.Proofs.YtlfbdodokldkhaaGreatDoor
open Go.RowKit NM
/-- Is the argument of that place given? -/
def givenB (xs : List Ar) (k : Nat) : Bool := match xs[k]? with
  | none => false
  | some a => !(a.x.R == 1 && a.x.C == 1 && (getV a.x.l 0).kind == 0)
def argV (xs : List Ar) (k : Nat) : Val := match xs[k]? with
  | none => Val.zero
  | some a => getV a.x.l 0
def numO (xs : List Ar) (k : Nat) (left : Int) : Int × Int := if givenB xs k then wholeO (argV xs k) else (left, 0)
def argN (xs : List Ar) (k : Nat) : NA := match xs[k]? with
  | none => ⟨0, 0, []⟩
  | some a => a.x
/-- All joined to the first one. -/
def stackO (J : NA → NA → Option NA) : NA → List NA → Option NA
  | a, [] => some a
  | a, b :: l => match J a b with
    | none => none
    | some c => stackO J c l
def stackN (J : NA → NA → Option NA) (xs : List Ar) : NA := match xs with
  | [] => aloneO 5
  | a :: l => (stackO J a.x (l.map Ar.x)).getD (aloneO 5)
/-- SEQUENCE: k + 1 values, and the last number. -/
def seqS (a s : Int × Int) : Nat → Option (List Val × (Int × Int))
  | 0 => some ([⟨1, a.1, a.2, ⟨#[]⟩, false, 0⟩], a)
  | k + 1 => match seqS a s k with
    | none => none
    | some (l, p) => match addS p.1 p.2 s.1 s.2 with
      | none => none
      | some q => some (l ++ [⟨1, q.1, q.2, ⟨#[]⟩, false, 0⟩], q)
theorem seqS_none {a s : Int × Int} {k : Nat} (h : seqS a s k = none) : ∀ j, seqS a s (k + j) = none
  | 0 => h
  | j + 1 => by
    rw [← Nat.add_assoc]
    unfold seqS
    rw [seqS_none h j]
theorem seqS_some {a s : Int × Int} : ∀ {k : Nat} {l : List Val} {p : Int × Int}, Rt a.1 a.2 → Rt s.1 s.2 → seqS a s k = some (l, p) → l.length = k + 1 ∧ Rt p.1 p.2 ∧ ∀ x ∈ l, x.right
  | 0, l, p, ha, hs, h => by
    simp only [seqS, Option.some.injEq, Prod.mk.injEq] at h
    obtain ⟨rfl, rfl⟩ := h
    refine ⟨rfl, ha, fun x hx => ?_⟩
    obtain rfl := List.mem_singleton.1 hx
    exact right_num ha
  | k + 1, l, p, ha, hs, h => by
    unfold seqS at h
    cases h1 : seqS a s k with
    | none => rw [h1] at h; cases h
    | some r =>
      obtain ⟨l1, p1⟩ := r
      rw [h1] at h
      simp only at h
      obtain ⟨i1, i2, i3⟩ := seqS_some ha hs h1
      cases h2 : addS p1.1 p1.2 s.1 s.2 with
      | none => rw [h2] at h; cases h
      | some q =>
        rw [h2] at h
        simp only [Option.some.injEq, Prod.mk.injEq] at h
        obtain ⟨rfl, rfl⟩ := h
        have hq := addS_rt h2
        refine ⟨by simp [i1], hq, fun x hx => ?_⟩
        rcases List.mem_append.1 hx with hx | hx
        · exact i3 x hx
        · obtain rfl := List.mem_singleton.1 hx
          exact right_num hq
/-- A number's argument, 1 if it is left out. -/
def tnO (xs : List Ar) (k : Nat) : (Int × Int) × Int := if givenB xs k then (tnP (argV xs k), tnF (argV xs k)) else ((1, 0), 0)
def seqT (m n : Int × Int) (a s : (Int × Int) × Int) : NA :=
  if m.2 ≠ 0 then aloneO m.2 else if n.2 ≠ 0 then aloneO n.2 else if a.2 ≠ 0 then aloneO a.2 else if s.2 ≠ 0 then aloneO s.2
  else if m.1 < 1 ∨ n.1 < 1 then aloneO 9 else if 4096 < m.1 * n.1 then aloneO 5
  else match seqS a.1 s.1 (m.1.toNat * n.1.toNat - 1) with
    | none => aloneO 5
    | some (l, _) => ⟨m.1.toNat, n.1.toNat, l⟩
def sequenceO (xs : List Ar) : NA := seqT (numO xs 0 1) (numO xs 1 1) (tnO xs 2) (tnO xs 3)
end Go.Proofs.YtlfbdodokldkhaaGreatDoor
namespace Go.Proofs.YtlfbdodokldkhaaGreatDoor
open Go.RowKit NM
set_option maxHeartbeats 1000000 in
theorem gcount_any (n : Int) (w : World) (htab : Tab w) (hn : n.natAbs < T 15) :
    Calls Tryz.prog 47 #[.int .i64 n] w fun e w' => e = .returned (VV (cntV n).kind (cntV n).mant (cntV n).exp (cntV n).text (cntV n).truth (cntV n).fault) ∧ Ext w w' := by
  have hi : I64 n := by have : T 15 = 1000000000000000 := (by decide); unfold I64; omega
  have hm := fun W h => make_any n 0 W h hi (by unfold I64; omega)
  rw [show rnd (decide (n < 0)) n.natAbs false 0 = some (wholeN n) from (wholex hn).1] at hm
  simp only [rnV, rm, re, Option.getD_some, Option.isSome_some] at hm
  have HT := Lib.hid htab
  unfold cntV
  clear htab hn hi
  go_enter Tryz.func47, Tryz.ntmps47
  go_wp2_with (first | (go_at_call 91; (with_reducible refine (hm _ (HT.out.ext (by with_reducible repeat (first | exact Ext.refl _ | apply Ext.drew | apply Ext.alloc | apply Ext.more_)))).mono ?_); rintro e w' ⟨rfl, hb⟩; obtain ⟨os, d, rfl⟩ := hb.more; clear hb) | (go_at_call 92; (with_reducible refine (of_any _ _ _).mono ?_); rintro e w' ⟨rfl, hb⟩; obtain ⟨os, d, rfl⟩ := hb.more; clear hb))
  exact bodyPost_ret (v := VV 1 (wholeN n).1 (wholeN n).2 ⟨#[]⟩ false 0) (by simp [results, Tryz.results47, go_sem]) rfl ⟨rfl, by with_reducible repeat (first | exact Ext.refl _ | apply Ext.drew | apply Ext.alloc | apply Ext.more_)⟩
/-- An argument, and its first value. -/
theorem ArgsIn.first {w : World} {A : Option Addr} {n cap : Nat} {xs : List Ar} (h : ArgsIn w A n cap xs) {k : Nat} (hk : k < n) :
    ∃ (R C : Nat) (l : List Val) (b1 off1 n1 cap1 b off : Nat) (x : Val), xs[k]? = some ⟨⟨R, C, l⟩, some ⟨b1, off1, none⟩, n1, cap1⟩ ∧ A = some ⟨b, off, none⟩ ∧ ArAt w b (off + k * 3) ⟨⟨R, C, l⟩, some ⟨b1, off1, none⟩, n1, cap1⟩ ∧ 0 < n1 ∧ n1 ≤ cap1 ∧ ValAt w b1 off1 x ∧ getV l 0 = x ∧ x.right ∧ b < w.heap.size ∧ b1 < w.heap.size ∧ argV xs k = x ∧ givenB xs k = !(R == 1 && C == 1 && x.kind == 0) ∧ ArrIn w (some ⟨b1, off1, none⟩) n1 cap1 l ∧ l[0]? = some x := by
  obtain ⟨⟨⟨R, C, l⟩, A1, n1, cap1⟩, b, off, ha, rfl, hat, hok⟩ := h.at hk
  obtain ⟨r1, r2, r3, r4, r5⟩ := rightA_nat.1 hok.right
  have hl : l.length = n1 := hok.arr.len
  have hn1 : 0 < n1 := by rw [← hl, r4]; exact Nat.mul_pos r1 r2
  obtain ⟨x, b1, off1, hx, _, hA, hv⟩ := hok.arr.at hn1
  rw [Nat.zero_mul, Nat.add_zero] at hv
  have hA' : A1 = some ⟨b1, off1, none⟩ := hA
  subst hA'
  have hgv : getV l 0 = x := by unfold getV; rw [hx]; rfl
  have hxr : x.right := r5 x (List.mem_of_getElem? hx)
  have hav : argV xs k = x := by unfold argV; rw [ha]; exact hgv
  have hgb : givenB xs k = !(R == 1 && C == 1 && x.kind == 0) := by unfold givenB; rw [ha, ← hgv]
  exact ⟨R, C, l, b1, off1, n1, cap1, b, off, x, ha, rfl, hat, hn1, hok.arr.cap, hv, hgv, hxr, lt_of_cell hat.1, lt_of_cell hv.1, hav, hgb, hok.arr, hx⟩
set_option maxHeartbeats 1000000 in
theorem given_any (A : Option Addr) (n cap : Nat) (xs : List Ar) (k : Nat) (w : World) (h : ArgsIn w A n cap xs) (g : Bool) (hg : givenB xs k = g) :
    Calls Tryz.prog 98 #[.slice A n cap, .int .i64 (k : Int)] w fun e w' => e = .returned (.bool g) ∧ Ext w w' := by
  by_cases hlt : k < n
  · obtain ⟨R, C, l, b1, off1, n1, cap1, b, off, x, ha, rfl, ⟨v0, v1, v2⟩, hn1, hc1, ⟨y0, y1, y2, y3, y4, y5⟩, hgv, hxr, hbl, hb1, hav, hgb, harr, hx⟩ := h.first hlt
    rw [hgb] at hg
    simp only at v0 v1 v2
    clear ha hgv hxr hav hgb harr hx
    have hsm := h.small
    have hcap := h.cap
    have hlt' : ¬ n ≤ k := by omega
    clear h
    obtain ⟨xk, xm, xe, xt, xb, xf⟩ := x
    simp only at y0 y1 y2 y3 y4 y5 hg
    generalize hR : (R : Int) = r at v0
    generalize hC : (C : Int) = c at v1
    by_cases h1 : R = 1
    · obtain rfl : r = 1 := by omega
      by_cases h2 : C = 1
      · obtain rfl : c = 1 := by omega
        subst h1 h2
        by_cases h3 : xk = 0
        · subst h3
          obtain rfl : g = false := by rw [← hg]; rfl
          clear hg hR hC
          go_enter Tryz.func98, Tryz.ntmps98
          go_wp2
          exact bodyPost_ret (v := .bool false) (by simp [results, Tryz.results98, go_sem]) rfl ⟨rfl, by with_reducible repeat (first | exact Ext.refl _ | apply Ext.drew | apply Ext.alloc | apply Ext.more_)⟩
        · have h3' : (xk != 0) = true := by simpa using h3
          have h3'' : (xk == 0) = false := by simpa using h3
          obtain rfl : g = true := by rw [← hg, h3'']; rfl
          clear hg hR hC h3
          go_enter Tryz.func98, Tryz.ntmps98
          go_wp2
          exact bodyPost_ret (v := .bool true) (by simp [results, Tryz.results98, go_sem]) rfl ⟨rfl, by with_reducible repeat (first | exact Ext.refl _ | apply Ext.drew | apply Ext.alloc | apply Ext.more_)⟩
      · have h2' : (c != 1) = true := by simp; omega
        have h2'' : (C == 1) = false := by simpa using h2
        obtain rfl : g = true := by rw [← hg, h2'']; simp
        subst h1
        clear hg hR hC h2 h2''
        go_enter Tryz.func98, Tryz.ntmps98
        go_wp2
        exact bodyPost_ret (v := .bool true) (by simp [results, Tryz.results98, go_sem]) rfl ⟨rfl, by with_reducible repeat (first | exact Ext.refl _ | apply Ext.drew | apply Ext.alloc | apply Ext.more_)⟩
    · have h1' : (r != 1) = true := by simp; omega
      have h1'' : (R == 1) = false := by simpa using h1
      obtain rfl : g = true := by rw [← hg, h1'']; rfl
      clear hg hR hC h1 h1''
      go_enter Tryz.func98, Tryz.ntmps98
      go_wp2
      exact bodyPost_ret (v := .bool true) (by simp [results, Tryz.results98, go_sem]) rfl ⟨rfl, by with_reducible repeat (first | exact Ext.refl _ | apply Ext.drew | apply Ext.alloc | apply Ext.more_)⟩
  · obtain rfl : g = false := by rw [← hg]; unfold givenB; rw [List.getElem?_eq_none (by rw [h.len]; omega)]
    have hsm := h.small
    have hlt' : n ≤ k := by omega
    clear hg
    go_enter Tryz.func98, Tryz.ntmps98
    go_wp2
    exact bodyPost_ret (v := .bool false) (by simp [results, Tryz.results98, go_sem]) rfl ⟨rfl, by with_reducible repeat (first | exact Ext.refl _ | apply Ext.drew | apply Ext.alloc | apply Ext.more_)⟩
set_option maxHeartbeats 1000000 in
theorem gnumber_any (A : Option Addr) (n cap : Nat) (xs : List Ar) (k : Nat) (left : Int) (w : World) (h : ArgsIn w A n cap xs) (y : Int × Int) (hy : numO xs k left = y) :
    Calls Tryz.prog 93 #[.slice A n cap, .int .i64 (k : Int), .int .i64 left] w fun e w' => e = .returned (.tuple #[.int .i64 y.1, .int .i64 y.2]) ∧ Ext w w' := by
  have hgv := fun W (hW : ArgsIn W A n cap xs) g hg => given_any A n cap xs k W hW g hg
  have H := Lib.hid h
  subst hy
  unfold numO
  cases hg : givenB xs k with
  | false =>
    rw [if_neg (by simp)]
    have hgw := fun W (hW : ArgsIn W A n cap xs) => hgv W hW false (by rw [hg])
    clear hgv hg h
    go_enter Tryz.func93, Tryz.ntmps93
    go_wp2_with (go_at_call 98; (with_reducible refine (hgw _ (H.out.ext (by with_reducible repeat (first | exact Ext.refl _ | apply Ext.drew | apply Ext.alloc | apply Ext.more_)))).mono ?_); rintro e w' ⟨rfl, hb⟩; obtain ⟨os, d, rfl⟩ := hb.more; clear hb)
    exact bodyPost_ret (v := .tuple #[.int .i64 left, .int .i64 0]) (by simp [results, Tryz.results93, go_sem]) rfl ⟨rfl, by with_reducible repeat (first | exact Ext.refl _ | apply Ext.drew | apply Ext.alloc | apply Ext.more_)⟩
  | true =>
    rw [if_pos rfl]
    have hgw := fun W (hW : ArgsIn W A n cap xs) => hgv W hW true (by rw [hg])
    have hlt : k < n := by
      rcases Nat.lt_or_ge k n with hl | hl
      · exact hl
      · unfold givenB at hg; rw [List.getElem?_eq_none (by rw [h.len]; exact hl)] at hg; cases hg
    obtain ⟨R, C, l, b1, off1, n1, cap1, b, off, x, ha, rfl, ⟨v0, v1, v2⟩, hn1, hc1, ⟨y0, y1, y2, y3, y4, y5⟩, _, hxr, hbl, hb1, hav, _, _, _⟩ := h.first hlt
    rw [hav]
    simp only at v0 v1 v2
    have hcap := h.cap
    have ht := fun W => toNum_any x W hxr
    have hi1 : I64 (tnP x).1 := rt_i64 (tn_rt hxr)
    unfold wholeO
    generalize htp : tnP x = p at *
    generalize htf : tnF x = f at *
    by_cases hf : f = 0
    · subst hf
      rw [if_pos rfl]
      have hfl := fun W => floor_any p.1 p.2 W hi1
      have hi2 : I64 (floorS p.1 p.2).1 := rt_i64 (by exact (floor_spec (by rw [← htp]; exact tn_rt hxr)).1)
      generalize hq : floorS p.1 p.2 = q at *
      have hin := fun W => int_any q.1 q.2 W hi2
      cases hI : intS q.1 q.2 with
      | none =>
        rw [hI] at hin
        simp only [inV, Option.getD_none, Option.isSome_none] at hin ⊢
        simp only [tnV, htp, htf] at ht
        clear hI hq htp htf ha hxr hav hi1 hi2 h hg hgv
        go_enter Tryz.func93, Tryz.ntmps93
        go_wp2_with (first | (go_at_call 98; (with_reducible refine (hgw _ (H.out.ext (by with_reducible repeat (first | exact Ext.refl _ | apply Ext.drew | apply Ext.alloc | apply Ext.more_)))).mono ?_); rintro e w' ⟨rfl, hb⟩; obtain ⟨os, d, rfl⟩ := hb.more; clear hb) | (go_at_call 106; (with_reducible refine (ht _).mono ?_); rintro e w' ⟨rfl, hb⟩; obtain ⟨os, d, rfl⟩ := hb.more; clear hb) | (go_at_call 136; (with_reducible refine (hfl _).mono ?_); rintro e w' ⟨rfl, hb⟩; obtain ⟨os, d, rfl⟩ := hb.more; clear hb) | (go_at_call 135; (with_reducible refine (hin _).mono ?_); rintro e w' ⟨rfl, hb⟩; obtain ⟨os, d, rfl⟩ := hb.more; clear hb))
        exact bodyPost_ret (v := .tuple #[.int .i64 0, .int .i64 5]) (by simp [results, Tryz.results93, go_sem]) rfl ⟨rfl, by with_reducible repeat (first | exact Ext.refl _ | apply Ext.drew | apply Ext.alloc | apply Ext.more_)⟩
      | some i =>
        rw [hI] at hin
        simp only [inV, Option.getD_some, Option.isSome_some] at hin ⊢
        simp only [tnV, htp, htf] at ht
        clear hI hq htp htf ha hxr hav hi1 hi2 h hg hgv
        go_enter Tryz.func93, Tryz.ntmps93
        go_wp2_with (first | (go_at_call 98; (with_reducible refine (hgw _ (H.out.ext (by with_reducible repeat (first | exact Ext.refl _ | apply Ext.drew | apply Ext.alloc | apply Ext.more_)))).mono ?_); rintro e w' ⟨rfl, hb⟩; obtain ⟨os, d, rfl⟩ := hb.more; clear hb) | (go_at_call 106; (with_reducible refine (ht _).mono ?_); rintro e w' ⟨rfl, hb⟩; obtain ⟨os, d, rfl⟩ := hb.more; clear hb) | (go_at_call 136; (with_reducible refine (hfl _).mono ?_); rintro e w' ⟨rfl, hb⟩; obtain ⟨os, d, rfl⟩ := hb.more; clear hb) | (go_at_call 135; (with_reducible refine (hin _).mono ?_); rintro e w' ⟨rfl, hb⟩; obtain ⟨os, d, rfl⟩ := hb.more; clear hb))
        exact bodyPost_ret (v := .tuple #[.int .i64 i, .int .i64 0]) (by simp [results, Tryz.results93, go_sem]) rfl ⟨rfl, by with_reducible repeat (first | exact Ext.refl _ | apply Ext.drew | apply Ext.alloc | apply Ext.more_)⟩
    · rw [if_neg hf]
      have hf' : (f != 0) = true := by simpa using hf
      simp only [tnV, htp, htf] at ht
      clear htp htf ha hxr hav hi1 h hg hgv
      go_enter Tryz.func93, Tryz.ntmps93
      go_wp2_with (first | (go_at_call 98; (with_reducible refine (hgw _ (H.out.ext (by with_reducible repeat (first | exact Ext.refl _ | apply Ext.drew | apply Ext.alloc | apply Ext.more_)))).mono ?_); rintro e w' ⟨rfl, hb⟩; obtain ⟨os, d, rfl⟩ := hb.more; clear hb) | (go_at_call 106; (with_reducible refine (ht _).mono ?_); rintro e w' ⟨rfl, hb⟩; obtain ⟨os, d, rfl⟩ := hb.more; clear hb))
      exact bodyPost_ret (v := .tuple #[.int .i64 0, .int .i64 f]) (by simp [results, Tryz.results93, go_sem]) rfl ⟨rfl, by with_reducible repeat (first | exact Ext.refl _ | apply Ext.drew | apply Ext.alloc | apply Ext.more_)⟩
end Go.Proofs.YtlfbdodokldkhaaGreatDoor
namespace Go.Proofs.YtlfbdodokldkhaaGreatDoor
open Go.RowKit NM
theorem made_any (r c : Int) (A : Option Addr) (n cap : Nat) (w : World) :
    Calls Tryz.prog 58 #[.int .i64 r, .int .i64 c, .slice A n cap] w fun e w' => e = .returned (AV r c (.slice A n cap)) ∧ Ext w w' := by
  go_enter Tryz.func58, Tryz.ntmps58
  go_wp2
  exact bodyPost_ret (v := AV r c (.slice A n cap)) (by simp [results, Tryz.results58, go_sem]) rfl ⟨rfl, by with_reducible repeat (first | exact Ext.refl _ | apply Ext.drew | apply Ext.alloc | apply Ext.more_)⟩
theorem cnt_ok {n : Int} (h : n.natAbs < T 15) : (cntV n).ok := (right_num (wholex h).2.1).ok
theorem cnt_right15 {n : Int} (h : n.natAbs < T 15) : (cntV n).right := right_num (wholex h).2.1
theorem lt15 {n : Nat} (h : n ≤ 4096) : ((n : Int)).natAbs < T 15 := by have : T 15 = 1000000000000000 := (by decide); omega
set_option maxHeartbeats 1000000 in
theorem gcols_any (A : Option Addr) (cap : Nat) (a : Ar) (w : World) (htab : Tab w) (h : ArgsIn w A 1 cap [a]) :
    Calls Tryz.prog 45 #[.slice A 1 cap] w fun e w' => ResA w (oneA (cntV a.x.C)) e w' := by
  obtain ⟨b, off, rfl, ⟨v0, v1, v2⟩, hok⟩ := h.get (k := 0) (a := a) rfl
  have hbl := lt_of_cell v0
  have hcap := h.cap
  have hC := (right_bd hok.right).2.2.2.2.2
  have hl := lt15 (by omega : a.x.C ≤ 4096)
  have hc := fun W (hT : Tab W) => gcount_any a.x.C W hT hl
  have ho := fun W => one_res (cntV a.x.C) W (cnt_ok hl) (cnt_right15 hl)
  generalize cntV a.x.C = y at *
  have HT := Lib.hid htab
  clear htab h hok hl hC
  simp only [Nat.zero_mul, Nat.add_zero] at v0 v1 v2
  go_enter Tryz.func45, Tryz.ntmps45
  go_wp2_with (first | (go_at_call 47; (with_reducible refine (hc _ (HT.out.ext (by with_reducible repeat (first | exact Ext.refl _ | apply Ext.drew | apply Ext.alloc | apply Ext.more_)))).mono ?_); rintro e w' ⟨rfl, hb⟩; obtain ⟨os, d, rfl⟩ := hb.more; clear hb) | (go_at_call 46; (with_reducible refine (ho _).mono ?_); rintro e w' ⟨D, m, cc, rfl, hD, hb⟩; obtain ⟨os5, d5, rfl⟩ := hb.more; clear hb; have hDr := hD.rd))
  exact bodyPost_ret (v := AV (oneA y).R (oneA y).C (.slice D m cc)) (by simp [results, Tryz.results45, go_sem]) rfl ⟨D, m, cc, rfl, ⟨(by (try simp only [more_more] at hDr); (try simp only [drew_more] at hDr); (try simp only [more_drew] at hDr); (try simp only [Array.append_assoc] at hDr); exact Rd.swap hDr (by first | (simp; done) | (simp; omega) | omega) (by first | (simp; done) | (simp; omega) | omega) (by first | (simp; done) | (simp; omega) | omega)), hD.len, hD.cap, hD.small, hD.ok⟩, by with_reducible repeat (first | exact Ext.refl _ | apply Ext.drew | apply Ext.alloc | apply Ext.more_)⟩
set_option maxHeartbeats 1000000 in
theorem grows_any (A : Option Addr) (cap : Nat) (a : Ar) (w : World) (htab : Tab w) (h : ArgsIn w A 1 cap [a]) :
    Calls Tryz.prog 53 #[.slice A 1 cap] w fun e w' => ResA w (oneA (cntV a.x.R)) e w' := by
  obtain ⟨b, off, rfl, ⟨v0, v1, v2⟩, hok⟩ := h.get (k := 0) (a := a) rfl
  have hbl := lt_of_cell v0
  have hcap := h.cap
  have hC := (right_bd hok.right).2.2.2.2.1
  have hl := lt15 (by omega : a.x.R ≤ 4096)
  have hc := fun W (hT : Tab W) => gcount_any a.x.R W hT hl
  have ho := fun W => one_res (cntV a.x.R) W (cnt_ok hl) (cnt_right15 hl)
  generalize cntV a.x.R = y at *
  have HT := Lib.hid htab
  clear htab h hok hl hC
  simp only [Nat.zero_mul, Nat.add_zero] at v0 v1 v2
  go_enter Tryz.func53, Tryz.ntmps53
  go_wp2_with (first | (go_at_call 47; (with_reducible refine (hc _ (HT.out.ext (by with_reducible repeat (first | exact Ext.refl _ | apply Ext.drew | apply Ext.alloc | apply Ext.more_)))).mono ?_); rintro e w' ⟨rfl, hb⟩; obtain ⟨os, d, rfl⟩ := hb.more; clear hb) | (go_at_call 46; (with_reducible refine (ho _).mono ?_); rintro e w' ⟨D, m, cc, rfl, hD, hb⟩; obtain ⟨os5, d5, rfl⟩ := hb.more; clear hb; have hDr := hD.rd))
  exact bodyPost_ret (v := AV (oneA y).R (oneA y).C (.slice D m cc)) (by simp [results, Tryz.results53, go_sem]) rfl ⟨D, m, cc, rfl, ⟨(by (try simp only [more_more] at hDr); (try simp only [drew_more] at hDr); (try simp only [more_drew] at hDr); (try simp only [Array.append_assoc] at hDr); exact Rd.swap hDr (by first | (simp; done) | (simp; omega) | omega) (by first | (simp; done) | (simp; omega) | omega) (by first | (simp; done) | (simp; omega) | omega)), hD.len, hD.cap, hD.small, hD.ok⟩, by with_reducible repeat (first | exact Ext.refl _ | apply Ext.drew | apply Ext.alloc | apply Ext.more_)⟩
set_option maxHeartbeats 1000000 in
theorem gturn_any (A : Option Addr) (cap : Nat) (a : Ar) (w : World) (h : ArgsIn w A 1 cap [a]) :
    Calls Tryz.prog 61 #[.slice A 1 cap] w fun e w' => ResA w (turnN a.x) e w' := by
  obtain ⟨b, off, rfl, ⟨v0, v1, v2⟩, hok⟩ := h.get (k := 0) (a := a) rfl
  have hbl := lt_of_cell v0
  have hcap := h.cap
  have ht := fun W (hW : ArrIn W a.A a.n a.cap a.x.l) => turn_res a.x a.A a.n a.cap W hW hok.right
  generalize turnN a.x = y at *
  have HA := Lib.hid hok.arr
  clear h hok
  simp only [Nat.zero_mul, Nat.add_zero] at v0 v1 v2
  go_enter Tryz.func61, Tryz.ntmps61
  go_wp2_with (first | (go_at_call 62; (with_reducible refine (ht _ (HA.out.ext (by with_reducible repeat (first | exact Ext.refl _ | apply Ext.drew | apply Ext.alloc | apply Ext.more_)))).mono ?_); rintro e w' ⟨D, m, cc, rfl, hD, hb⟩; obtain ⟨os5, d5, rfl⟩ := hb.more; clear hb; have hDr := hD.rd))
  exact bodyPost_ret (v := AV y.R y.C (.slice D m cc)) (by simp [results, Tryz.results61, go_sem]) rfl ⟨D, m, cc, rfl, ⟨(by (try simp only [more_more] at hDr); (try simp only [drew_more] at hDr); (try simp only [more_drew] at hDr); (try simp only [Array.append_assoc] at hDr); exact Rd.swap hDr (by first | (simp; done) | (simp; omega) | omega) (by first | (simp; done) | (simp; omega) | omega) (by first | (simp; done) | (simp; omega) | omega)), hD.len, hD.cap, hD.small, hD.ok⟩, by with_reducible repeat (first | exact Ext.refl _ | apply Ext.drew | apply Ext.alloc | apply Ext.more_)⟩
set_option maxHeartbeats 1000000 in
theorem gtocol_any (A : Option Addr) (cap : Nat) (a : Ar) (w : World) (h : ArgsIn w A 1 cap [a]) :
    Calls Tryz.prog 57 #[.slice A 1 cap] w fun e w' => ResA w ⟨a.x.l.length, 1, a.x.l⟩ e w' := by
  obtain ⟨b, off, rfl, ⟨v0, v1, v2⟩, hok⟩ := h.get (k := 0) (a := a) rfl
  have hbl := lt_of_cell v0
  have hcap := h.cap
  obtain ⟨r1, r2, r3, r4, r5⟩ := rightA_nat.1 hok.right
  have hln := hok.arr.len
  have hn1 : 0 < a.n := by rw [← hln, r4]; exact Nat.mul_pos r1 r2
  have hcl := fun W (hW : ArrIn W a.A a.n a.cap a.x.l) => clone_any a.A a.n a.cap a.x.l W hW hn1 (by omega)
  have HA := Lib.hid hok.arr
  have hao := hok.arr.ok
  have hb16 : a.n ≤ 4096 := by omega
  rw [hln]
  clear h hok r1 r2 r3 r4 r5
  simp only [Nat.zero_mul, Nat.add_zero] at v0 v1 v2
  go_enter Tryz.func57, Tryz.ntmps57
  go_upto_region 1 with fail
  refine wp_plan (S := Ext _) [(0, 0), (1, 0), (2, 0), (3, 0), (4, 0), (5, 0), (6, 0), (7, 0), (8, 0), (9, 1), (10, 1), (11, 2)] [11] (by kernel_rfl) (by kernel_rfl) (by kernel_rfl) (fun _ _ d _ _ h => by cases d <;> exact h) (Ext.drew (Ext.refl _)) ?_
  iterate 9 ((refine wpPl_read (v := ?_) rfl ?_ (fun _ h => ?_) ?_; rotate_left 1; rfl; (obtain ⟨_, _, rfl⟩ := h.more; go_simp; try rfl)); try simp only [Act.put, zqA, zqB, zqC])
  (refine wpPl_eff rfl ?_ (fun K hK => ?_); rfl; go_simp; refine (hcl _ (HA.out.ext (by with_reducible repeat (first | exact Ext.refl _ | apply Ext.drew | apply Ext.alloc | apply Ext.more_)))).mono ?_; rintro e w' ⟨D, cc, rfl, hDr, hcc, hb⟩; obtain ⟨os5, d5, rfl⟩ := hb.more; clear hb; refine hK _ _ ?_ ?_; (repeat (first | (with_reducible (first | exact Ext.refl _ | exact ext_d _ _ _ _ | exact ext_app _ _ _ _ _ | exact ext_app2 _ _ _ _ _ _ | exact ext_app3 _ _ _ _ _ _ _ | exact ext_app4 _ _ _ _ _ _ _ _ | exact ext_app5 _ _ _ _ _ _ _ _ _)) | ((with_reducible refine ext_suffix ⟨_, ?_⟩); (try simp only [Array.append_assoc]); rfl) | (with_reducible (first | apply Ext.drew | apply Ext.alloc | apply Ext.more_)) | apply Ext.drew | apply Ext.alloc | apply Ext.more_)))
  try simp only [Act.put, zqA, zqB, zqC]
  (refine wpPl_eff rfl ?_ (fun K hK => ?_); rfl; go_simp; refine (made_any _ _ _ _ _ _).mono ?_; rintro e w' ⟨rfl, hb⟩; have hDr := Rd.ext hDr hb; obtain ⟨os6, d6, rfl⟩ := hb.more; clear hb; refine hK _ _ ?_ ?_; (repeat (first | (with_reducible (first | exact Ext.refl _ | exact ext_d _ _ _ _ | exact ext_app _ _ _ _ _ | exact ext_app2 _ _ _ _ _ _ | exact ext_app3 _ _ _ _ _ _ _ | exact ext_app4 _ _ _ _ _ _ _ _ | exact ext_app5 _ _ _ _ _ _ _ _ _)) | ((with_reducible refine ext_suffix ⟨_, ?_⟩); (try simp only [Array.append_assoc]); rfl) | (with_reducible (first | apply Ext.drew | apply Ext.alloc | apply Ext.more_)) | apply Ext.drew | apply Ext.alloc | apply Ext.more_)))
  try simp only [Act.put, zqA, zqB, zqC]
  (refine wpPl_tail rfl ?_ (fun K hK => ?_); rfl; go_simp; refine hK _ _ ?_)
  try simp only [Act.put]
  refine wpPl_nil ?_
  go_wp2_with fail
  exact bodyPost_ret (v := AV a.n 1 (.slice D a.n cc)) (by simp [results, Tryz.results57, go_sem]) rfl ⟨D, a.n, cc, rfl, ⟨(by (try simp only [more_more] at hDr); (try simp only [drew_more] at hDr); (try simp only [more_drew] at hDr); (try simp only [Array.append_assoc] at hDr); exact Rd.swap hDr (by first | (simp; done) | (simp; omega) | omega) (by first | (simp; done) | (simp; omega) | omega) (by first | (simp; done) | (simp; omega) | omega)), hln, hcc, by omega, hao⟩, by with_reducible repeat (first | exact Ext.refl _ | apply Ext.drew | apply Ext.alloc | apply Ext.more_)⟩
set_option maxHeartbeats 1000000 in
theorem gtorow_any (A : Option Addr) (cap : Nat) (a : Ar) (w : World) (h : ArgsIn w A 1 cap [a]) :
    Calls Tryz.prog 60 #[.slice A 1 cap] w fun e w' => ResA w ⟨1, a.x.l.length, a.x.l⟩ e w' := by
  obtain ⟨b, off, rfl, ⟨v0, v1, v2⟩, hok⟩ := h.get (k := 0) (a := a) rfl
  have hbl := lt_of_cell v0
  have hcap := h.cap
  obtain ⟨r1, r2, r3, r4, r5⟩ := rightA_nat.1 hok.right
  have hln := hok.arr.len
  have hn1 : 0 < a.n := by rw [← hln, r4]; exact Nat.mul_pos r1 r2
  have hcl := fun W (hW : ArrIn W a.A a.n a.cap a.x.l) => clone_any a.A a.n a.cap a.x.l W hW hn1 (by omega)
  have HA := Lib.hid hok.arr
  have hao := hok.arr.ok
  have hb16 : a.n ≤ 4096 := by omega
  rw [hln]
  clear h hok r1 r2 r3 r4 r5
  simp only [Nat.zero_mul, Nat.add_zero] at v0 v1 v2
  go_enter Tryz.func60, Tryz.ntmps60
  go_upto_region 1 with fail
  refine wp_plan (S := Ext _) [(0, 0), (1, 0), (2, 0), (3, 0), (4, 0), (5, 0), (6, 0), (7, 0), (8, 0), (9, 1), (10, 1), (11, 2)] [11] (by kernel_rfl) (by kernel_rfl) (by kernel_rfl) (fun _ _ d _ _ h => by cases d <;> exact h) (Ext.drew (Ext.refl _)) ?_
  iterate 9 ((refine wpPl_read (v := ?_) rfl ?_ (fun _ h => ?_) ?_; rotate_left 1; rfl; (obtain ⟨_, _, rfl⟩ := h.more; go_simp; try rfl)); try simp only [Act.put, zqA, zqB, zqC])
  (refine wpPl_eff rfl ?_ (fun K hK => ?_); rfl; go_simp; refine (hcl _ (HA.out.ext (by with_reducible repeat (first | exact Ext.refl _ | apply Ext.drew | apply Ext.alloc | apply Ext.more_)))).mono ?_; rintro e w' ⟨D, cc, rfl, hDr, hcc, hb⟩; obtain ⟨os5, d5, rfl⟩ := hb.more; clear hb; refine hK _ _ ?_ ?_; (repeat (first | (with_reducible (first | exact Ext.refl _ | exact ext_d _ _ _ _ | exact ext_app _ _ _ _ _ | exact ext_app2 _ _ _ _ _ _ | exact ext_app3 _ _ _ _ _ _ _ | exact ext_app4 _ _ _ _ _ _ _ _ | exact ext_app5 _ _ _ _ _ _ _ _ _)) | ((with_reducible refine ext_suffix ⟨_, ?_⟩); (try simp only [Array.append_assoc]); rfl) | (with_reducible (first | apply Ext.drew | apply Ext.alloc | apply Ext.more_)) | apply Ext.drew | apply Ext.alloc | apply Ext.more_)))
  try simp only [Act.put, zqA, zqB, zqC]
  (refine wpPl_eff rfl ?_ (fun K hK => ?_); rfl; go_simp; refine (made_any _ _ _ _ _ _).mono ?_; rintro e w' ⟨rfl, hb⟩; have hDr := Rd.ext hDr hb; obtain ⟨os6, d6, rfl⟩ := hb.more; clear hb; refine hK _ _ ?_ ?_; (repeat (first | (with_reducible (first | exact Ext.refl _ | exact ext_d _ _ _ _ | exact ext_app _ _ _ _ _ | exact ext_app2 _ _ _ _ _ _ | exact ext_app3 _ _ _ _ _ _ _ | exact ext_app4 _ _ _ _ _ _ _ _ | exact ext_app5 _ _ _ _ _ _ _ _ _)) | ((with_reducible refine ext_suffix ⟨_, ?_⟩); (try simp only [Array.append_assoc]); rfl) | (with_reducible (first | apply Ext.drew | apply Ext.alloc | apply Ext.more_)) | apply Ext.drew | apply Ext.alloc | apply Ext.more_)))
  try simp only [Act.put, zqA, zqB, zqC]
  (refine wpPl_tail rfl ?_ (fun K hK => ?_); rfl; go_simp; refine hK _ _ ?_)
  try simp only [Act.put]
  refine wpPl_nil ?_
  go_wp2_with fail
  exact bodyPost_ret (v := AV 1 a.n (.slice D a.n cc)) (by simp [results, Tryz.results60, go_sem]) rfl ⟨D, a.n, cc, rfl, ⟨(by (try simp only [more_more] at hDr); (try simp only [drew_more] at hDr); (try simp only [more_drew] at hDr); (try simp only [Array.append_assoc] at hDr); exact Rd.swap hDr (by first | (simp; done) | (simp; omega) | omega) (by first | (simp; done) | (simp; omega) | omega) (by first | (simp; done) | (simp; omega) | omega)), hln, hcc, by omega, hao⟩, by with_reducible repeat (first | exact Ext.refl _ | apply Ext.drew | apply Ext.alloc | apply Ext.more_)⟩
end Go.Proofs.YtlfbdodokldkhaaGreatDoor
namespace Go.Proofs.YtlfbdodokldkhaaGreatDoor
open Go.RowKit NM
theorem ext_grownN {X W w3 : World} {ty : TypeId} {size n : Nat} {v : Value} {xs : List Value} (hx : Ext X W) (ho : W.ownsRow X.heap.size ty size v n xs) (hg : W.grownBy w3 v.ownBlock) : Ext X w3 :=
  ⟨hg.os.trans hx.os, hg.tape.trans hx.tape, hg.output.trans hx.output, Nat.le_trans hx.size hg.size, fun b hb => (hg.block b (Nat.lt_of_lt_of_le hb hx.size) (fun e => by have := own_block ho _ e.symm; omega)).trans (hx.block hb)⟩
/-- What a list of one's own is, handed back. -/
theorem own_arrN {X w w' : World} {v : Value} {n : Nat} {l : List Val} (h : w'.ownsRow X.heap.size 39 6 v n (vcells l)) (hx : w.heap.size ≤ X.heap.size) (hn : n ≤ 9223372036854775807) (hok : ∀ x ∈ l, x.ok) :
    ∃ D cc, v = .slice D n cc ∧ ArrN w.heap.size w' D n cc l := by
  obtain ⟨D, cc, hv, hr, hc⟩ := Rd.of_own h
  have hl : l.length = n := by have := h.1; rw [vcells_length] at this; omega
  exact ⟨D, cc, hv, ⟨hr.mono hx, hl, hc, hn, hok⟩⟩
end Go.Proofs.YtlfbdodokldkhaaGreatDoor
namespace Go.Proofs.YtlfbdodokldkhaaGreatDoor
open Go.RowKit NM
theorem make_one (W : World) (h : Tab W) : Calls Tryz.prog 91 #[.int .i64 1, .int .i64 0] W fun e w' => e = .returned (.tuple #[NV 1 0, .bool true]) ∧ Ext W w' := by
  have := make_any 1 0 W h (by unfold I64; omega) (by unfold I64; omega)
  rw [show rnd (decide ((1 : Int) < 0)) (1 : Int).natAbs false 0 = some (1, 0) from rnd_of_right false rt_one] at this
  exact this
theorem given_lt {w : World} {A : Option Addr} {n cap k : Nat} {xs : List Ar} (h : ArgsIn w A n cap xs) (hg : givenB xs k = true) : k < n := by
  rcases Nat.lt_or_ge k n with hl | hl
  · exact hl
  · unfold givenB at hg; rw [List.getElem?_eq_none (by rw [h.len]; exact hl)] at hg; cases hg
theorem quo_lt {r c : Int} (hc : 1 ≤ c) : 4096 / c < r ↔ 4096 < r * c := by
  rw [Int.ediv_lt_iff_lt_mul (by omega)]
theorem tnO_rt {w : World} {A : Option Addr} {n cap k : Nat} {xs : List Ar} (h : ArgsIn w A n cap xs) : Rt (tnO xs k).1.1 (tnO xs k).1.2 := by
  unfold tnO
  cases hg : givenB xs k with
  | false => exact rt_one
  | true =>
    obtain ⟨R, C, l, b1, off1, n1', cap1, b, off, x, _, rfl, _, _, _, _, _, hxr, _, _, hav, _⟩ := h.first (given_lt h hg)
    rw [if_pos rfl, hav]
    exact tn_rt hxr
theorem new_own6 {w : World} {base n : Nat} {ty : TypeId} {C : Array Value} (x : Val) (hC : C = x.cells.toArray) (hn : n = w.heap.size) (hb : base ≤ n) : (w.alloc (.cells C ty)).ownsRow base ty 6 (.slice (some ⟨n, 0, none⟩) 1 1) 1 (vcells [x]) := by
  subst hn hC
  exact ⟨by simp [Val.cells, vcells], Or.inr ⟨w.heap.size, 1, _, rfl, hb, Array.getElem?_push_size, Nat.le_refl _, by decide, by simp [Val.cells], by simp [Val.cells, vcells]⟩⟩
theorem heap_two (Z : World) (o o' s s' : Obj) (os : Array Obj) (d : Nat) {g : Nat} (hg : Z.heap.size + 2 ≤ g) : (more ((Z.alloc o).alloc s) os d).heap[g]? = (more ((Z.alloc o').alloc s') os d).heap[g]? := by
  simp only [more, World.alloc, Array.getElem?_append, Array.getElem?_push, Array.size_push]
  rw [if_neg (by omega), if_neg (by omega)]
theorem own_two {Z : World} {o s : Obj} (o' s' : Obj) {os : Array Obj} {d base size n : Nat} {ty : TypeId} {v : Value} {xs : List Value} (h : (more ((Z.alloc o).alloc s) os d).ownsRow base ty size v n xs) (hb : Z.heap.size + 2 ≤ base) : (more ((Z.alloc o').alloc s') os d).ownsRow base ty size v n xs := by
  refine ⟨h.1, ?_⟩
  rcases h.2 with h2 | ⟨g, cap, cur, hv, hg, hh, r⟩
  · exact .inl h2
  · exact .inr ⟨g, cap, cur, hv, hg, by rw [heap_two Z o' o s' s os d (by omega)]; exact hh, r⟩
set_option maxHeartbeats 4000000 in
theorem gseq_any (A : Option Addr) (n cap : Nat) (xs : List Ar) (w : World) (htab : Tab w) (h : ArgsIn w A n cap xs) :
    Calls Tryz.prog 54 #[.slice A n cap] w fun e w' => ResA w (sequenceO xs) e w' := by
  have n0 := fun W (hW : ArgsIn W A n cap xs) => gnumber_any A n cap xs 0 1 W hW _ rfl
  have n1 := fun W (hW : ArgsIn W A n cap xs) => gnumber_any A n cap xs 1 1 W hW _ rfl
  have v2 := fun W (hW : ArgsIn W A n cap xs) => given_any A n cap xs 2 W hW _ rfl
  have v3 := fun W (hW : ArgsIn W A n cap xs) => given_any A n cap xs 3 W hW _ rfl
  have H := Lib.hid h
  have HT := Lib.hid htab
  unfold sequenceO
  generalize numO xs 0 1 = mm at *
  generalize numO xs 1 1 = kk at *
  obtain ⟨mi, mf⟩ := mm
  obtain ⟨ki, kf⟩ := kk
  simp only [show ((0 : Nat) : Int) = 0 from rfl, show ((1 : Nat) : Int) = 1 from rfl, show ((2 : Nat) : Int) = 2 from rfl, show ((3 : Nat) : Int) = 3 from rfl] at n0 n1 v2 v3
  clear h htab
  by_cases hmf : mf = 0
  · subst hmf
    by_cases hkf : kf = 0
    · subst hkf
      have har := tnO_rt (k := 2) H.out
      have hsr := tnO_rt (k := 3) H.out
      obtain ⟨a, ha⟩ : ∃ a, tnO xs 2 = a := ⟨_, rfl⟩
      obtain ⟨s, hs⟩ : ∃ s, tnO xs 3 = s := ⟨_, rfl⟩
      rw [ha] at har ⊢
      rw [hs] at hsr ⊢
      have HA := Lib.hid ha
      have HS := Lib.hid hs
      clear ha hs
      obtain ⟨X, hX⟩ : ∃ X, seqT (mi, 0) (ki, 0) a s = X := ⟨_, rfl⟩
      rw [hX]
      have HX := Lib.hid hX
      clear hX
      go_enter Tryz.func54, Tryz.ntmps54
      go_upto_region 8 with (first | (go_at_call 93; (with_reducible refine (n0 _ (H.out.ext (by with_reducible repeat (first | exact Ext.refl _ | apply Ext.drew | apply Ext.alloc | apply Ext.more_)))).mono ?_); rintro e w' ⟨rfl, hb⟩; obtain ⟨osa, da, rfl⟩ := hb.more; clear hb) | (go_at_call 93; (with_reducible refine (n1 _ (H.out.ext (by with_reducible repeat (first | exact Ext.refl _ | apply Ext.drew | apply Ext.alloc | apply Ext.more_)))).mono ?_); rintro e w' ⟨rfl, hb⟩; obtain ⟨osb, db, rfl⟩ := hb.more; clear hb) | (go_at_call 91; (with_reducible refine (make_one _ (HT.out.ext (by with_reducible repeat (first | exact Ext.refl _ | apply Ext.drew | apply Ext.alloc | apply Ext.more_)))).mono ?_); rintro e w' ⟨rfl, hb⟩; obtain ⟨osc, dc, rfl⟩ := hb.more; clear hb) | (go_at_call 27; (with_reducible refine (galone_any _ _).mono ?_); rintro e w' ⟨D, m, cc, rfl, hD, hb⟩; obtain ⟨os5, d5, rfl⟩ := hb.more; clear hb; have hDr := hD.rd))
      go_region
      · go_upto_if 38 with (go_at_call 98; (with_reducible refine (v2 _ (H.out.ext (by with_reducible repeat (first | exact Ext.refl _ | apply Ext.drew | apply Ext.alloc | apply Ext.more_)))).mono ?_); rintro e w' ⟨rfl, hb⟩; obtain ⟨osg, dg, rfl⟩ := hb.more; clear hb)
        go_cut [4] (fun s4 wx => ∃ osx dx, s4 = .int .i64 0 ∧ a.2 = 0 ∧ wx = more ((((more (w.alloc (Obj.cells #[.int .i64 0, .int .i64 0, .slice none 0 0] 30)) (osa ++ (osb ++ osc)) dc).alloc (Obj.cells #[.int .i64 1, .int .i64 0] 37)).alloc (Obj.cells #[.int .i64 a.1.1, .int .i64 a.1.2] 37)).alloc (Obj.cells #[.int .i64 1, .int .i64 0] 37)) osx dx)
        case first =>
          cases hg : givenB xs 2 with
          | false =>
            obtain rfl : ((1, 0), 0) = a := by rw [← HA.out]; unfold tnO; rw [hg]; rfl
            clear hg
            go_wp2_with fail
            go_meet
            exact ⟨_, _, rfl, trivial, rfl⟩
          | true =>
            have hlt := given_lt H.out hg
            obtain ⟨R, C, l, b1, off1, n1', cap1, b, off, x, _, rfl, ⟨u0, u1, u2⟩, hn1, hc1, ⟨y0, y1, y2, y3, y4, y5⟩, _, hxr, hbl, hb1, hav, _, _, _⟩ := H.out.first hlt
            have hcap := H.out.cap
            simp only at u0 u1 u2
            obtain rfl : (tnP x, tnF x) = a := by rw [← HA.out]; unfold tnO; rw [hg, if_pos rfl, hav]
            have ht := fun W => toNum_any x W hxr
            clear hg hav
            by_cases hf : tnF x = 0
            · simp only [tnV, hf] at ht
              go_wp2_with (first | (go_at_call 106; (with_reducible refine (ht _).mono ?_); rintro e w' ⟨rfl, hb⟩; obtain ⟨ost, dt, rfl⟩ := hb.more; clear hb))
              go_meet
              exact ⟨_, _, rfl, hf, rfl⟩
            · have hf' : (tnF x != 0) = true := by simpa using hf
              obtain rfl : aloneO (tnF x) = X := by rw [← HX.out]; unfold seqT; rw [if_neg (by simp), if_neg (by simp), if_pos hf]
              go_wp2_with (first | (go_at_call 106; (with_reducible refine (ht _).mono ?_); rintro e w' ⟨rfl, hb⟩; obtain ⟨ost, dt, rfl⟩ := hb.more; clear hb) | (go_at_call 27; (with_reducible refine (galone_any _ _).mono ?_); rintro e w' ⟨D, m, cc, rfl, hD, hb⟩; obtain ⟨os5, d5, rfl⟩ := hb.more; clear hb; have hDr := hD.rd))
              exact bodyPost_ret (v := AV (aloneO (tnF x)).R (aloneO (tnF x)).C (.slice D m cc)) (by simp [results, Tryz.results54, go_sem]) rfl ⟨D, m, cc, rfl, ⟨(by (try simp only [more_more] at hDr); (try simp only [drew_more] at hDr); (try simp only [more_drew] at hDr); (try simp only [Array.append_assoc] at hDr); exact Rd.swap hDr (by first | (simp; done) | (simp; omega) | omega) (by first | (simp; done) | (simp; omega) | omega) (by first | (simp; done) | (simp; omega) | omega)), hD.len, hD.cap, hD.small, hD.ok⟩, by with_reducible repeat (first | exact Ext.refl _ | apply Ext.drew | apply Ext.alloc | apply Ext.more_)⟩
        case rest =>
        obtain ⟨osx, dx, rfl, ha0, rfl⟩ := hcut
        clear osg dg
        go_upto_if 54 with (go_at_call 98; (with_reducible refine (v3 _ (H.out.ext (by with_reducible repeat (first | exact Ext.refl _ | apply Ext.drew | apply Ext.alloc | apply Ext.more_)))).mono ?_); rintro e w' ⟨rfl, hb⟩; obtain ⟨osg, dg, rfl⟩ := hb.more; clear hb)
        go_cut [4] (fun s4 wx => ∃ osy dy, s4 = .int .i64 0 ∧ s.2 = 0 ∧ wx = more ((((more (w.alloc (Obj.cells #[.int .i64 0, .int .i64 0, .slice none 0 0] 30)) (osa ++ (osb ++ osc)) dc).alloc (Obj.cells #[.int .i64 1, .int .i64 0] 37)).alloc (Obj.cells #[.int .i64 a.1.1, .int .i64 a.1.2] 37)).alloc (Obj.cells #[.int .i64 s.1.1, .int .i64 s.1.2] 37)) osy dy)
        case first =>
          cases hg : givenB xs 3 with
          | false =>
            obtain rfl : ((1, 0), 0) = s := by rw [← HS.out]; unfold tnO; rw [hg]; rfl
            clear hg
            go_wp2_with fail
            go_meet
            exact ⟨_, _, rfl, trivial, rfl⟩
          | true =>
            have hlt := given_lt H.out hg
            obtain ⟨R, C, l, b1, off1, n1', cap1, b, off, x, _, rfl, ⟨u0, u1, u2⟩, hn1, hc1, ⟨y0, y1, y2, y3, y4, y5⟩, _, hxr, hbl, hb1, hav, _, _, _⟩ := H.out.first hlt
            have hcap := H.out.cap
            simp only at u0 u1 u2
            obtain rfl : (tnP x, tnF x) = s := by rw [← HS.out]; unfold tnO; rw [hg, if_pos rfl, hav]
            have ht := fun W => toNum_any x W hxr
            clear hg hav
            by_cases hf : tnF x = 0
            · simp only [tnV, hf] at ht
              go_wp2_with (first | (go_at_call 106; (with_reducible refine (ht _).mono ?_); rintro e w' ⟨rfl, hb⟩; obtain ⟨ost, dt, rfl⟩ := hb.more; clear hb))
              go_meet
              exact ⟨_, _, rfl, hf, rfl⟩
            · have hf' : (tnF x != 0) = true := by simpa using hf
              obtain rfl : aloneO (tnF x) = X := by rw [← HX.out]; unfold seqT; rw [if_neg (by simp), if_neg (by simp), if_neg (by simp [ha0]), if_pos hf]
              go_wp2_with (first | (go_at_call 106; (with_reducible refine (ht _).mono ?_); rintro e w' ⟨rfl, hb⟩; obtain ⟨ost, dt, rfl⟩ := hb.more; clear hb) | (go_at_call 27; (with_reducible refine (galone_any _ _).mono ?_); rintro e w' ⟨D, m, cc, rfl, hD, hb⟩; obtain ⟨os5, d5, rfl⟩ := hb.more; clear hb; have hDr := hD.rd))
              exact bodyPost_ret (v := AV (aloneO (tnF x)).R (aloneO (tnF x)).C (.slice D m cc)) (by simp [results, Tryz.results54, go_sem]) rfl ⟨D, m, cc, rfl, ⟨(by (try simp only [more_more] at hDr); (try simp only [drew_more] at hDr); (try simp only [more_drew] at hDr); (try simp only [Array.append_assoc] at hDr); exact Rd.swap hDr (by first | (simp; done) | (simp; omega) | omega) (by first | (simp; done) | (simp; omega) | omega) (by first | (simp; done) | (simp; omega) | omega)), hD.len, hD.cap, hD.small, hD.ok⟩, by with_reducible repeat (first | exact Ext.refl _ | apply Ext.drew | apply Ext.alloc | apply Ext.more_)⟩
        case rest =>
        obtain ⟨osy, dy, rfl, hs0, rfl⟩ := hcut
        clear osx dx
        obtain ⟨⟨am, ae⟩, af⟩ := a
        obtain ⟨⟨sm, se⟩, sf⟩ := s
        simp only at ha0 hs0 har hsr
        subst ha0 hs0
        by_cases q1 : mi < 1
        · obtain rfl : aloneO 9 = X := by rw [← HX.out]; unfold seqT; rw [if_neg (by simp), if_neg (by simp), if_neg (by simp), if_neg (by simp), if_pos (Or.inl q1)]
          go_wp2_with (go_at_call 27; (with_reducible refine (galone_any _ _).mono ?_); rintro e w' ⟨D, m, cc, rfl, hD, hb⟩; obtain ⟨os5, d5, rfl⟩ := hb.more; clear hb; have hDr := hD.rd)
          exact bodyPost_ret (v := AV (aloneO 9).R (aloneO 9).C (.slice D m cc)) (by simp [results, Tryz.results54, go_sem]) rfl ⟨D, m, cc, rfl, ⟨(by (try simp only [more_more] at hDr); (try simp only [drew_more] at hDr); (try simp only [more_drew] at hDr); (try simp only [Array.append_assoc] at hDr); exact Rd.swap hDr (by first | (simp; done) | (simp; omega) | omega) (by first | (simp; done) | (simp; omega) | omega) (by first | (simp; done) | (simp; omega) | omega)), hD.len, hD.cap, hD.small, hD.ok⟩, by with_reducible repeat (first | exact Ext.refl _ | apply Ext.drew | apply Ext.alloc | apply Ext.more_)⟩
        · by_cases q2 : ki < 1
          · obtain rfl : aloneO 9 = X := by rw [← HX.out]; unfold seqT; rw [if_neg (by simp), if_neg (by simp), if_neg (by simp), if_neg (by simp), if_pos (Or.inr q2)]
            go_wp2_with (go_at_call 27; (with_reducible refine (galone_any _ _).mono ?_); rintro e w' ⟨D, m, cc, rfl, hD, hb⟩; obtain ⟨os5, d5, rfl⟩ := hb.more; clear hb; have hDr := hD.rd)
            exact bodyPost_ret (v := AV (aloneO 9).R (aloneO 9).C (.slice D m cc)) (by simp [results, Tryz.results54, go_sem]) rfl ⟨D, m, cc, rfl, ⟨(by (try simp only [more_more] at hDr); (try simp only [drew_more] at hDr); (try simp only [more_drew] at hDr); (try simp only [Array.append_assoc] at hDr); exact Rd.swap hDr (by first | (simp; done) | (simp; omega) | omega) (by first | (simp; done) | (simp; omega) | omega) (by first | (simp; done) | (simp; omega) | omega)), hD.len, hD.cap, hD.small, hD.ok⟩, by with_reducible repeat (first | exact Ext.refl _ | apply Ext.drew | apply Ext.alloc | apply Ext.more_)⟩
          · have hq := quo_lt (r := mi) (c := ki) (by omega)
            by_cases q3 : 4096 < mi * ki
            · obtain rfl : aloneO 5 = X := by rw [← HX.out]; unfold seqT; rw [if_neg (by simp), if_neg (by simp), if_neg (by simp), if_neg (by simp), if_neg (by omega), if_pos q3]
              have q4 : 4096 / ki < mi := hq.2 q3
              go_wp2_with (go_at_call 27; (with_reducible refine (galone_any _ _).mono ?_); rintro e w' ⟨D, m, cc, rfl, hD, hb⟩; obtain ⟨os5, d5, rfl⟩ := hb.more; clear hb; have hDr := hD.rd)
              exact bodyPost_ret (v := AV (aloneO 5).R (aloneO 5).C (.slice D m cc)) (by simp [results, Tryz.results54, go_sem]) rfl ⟨D, m, cc, rfl, ⟨(by (try simp only [more_more] at hDr); (try simp only [drew_more] at hDr); (try simp only [more_drew] at hDr); (try simp only [Array.append_assoc] at hDr); exact Rd.swap hDr (by first | (simp; done) | (simp; omega) | omega) (by first | (simp; done) | (simp; omega) | omega) (by first | (simp; done) | (simp; omega) | omega)), hD.len, hD.cap, hD.small, hD.ok⟩, by with_reducible repeat (first | exact Ext.refl _ | apply Ext.drew | apply Ext.alloc | apply Ext.more_)⟩
            · have q4 : ¬ 4096 / ki < mi := fun e => q3 (hq.1 e)
              clear hq
              obtain ⟨M, rfl⟩ : ∃ M : Nat, mi = M := ⟨mi.toNat, by omega⟩
              obtain ⟨K, rfl⟩ : ∃ K : Nat, ki = K := ⟨ki.toNat, by omega⟩
              have q5 : M * K ≤ 4096 := by rw [← Int.natCast_mul] at q3; omega
              have e1 : IntKind.i64.wrap ((M : Int) * (K : Int)) = ((M * K : Nat) : Int) := by rw [IntKind.wrap_i64, ← Int.natCast_mul]; omega
              have q6 : 1 ≤ M * K := Nat.mul_pos (by omega) (by omega)
              have hXe : seqT ((M : Int), 0) ((K : Int), 0) ((am, ae), 0) ((sm, se), 0) = match seqS (am, ae) (sm, se) (M * K - 1) with
                | none => aloneO 5
                | some (l, _) => ⟨M, K, l⟩ := by
                unfold seqT
                rw [if_neg (by simp), if_neg (by simp), if_neg (by simp), if_neg (by simp), if_neg (by omega), if_neg q3]
                rfl
              have HE := Lib.hid (hXe.symm.trans HX.out)
              generalize hT : M * K = T at *
              clear hXe HX q3 hT
              go_wp2_with (go_at_call 92; (with_reducible refine (of_any _ _ _).mono ?_); rintro e w' ⟨rfl, hb⟩; obtain ⟨oso, do_, rfl⟩ := hb.more; clear hb)
              go_loopw [10] (fun v wr => ∃ (k : Nat) (L : List Val) (p : Int × Int) (os : Array Obj) (d : Nat), k + 1 ≤ T ∧ wr = more ((((more (w.alloc (Obj.cells #[.int .i64 0, .int .i64 0, .slice none 0 0] 30)) (osa ++ (osb ++ osc)) dc).alloc (Obj.cells #[.int .i64 1, .int .i64 0] 37)).alloc (Obj.cells #[.int .i64 p.1, .int .i64 p.2] 37)).alloc (Obj.cells #[.int .i64 sm, .int .i64 se] 37)) os d ∧ Hid (seqS (am, ae) (sm, se) k = some (L, p)) ∧ Hid (wr.ownsRow (w.heap.size + 1 + (osa.size + (osb.size + osc.size)) + 1 + 1 + 1) 39 6 v (k + 1) (vcells L))) (fun v _ => T - slen v)
              case atStart => exact ⟨0, [⟨1, am, ae, ⟨#[]⟩, false, 0⟩], (am, ae), _, _, q6, more_alloc _ _ _ _, rfl, new_own6 ⟨1, am, ae, ⟨#[]⟩, false, 0⟩ rfl (by simp) (by omega)⟩
              case round =>
                obtain ⟨k, L, p, os, d, hk, rfl, HQ, HO⟩ := hrel
                obtain ⟨G, cp, rfl⟩ := own_slice HO.out
                obtain ⟨i1, i2, i3⟩ := seqS_some har hsr HQ.out
                obtain ⟨pm, pe⟩ := p
                simp only at i2
                by_cases hlt : k + 1 < T
                · have hlt' : ((k : Int) + 1) < (T : Int) := by omega
                  have had := fun W (hT : Tab W) => add_any pm pe sm se W hT (rt_i64 i2) (rt_i64 hsr)
                  cases hs : addS pm pe sm se with
                  | none =>
                    rw [hs] at had
                    simp only [rnV, rm, re, Option.getD_none, Option.isSome_none] at had
                    obtain rfl : aloneO 5 = X := by
                      have h1 : seqS (am, ae) (sm, se) (k + 1) = none := by unfold seqS; rw [HQ.out]; simp only; rw [hs]
                      have h2 := seqS_none h1 (T - 1 - (k + 1))
                      rw [show k + 1 + (T - 1 - (k + 1)) = T - 1 by omega] at h2
                      rw [← HE.out, h2]
                    go_wp2_with (first | (go_at_call 107; (with_reducible refine (had _ (HT.out.ext (by with_reducible repeat (first | exact Ext.refl _ | apply Ext.drew | apply Ext.alloc | apply Ext.more_)))).mono ?_); rintro e w' ⟨rfl, hb⟩; obtain ⟨ost, dt, rfl⟩ := hb.more; clear hb) | (go_at_call 27; (with_reducible refine (galone_any _ _).mono ?_); rintro e w' ⟨D, m, cc, rfl, hD, hb⟩; obtain ⟨os5, d5, rfl⟩ := hb.more; clear hb; have hDr := hD.rd))
                    exact bodyPost_ret (v := AV (aloneO 5).R (aloneO 5).C (.slice D m cc)) (by simp [results, Tryz.results54, go_sem]) rfl ⟨D, m, cc, rfl, ⟨(by (try simp only [more_more] at hDr); (try simp only [drew_more] at hDr); (try simp only [more_drew] at hDr); (try simp only [Array.append_assoc] at hDr); exact Rd.swap hDr (by first | (simp; done) | (simp; omega) | omega) (by first | (simp; done) | (simp; omega) | omega) (by first | (simp; done) | (simp; omega) | omega)), hD.len, hD.cap, hD.small, hD.ok⟩, by with_reducible repeat (first | exact Ext.refl _ | apply Ext.drew | apply Ext.alloc | apply Ext.more_)⟩
                  | some q =>
                    obtain ⟨qm, qe⟩ := q
                    have hq := addS_rt hs
                    rw [hs] at had
                    simp only [rnV, rm, re, Option.getD_some, Option.isSome_some] at had
                    have HQ2 : Hid (seqS (am, ae) (sm, se) (k + 1) = some (L ++ [⟨1, qm, qe, ⟨#[]⟩, false, 0⟩], (qm, qe))) := by
                      show _ = _
                      conv => lhs; unfold seqS
                      rw [HQ.out]; simp only; rw [hs]
                    clear hs HE
                    obtain ⟨j0, hi0, hz0, hz1, hz2⟩ := info_parts info_val
                    go_wp2_with (first | (go_at_call 107; (with_reducible refine (had _ (HT.out.ext (by with_reducible repeat (first | exact Ext.refl _ | apply Ext.drew | apply Ext.alloc | apply Ext.more_)))).mono ?_); rintro e w' ⟨rfl, hb⟩; obtain ⟨ost, dt, rfl⟩ := hb.more; clear hb) | (go_at_call 92; (with_reducible refine (of_any _ _ _).mono ?_); rintro e w' ⟨rfl, hb⟩; obtain ⟨osv, dv, rfl⟩ := hb.more; clear hb) | (at_builtin; refine wpList_append_own _ rfl _ _ _ rfl (w.heap.size + 1 + (osa.size + (osb.size + osc.size)) + 1 + 1 + 1) 39 j0 (VV 0 0 0 ⟨#[]⟩ false 0) 6 56 Tryz.underlying28 hi0 hz0 hz1 hz2 rfl (by decide) (.slice G (k + 1) cp) (k + 1) (vcells L) rfl (own_ext (own_two (Obj.cells #[.int .i64 qm, .int .i64 qe] 37) (Obj.cells #[.int .i64 sm, .int .i64 se] 37) HO.out (by simp)) (by repeat (first | (with_reducible (first | exact Ext.refl _ | exact ext_app _ _ _ _ _)) | ((with_reducible refine ext_suffix ⟨_, ?_⟩); (try simp only [Array.append_assoc]); rfl) | (with_reducible (first | apply Ext.drew | apply Ext.alloc | apply Ext.more_))))) _ 1 1 (Val.cells ⟨1, qm, qe, ⟨#[]⟩, false, 0⟩) rfl rfl (new_cells_at _ _ _ (by simp) rfl _) (fun u hu => vcells_one (l := [⟨1, qm, qe, ⟨#[]⟩, false, 0⟩]) u (by simpa [vcells] using hu)) (by simp only [maxLen]; omega) (by omega) (by simp; omega) ?_; intro v4 w4 ho4 hg4 _))
                    have hx0 : Ext ((((more (w.alloc (Obj.cells #[.int .i64 0, .int .i64 0, .slice none 0 0] 30)) (osa ++ (osb ++ osc)) dc).alloc (Obj.cells #[.int .i64 1, .int .i64 0] 37)).alloc (Obj.cells #[.int .i64 qm, .int .i64 qe] 37)).alloc (Obj.cells #[.int .i64 sm, .int .i64 se] 37)) w4 := ext_grownN (n := k + 1) (by repeat (first | (with_reducible (first | exact Ext.refl _ | exact ext_app _ _ _ _ _)) | ((with_reducible refine ext_suffix ⟨_, ?_⟩); (try simp only [Array.append_assoc]); rfl) | (with_reducible (first | apply Ext.drew | apply Ext.alloc | apply Ext.more_)))) (by simpa using own_ext (own_two (Obj.cells #[.int .i64 qm, .int .i64 qe] 37) (Obj.cells #[.int .i64 sm, .int .i64 se] 37) HO.out (by simp)) (by repeat (first | (with_reducible (first | exact Ext.refl _ | exact ext_app _ _ _ _ _)) | ((with_reducible refine ext_suffix ⟨_, ?_⟩); (try simp only [Array.append_assoc]); rfl) | (with_reducible (first | apply Ext.drew | apply Ext.alloc | apply Ext.more_))))) hg4
                    obtain ⟨os9, d9, he9⟩ := hx0.more
                    refine ⟨⟨k + 1, _, (qm, qe), os9, d9, by omega, he9, HQ2, ?_⟩, ?_⟩
                    · show World.ownsRow _ _ _ _ _ _ _
                      rw [vcells_append]; simpa [vcells] using ho4
                    · obtain ⟨G4, c4, rfl⟩ := own_slice ho4
                      simp [slen]; omega
                · obtain rfl : k + 1 = T := by omega
                  obtain rfl : (⟨M, K, L⟩ : NA) = X := by rw [← HE.out, show k + 1 - 1 = k by omega, HQ.out]
                  obtain ⟨D, cc, hv, hD⟩ := own_arrN (n := k + 1) (l := L) (v := .slice G (k + 1) cp) (w := ((((more (w.alloc (Obj.cells #[.int .i64 0, .int .i64 0, .slice none 0 0] 30)) (osa ++ (osb ++ osc)) dc).alloc (Obj.cells #[.int .i64 1, .int .i64 0] 37)).alloc (Obj.cells #[.int .i64 pm, .int .i64 pe] 37)).alloc (Obj.cells #[.int .i64 sm, .int .i64 se] 37))) (X := ((((more (w.alloc (Obj.cells #[.int .i64 0, .int .i64 0, .slice none 0 0] 30)) (osa ++ (osb ++ osc)) dc).alloc (Obj.cells #[.int .i64 1, .int .i64 0] 37)).alloc (Obj.cells #[.int .i64 pm, .int .i64 pe] 37)).alloc (Obj.cells #[.int .i64 sm, .int .i64 se] 37))) (by simpa using HO.out) (Nat.le_refl _) (by omega) (fun x hx => (i3 x hx).ok)
                  simp only [Value.slice.injEq, true_and] at hv
                  obtain ⟨rfl, rfl⟩ := hv
                  clear HE HQ HO hk
                  go_wp2_with (go_at_call 58; (with_reducible refine (made_any _ _ _ _ _ _).mono ?_); rintro e w' ⟨rfl, hb⟩; have hDr := Rd.ext hD.rd hb; obtain ⟨os6, d6, rfl⟩ := hb.more; clear hb)
                  exact bodyPost_ret (v := AV M K (.slice G (k + 1) cp)) (by simp [results, Tryz.results54, go_sem]) rfl ⟨G, k + 1, cp, rfl, ⟨(by (try simp only [more_more] at hDr); (try simp only [drew_more] at hDr); (try simp only [more_drew] at hDr); (try simp only [Array.append_assoc] at hDr); exact Rd.swap hDr (by first | (simp; done) | (simp; omega) | omega) (by first | (simp; done) | (simp; omega) | omega) (by first | (simp; done) | (simp; omega) | omega)), hD.len, hD.cap, hD.small, hD.ok⟩, by with_reducible repeat (first | exact Ext.refl _ | apply Ext.drew | apply Ext.alloc | apply Ext.more_)⟩
      · go_upto_if 38 with (go_at_call 98; (with_reducible refine (v2 _ (H.out.ext (by with_reducible repeat (first | exact Ext.refl _ | apply Ext.drew | apply Ext.alloc | apply Ext.more_)))).mono ?_); rintro e w' ⟨rfl, hb⟩; obtain ⟨osg, dg, rfl⟩ := hb.more; clear hb)
        go_cut [4] (fun s4 wx => ∃ osx dx, s4 = .int .i64 0 ∧ a.2 = 0 ∧ wx = more ((((more (w.alloc (Obj.cells #[.int .i64 0, .int .i64 0, .slice none 0 0] 30)) (osa ++ (osb ++ osc)) dc).alloc (Obj.cells #[.int .i64 1, .int .i64 0] 37)).alloc (Obj.cells #[.int .i64 1, .int .i64 0] 37)).alloc (Obj.cells #[.int .i64 a.1.1, .int .i64 a.1.2] 37)) osx dx)
        case first =>
          cases hg : givenB xs 2 with
          | false =>
            obtain rfl : ((1, 0), 0) = a := by rw [← HA.out]; unfold tnO; rw [hg]; rfl
            clear hg
            go_wp2_with fail
            go_meet
            exact ⟨_, _, rfl, trivial, rfl⟩
          | true =>
            have hlt := given_lt H.out hg
            obtain ⟨R, C, l, b1, off1, n1', cap1, b, off, x, _, rfl, ⟨u0, u1, u2⟩, hn1, hc1, ⟨y0, y1, y2, y3, y4, y5⟩, _, hxr, hbl, hb1, hav, _, _, _⟩ := H.out.first hlt
            have hcap := H.out.cap
            simp only at u0 u1 u2
            obtain rfl : (tnP x, tnF x) = a := by rw [← HA.out]; unfold tnO; rw [hg, if_pos rfl, hav]
            have ht := fun W => toNum_any x W hxr
            clear hg hav
            by_cases hf : tnF x = 0
            · simp only [tnV, hf] at ht
              go_wp2_with (first | (go_at_call 106; (with_reducible refine (ht _).mono ?_); rintro e w' ⟨rfl, hb⟩; obtain ⟨ost, dt, rfl⟩ := hb.more; clear hb))
              go_meet
              exact ⟨_, _, rfl, hf, rfl⟩
            · have hf' : (tnF x != 0) = true := by simpa using hf
              obtain rfl : aloneO (tnF x) = X := by rw [← HX.out]; unfold seqT; rw [if_neg (by simp), if_neg (by simp), if_pos hf]
              go_wp2_with (first | (go_at_call 106; (with_reducible refine (ht _).mono ?_); rintro e w' ⟨rfl, hb⟩; obtain ⟨ost, dt, rfl⟩ := hb.more; clear hb) | (go_at_call 27; (with_reducible refine (galone_any _ _).mono ?_); rintro e w' ⟨D, m, cc, rfl, hD, hb⟩; obtain ⟨os5, d5, rfl⟩ := hb.more; clear hb; have hDr := hD.rd))
              exact bodyPost_ret (v := AV (aloneO (tnF x)).R (aloneO (tnF x)).C (.slice D m cc)) (by simp [results, Tryz.results54, go_sem]) rfl ⟨D, m, cc, rfl, ⟨(by (try simp only [more_more] at hDr); (try simp only [drew_more] at hDr); (try simp only [more_drew] at hDr); (try simp only [Array.append_assoc] at hDr); exact Rd.swap hDr (by first | (simp; done) | (simp; omega) | omega) (by first | (simp; done) | (simp; omega) | omega) (by first | (simp; done) | (simp; omega) | omega)), hD.len, hD.cap, hD.small, hD.ok⟩, by with_reducible repeat (first | exact Ext.refl _ | apply Ext.drew | apply Ext.alloc | apply Ext.more_)⟩
        case rest =>
        obtain ⟨osx, dx, rfl, ha0, rfl⟩ := hcut
        clear osg dg
        go_upto_if 54 with (go_at_call 98; (with_reducible refine (v3 _ (H.out.ext (by with_reducible repeat (first | exact Ext.refl _ | apply Ext.drew | apply Ext.alloc | apply Ext.more_)))).mono ?_); rintro e w' ⟨rfl, hb⟩; obtain ⟨osg, dg, rfl⟩ := hb.more; clear hb)
        go_cut [4] (fun s4 wx => ∃ osy dy, s4 = .int .i64 0 ∧ s.2 = 0 ∧ wx = more ((((more (w.alloc (Obj.cells #[.int .i64 0, .int .i64 0, .slice none 0 0] 30)) (osa ++ (osb ++ osc)) dc).alloc (Obj.cells #[.int .i64 1, .int .i64 0] 37)).alloc (Obj.cells #[.int .i64 s.1.1, .int .i64 s.1.2] 37)).alloc (Obj.cells #[.int .i64 a.1.1, .int .i64 a.1.2] 37)) osy dy)
        case first =>
          cases hg : givenB xs 3 with
          | false =>
            obtain rfl : ((1, 0), 0) = s := by rw [← HS.out]; unfold tnO; rw [hg]; rfl
            clear hg
            go_wp2_with fail
            go_meet
            exact ⟨_, _, rfl, trivial, rfl⟩
          | true =>
            have hlt := given_lt H.out hg
            obtain ⟨R, C, l, b1, off1, n1', cap1, b, off, x, _, rfl, ⟨u0, u1, u2⟩, hn1, hc1, ⟨y0, y1, y2, y3, y4, y5⟩, _, hxr, hbl, hb1, hav, _, _, _⟩ := H.out.first hlt
            have hcap := H.out.cap
            simp only at u0 u1 u2
            obtain rfl : (tnP x, tnF x) = s := by rw [← HS.out]; unfold tnO; rw [hg, if_pos rfl, hav]
            have ht := fun W => toNum_any x W hxr
            clear hg hav
            by_cases hf : tnF x = 0
            · simp only [tnV, hf] at ht
              go_wp2_with (first | (go_at_call 106; (with_reducible refine (ht _).mono ?_); rintro e w' ⟨rfl, hb⟩; obtain ⟨ost, dt, rfl⟩ := hb.more; clear hb))
              go_meet
              exact ⟨_, _, rfl, hf, rfl⟩
            · have hf' : (tnF x != 0) = true := by simpa using hf
              obtain rfl : aloneO (tnF x) = X := by rw [← HX.out]; unfold seqT; rw [if_neg (by simp), if_neg (by simp), if_neg (by simp [ha0]), if_pos hf]
              go_wp2_with (first | (go_at_call 106; (with_reducible refine (ht _).mono ?_); rintro e w' ⟨rfl, hb⟩; obtain ⟨ost, dt, rfl⟩ := hb.more; clear hb) | (go_at_call 27; (with_reducible refine (galone_any _ _).mono ?_); rintro e w' ⟨D, m, cc, rfl, hD, hb⟩; obtain ⟨os5, d5, rfl⟩ := hb.more; clear hb; have hDr := hD.rd))
              exact bodyPost_ret (v := AV (aloneO (tnF x)).R (aloneO (tnF x)).C (.slice D m cc)) (by simp [results, Tryz.results54, go_sem]) rfl ⟨D, m, cc, rfl, ⟨(by (try simp only [more_more] at hDr); (try simp only [drew_more] at hDr); (try simp only [more_drew] at hDr); (try simp only [Array.append_assoc] at hDr); exact Rd.swap hDr (by first | (simp; done) | (simp; omega) | omega) (by first | (simp; done) | (simp; omega) | omega) (by first | (simp; done) | (simp; omega) | omega)), hD.len, hD.cap, hD.small, hD.ok⟩, by with_reducible repeat (first | exact Ext.refl _ | apply Ext.drew | apply Ext.alloc | apply Ext.more_)⟩
        case rest =>
        obtain ⟨osy, dy, rfl, hs0, rfl⟩ := hcut
        clear osx dx
        obtain ⟨⟨am, ae⟩, af⟩ := a
        obtain ⟨⟨sm, se⟩, sf⟩ := s
        simp only at ha0 hs0 har hsr
        subst ha0 hs0
        by_cases q1 : mi < 1
        · obtain rfl : aloneO 9 = X := by rw [← HX.out]; unfold seqT; rw [if_neg (by simp), if_neg (by simp), if_neg (by simp), if_neg (by simp), if_pos (Or.inl q1)]
          go_wp2_with (go_at_call 27; (with_reducible refine (galone_any _ _).mono ?_); rintro e w' ⟨D, m, cc, rfl, hD, hb⟩; obtain ⟨os5, d5, rfl⟩ := hb.more; clear hb; have hDr := hD.rd)
          exact bodyPost_ret (v := AV (aloneO 9).R (aloneO 9).C (.slice D m cc)) (by simp [results, Tryz.results54, go_sem]) rfl ⟨D, m, cc, rfl, ⟨(by (try simp only [more_more] at hDr); (try simp only [drew_more] at hDr); (try simp only [more_drew] at hDr); (try simp only [Array.append_assoc] at hDr); exact Rd.swap hDr (by first | (simp; done) | (simp; omega) | omega) (by first | (simp; done) | (simp; omega) | omega) (by first | (simp; done) | (simp; omega) | omega)), hD.len, hD.cap, hD.small, hD.ok⟩, by with_reducible repeat (first | exact Ext.refl _ | apply Ext.drew | apply Ext.alloc | apply Ext.more_)⟩
        · by_cases q2 : ki < 1
          · obtain rfl : aloneO 9 = X := by rw [← HX.out]; unfold seqT; rw [if_neg (by simp), if_neg (by simp), if_neg (by simp), if_neg (by simp), if_pos (Or.inr q2)]
            go_wp2_with (go_at_call 27; (with_reducible refine (galone_any _ _).mono ?_); rintro e w' ⟨D, m, cc, rfl, hD, hb⟩; obtain ⟨os5, d5, rfl⟩ := hb.more; clear hb; have hDr := hD.rd)
            exact bodyPost_ret (v := AV (aloneO 9).R (aloneO 9).C (.slice D m cc)) (by simp [results, Tryz.results54, go_sem]) rfl ⟨D, m, cc, rfl, ⟨(by (try simp only [more_more] at hDr); (try simp only [drew_more] at hDr); (try simp only [more_drew] at hDr); (try simp only [Array.append_assoc] at hDr); exact Rd.swap hDr (by first | (simp; done) | (simp; omega) | omega) (by first | (simp; done) | (simp; omega) | omega) (by first | (simp; done) | (simp; omega) | omega)), hD.len, hD.cap, hD.small, hD.ok⟩, by with_reducible repeat (first | exact Ext.refl _ | apply Ext.drew | apply Ext.alloc | apply Ext.more_)⟩
          · have hq := quo_lt (r := mi) (c := ki) (by omega)
            by_cases q3 : 4096 < mi * ki
            · obtain rfl : aloneO 5 = X := by rw [← HX.out]; unfold seqT; rw [if_neg (by simp), if_neg (by simp), if_neg (by simp), if_neg (by simp), if_neg (by omega), if_pos q3]
              have q4 : 4096 / ki < mi := hq.2 q3
              go_wp2_with (go_at_call 27; (with_reducible refine (galone_any _ _).mono ?_); rintro e w' ⟨D, m, cc, rfl, hD, hb⟩; obtain ⟨os5, d5, rfl⟩ := hb.more; clear hb; have hDr := hD.rd)
              exact bodyPost_ret (v := AV (aloneO 5).R (aloneO 5).C (.slice D m cc)) (by simp [results, Tryz.results54, go_sem]) rfl ⟨D, m, cc, rfl, ⟨(by (try simp only [more_more] at hDr); (try simp only [drew_more] at hDr); (try simp only [more_drew] at hDr); (try simp only [Array.append_assoc] at hDr); exact Rd.swap hDr (by first | (simp; done) | (simp; omega) | omega) (by first | (simp; done) | (simp; omega) | omega) (by first | (simp; done) | (simp; omega) | omega)), hD.len, hD.cap, hD.small, hD.ok⟩, by with_reducible repeat (first | exact Ext.refl _ | apply Ext.drew | apply Ext.alloc | apply Ext.more_)⟩
            · have q4 : ¬ 4096 / ki < mi := fun e => q3 (hq.1 e)
              clear hq
              obtain ⟨M, rfl⟩ : ∃ M : Nat, mi = M := ⟨mi.toNat, by omega⟩
              obtain ⟨K, rfl⟩ : ∃ K : Nat, ki = K := ⟨ki.toNat, by omega⟩
              have q5 : M * K ≤ 4096 := by rw [← Int.natCast_mul] at q3; omega
              have e1 : IntKind.i64.wrap ((M : Int) * (K : Int)) = ((M * K : Nat) : Int) := by rw [IntKind.wrap_i64, ← Int.natCast_mul]; omega
              have q6 : 1 ≤ M * K := Nat.mul_pos (by omega) (by omega)
              have hXe : seqT ((M : Int), 0) ((K : Int), 0) ((am, ae), 0) ((sm, se), 0) = match seqS (am, ae) (sm, se) (M * K - 1) with
                | none => aloneO 5
                | some (l, _) => ⟨M, K, l⟩ := by
                unfold seqT
                rw [if_neg (by simp), if_neg (by simp), if_neg (by simp), if_neg (by simp), if_neg (by omega), if_neg q3]
                rfl
              have HE := Lib.hid (hXe.symm.trans HX.out)
              generalize hT : M * K = T at *
              clear hXe HX q3 hT
              go_wp2_with (go_at_call 92; (with_reducible refine (of_any _ _ _).mono ?_); rintro e w' ⟨rfl, hb⟩; obtain ⟨oso, do_, rfl⟩ := hb.more; clear hb)
              go_loopw [10] (fun v wr => ∃ (k : Nat) (L : List Val) (p : Int × Int) (os : Array Obj) (d : Nat), k + 1 ≤ T ∧ wr = more ((((more (w.alloc (Obj.cells #[.int .i64 0, .int .i64 0, .slice none 0 0] 30)) (osa ++ (osb ++ osc)) dc).alloc (Obj.cells #[.int .i64 1, .int .i64 0] 37)).alloc (Obj.cells #[.int .i64 sm, .int .i64 se] 37)).alloc (Obj.cells #[.int .i64 p.1, .int .i64 p.2] 37)) os d ∧ Hid (seqS (am, ae) (sm, se) k = some (L, p)) ∧ Hid (wr.ownsRow (w.heap.size + 1 + (osa.size + (osb.size + osc.size)) + 1 + 1 + 1) 39 6 v (k + 1) (vcells L))) (fun v _ => T - slen v)
              case atStart => exact ⟨0, [⟨1, am, ae, ⟨#[]⟩, false, 0⟩], (am, ae), _, _, q6, more_alloc _ _ _ _, rfl, new_own6 ⟨1, am, ae, ⟨#[]⟩, false, 0⟩ rfl (by simp) (by omega)⟩
              case round =>
                obtain ⟨k, L, p, os, d, hk, rfl, HQ, HO⟩ := hrel
                obtain ⟨G, cp, rfl⟩ := own_slice HO.out
                obtain ⟨i1, i2, i3⟩ := seqS_some har hsr HQ.out
                obtain ⟨pm, pe⟩ := p
                simp only at i2
                by_cases hlt : k + 1 < T
                · have hlt' : ((k : Int) + 1) < (T : Int) := by omega
                  have had := fun W (hT : Tab W) => add_any pm pe sm se W hT (rt_i64 i2) (rt_i64 hsr)
                  cases hs : addS pm pe sm se with
                  | none =>
                    rw [hs] at had
                    simp only [rnV, rm, re, Option.getD_none, Option.isSome_none] at had
                    obtain rfl : aloneO 5 = X := by
                      have h1 : seqS (am, ae) (sm, se) (k + 1) = none := by unfold seqS; rw [HQ.out]; simp only; rw [hs]
                      have h2 := seqS_none h1 (T - 1 - (k + 1))
                      rw [show k + 1 + (T - 1 - (k + 1)) = T - 1 by omega] at h2
                      rw [← HE.out, h2]
                    go_wp2_with (first | (go_at_call 107; (with_reducible refine (had _ (HT.out.ext (by with_reducible repeat (first | exact Ext.refl _ | apply Ext.drew | apply Ext.alloc | apply Ext.more_)))).mono ?_); rintro e w' ⟨rfl, hb⟩; obtain ⟨ost, dt, rfl⟩ := hb.more; clear hb) | (go_at_call 27; (with_reducible refine (galone_any _ _).mono ?_); rintro e w' ⟨D, m, cc, rfl, hD, hb⟩; obtain ⟨os5, d5, rfl⟩ := hb.more; clear hb; have hDr := hD.rd))
                    exact bodyPost_ret (v := AV (aloneO 5).R (aloneO 5).C (.slice D m cc)) (by simp [results, Tryz.results54, go_sem]) rfl ⟨D, m, cc, rfl, ⟨(by (try simp only [more_more] at hDr); (try simp only [drew_more] at hDr); (try simp only [more_drew] at hDr); (try simp only [Array.append_assoc] at hDr); exact Rd.swap hDr (by first | (simp; done) | (simp; omega) | omega) (by first | (simp; done) | (simp; omega) | omega) (by first | (simp; done) | (simp; omega) | omega)), hD.len, hD.cap, hD.small, hD.ok⟩, by with_reducible repeat (first | exact Ext.refl _ | apply Ext.drew | apply Ext.alloc | apply Ext.more_)⟩
                  | some q =>
                    obtain ⟨qm, qe⟩ := q
                    have hq := addS_rt hs
                    rw [hs] at had
                    simp only [rnV, rm, re, Option.getD_some, Option.isSome_some] at had
                    have HQ2 : Hid (seqS (am, ae) (sm, se) (k + 1) = some (L ++ [⟨1, qm, qe, ⟨#[]⟩, false, 0⟩], (qm, qe))) := by
                      show _ = _
                      conv => lhs; unfold seqS
                      rw [HQ.out]; simp only; rw [hs]
                    clear hs HE
                    obtain ⟨j0, hi0, hz0, hz1, hz2⟩ := info_parts info_val
                    go_wp2_with (first | (go_at_call 107; (with_reducible refine (had _ (HT.out.ext (by with_reducible repeat (first | exact Ext.refl _ | apply Ext.drew | apply Ext.alloc | apply Ext.more_)))).mono ?_); rintro e w' ⟨rfl, hb⟩; obtain ⟨ost, dt, rfl⟩ := hb.more; clear hb) | (go_at_call 92; (with_reducible refine (of_any _ _ _).mono ?_); rintro e w' ⟨rfl, hb⟩; obtain ⟨osv, dv, rfl⟩ := hb.more; clear hb) | (at_builtin; refine wpList_append_own _ rfl _ _ _ rfl (w.heap.size + 1 + (osa.size + (osb.size + osc.size)) + 1 + 1 + 1) 39 j0 (VV 0 0 0 ⟨#[]⟩ false 0) 6 56 Tryz.underlying28 hi0 hz0 hz1 hz2 rfl (by decide) (.slice G (k + 1) cp) (k + 1) (vcells L) rfl (own_ext (own_two (Obj.cells #[.int .i64 sm, .int .i64 se] 37) (Obj.cells #[.int .i64 qm, .int .i64 qe] 37) HO.out (by simp)) (by repeat (first | (with_reducible (first | exact Ext.refl _ | exact ext_app _ _ _ _ _)) | ((with_reducible refine ext_suffix ⟨_, ?_⟩); (try simp only [Array.append_assoc]); rfl) | (with_reducible (first | apply Ext.drew | apply Ext.alloc | apply Ext.more_))))) _ 1 1 (Val.cells ⟨1, qm, qe, ⟨#[]⟩, false, 0⟩) rfl rfl (new_cells_at _ _ _ (by simp) rfl _) (fun u hu => vcells_one (l := [⟨1, qm, qe, ⟨#[]⟩, false, 0⟩]) u (by simpa [vcells] using hu)) (by simp only [maxLen]; omega) (by omega) (by simp; omega) ?_; intro v4 w4 ho4 hg4 _))
                    have hx0 : Ext ((((more (w.alloc (Obj.cells #[.int .i64 0, .int .i64 0, .slice none 0 0] 30)) (osa ++ (osb ++ osc)) dc).alloc (Obj.cells #[.int .i64 1, .int .i64 0] 37)).alloc (Obj.cells #[.int .i64 sm, .int .i64 se] 37)).alloc (Obj.cells #[.int .i64 qm, .int .i64 qe] 37)) w4 := ext_grownN (n := k + 1) (by repeat (first | (with_reducible (first | exact Ext.refl _ | exact ext_app _ _ _ _ _)) | ((with_reducible refine ext_suffix ⟨_, ?_⟩); (try simp only [Array.append_assoc]); rfl) | (with_reducible (first | apply Ext.drew | apply Ext.alloc | apply Ext.more_)))) (by simpa using own_ext (own_two (Obj.cells #[.int .i64 sm, .int .i64 se] 37) (Obj.cells #[.int .i64 qm, .int .i64 qe] 37) HO.out (by simp)) (by repeat (first | (with_reducible (first | exact Ext.refl _ | exact ext_app _ _ _ _ _)) | ((with_reducible refine ext_suffix ⟨_, ?_⟩); (try simp only [Array.append_assoc]); rfl) | (with_reducible (first | apply Ext.drew | apply Ext.alloc | apply Ext.more_))))) hg4
                    obtain ⟨os9, d9, he9⟩ := hx0.more
                    refine ⟨⟨k + 1, _, (qm, qe), os9, d9, by omega, he9, HQ2, ?_⟩, ?_⟩
                    · show World.ownsRow _ _ _ _ _ _ _
                      rw [vcells_append]; simpa [vcells] using ho4
                    · obtain ⟨G4, c4, rfl⟩ := own_slice ho4
                      simp [slen]; omega
                · obtain rfl : k + 1 = T := by omega
                  obtain rfl : (⟨M, K, L⟩ : NA) = X := by rw [← HE.out, show k + 1 - 1 = k by omega, HQ.out]
                  obtain ⟨D, cc, hv, hD⟩ := own_arrN (n := k + 1) (l := L) (v := .slice G (k + 1) cp) (w := ((((more (w.alloc (Obj.cells #[.int .i64 0, .int .i64 0, .slice none 0 0] 30)) (osa ++ (osb ++ osc)) dc).alloc (Obj.cells #[.int .i64 1, .int .i64 0] 37)).alloc (Obj.cells #[.int .i64 sm, .int .i64 se] 37)).alloc (Obj.cells #[.int .i64 pm, .int .i64 pe] 37))) (X := ((((more (w.alloc (Obj.cells #[.int .i64 0, .int .i64 0, .slice none 0 0] 30)) (osa ++ (osb ++ osc)) dc).alloc (Obj.cells #[.int .i64 1, .int .i64 0] 37)).alloc (Obj.cells #[.int .i64 sm, .int .i64 se] 37)).alloc (Obj.cells #[.int .i64 pm, .int .i64 pe] 37))) (by simpa using HO.out) (Nat.le_refl _) (by omega) (fun x hx => (i3 x hx).ok)
                  simp only [Value.slice.injEq, true_and] at hv
                  obtain ⟨rfl, rfl⟩ := hv
                  clear HE HQ HO hk
                  go_wp2_with (go_at_call 58; (with_reducible refine (made_any _ _ _ _ _ _).mono ?_); rintro e w' ⟨rfl, hb⟩; have hDr := Rd.ext hD.rd hb; obtain ⟨os6, d6, rfl⟩ := hb.more; clear hb)
                  exact bodyPost_ret (v := AV M K (.slice G (k + 1) cp)) (by simp [results, Tryz.results54, go_sem]) rfl ⟨G, k + 1, cp, rfl, ⟨(by (try simp only [more_more] at hDr); (try simp only [drew_more] at hDr); (try simp only [more_drew] at hDr); (try simp only [Array.append_assoc] at hDr); exact Rd.swap hDr (by first | (simp; done) | (simp; omega) | omega) (by first | (simp; done) | (simp; omega) | omega) (by first | (simp; done) | (simp; omega) | omega)), hD.len, hD.cap, hD.small, hD.ok⟩, by with_reducible repeat (first | exact Ext.refl _ | apply Ext.drew | apply Ext.alloc | apply Ext.more_)⟩
    · have hX : seqT (mi, 0) (ki, kf) (tnO xs 2) (tnO xs 3) = aloneO kf := by unfold seqT; rw [if_neg (by simp), if_pos hkf]
      rw [hX]
      have hf' : (kf != 0) = true := by simpa using hkf
      clear hX hkf
      go_enter Tryz.func54, Tryz.ntmps54
      go_wp2_with (first | (go_at_call 93; (with_reducible refine (n0 _ (H.out.ext (by with_reducible repeat (first | exact Ext.refl _ | apply Ext.drew | apply Ext.alloc | apply Ext.more_)))).mono ?_); rintro e w' ⟨rfl, hb⟩; obtain ⟨osa, da, rfl⟩ := hb.more; clear hb) | (go_at_call 93; (with_reducible refine (n1 _ (H.out.ext (by with_reducible repeat (first | exact Ext.refl _ | apply Ext.drew | apply Ext.alloc | apply Ext.more_)))).mono ?_); rintro e w' ⟨rfl, hb⟩; obtain ⟨osb, db, rfl⟩ := hb.more; clear hb) | (go_at_call 91; (with_reducible refine (make_one _ (HT.out.ext (by with_reducible repeat (first | exact Ext.refl _ | apply Ext.drew | apply Ext.alloc | apply Ext.more_)))).mono ?_); rintro e w' ⟨rfl, hb⟩; obtain ⟨osc, dc, rfl⟩ := hb.more; clear hb) | (go_at_call 27; (with_reducible refine (galone_any _ _).mono ?_); rintro e w' ⟨D, m, cc, rfl, hD, hb⟩; obtain ⟨os5, d5, rfl⟩ := hb.more; clear hb; have hDr := hD.rd))
      exact bodyPost_ret (v := AV (aloneO kf).R (aloneO kf).C (.slice D m cc)) (by simp [results, Tryz.results54, go_sem]) rfl ⟨D, m, cc, rfl, ⟨(by (try simp only [more_more] at hDr); (try simp only [drew_more] at hDr); (try simp only [more_drew] at hDr); (try simp only [Array.append_assoc] at hDr); exact Rd.swap hDr (by first | (simp; done) | (simp; omega) | omega) (by first | (simp; done) | (simp; omega) | omega) (by first | (simp; done) | (simp; omega) | omega)), hD.len, hD.cap, hD.small, hD.ok⟩, by with_reducible repeat (first | exact Ext.refl _ | apply Ext.drew | apply Ext.alloc | apply Ext.more_)⟩
  · have hX : seqT (mi, mf) (ki, kf) (tnO xs 2) (tnO xs 3) = aloneO mf := by unfold seqT; rw [if_pos hmf]
    rw [hX]
    have hf' : (mf != 0) = true := by simpa using hmf
    clear hX hmf
    go_enter Tryz.func54, Tryz.ntmps54
    go_wp2_with (first | (go_at_call 93; (with_reducible refine (n0 _ (H.out.ext (by with_reducible repeat (first | exact Ext.refl _ | apply Ext.drew | apply Ext.alloc | apply Ext.more_)))).mono ?_); rintro e w' ⟨rfl, hb⟩; obtain ⟨osa, da, rfl⟩ := hb.more; clear hb) | (go_at_call 93; (with_reducible refine (n1 _ (H.out.ext (by with_reducible repeat (first | exact Ext.refl _ | apply Ext.drew | apply Ext.alloc | apply Ext.more_)))).mono ?_); rintro e w' ⟨rfl, hb⟩; obtain ⟨osb, db, rfl⟩ := hb.more; clear hb) | (go_at_call 91; (with_reducible refine (make_one _ (HT.out.ext (by with_reducible repeat (first | exact Ext.refl _ | apply Ext.drew | apply Ext.alloc | apply Ext.more_)))).mono ?_); rintro e w' ⟨rfl, hb⟩; obtain ⟨osc, dc, rfl⟩ := hb.more; clear hb) | (go_at_call 27; (with_reducible refine (galone_any _ _).mono ?_); rintro e w' ⟨D, m, cc, rfl, hD, hb⟩; obtain ⟨os5, d5, rfl⟩ := hb.more; clear hb; have hDr := hD.rd))
    exact bodyPost_ret (v := AV (aloneO mf).R (aloneO mf).C (.slice D m cc)) (by simp [results, Tryz.results54, go_sem]) rfl ⟨D, m, cc, rfl, ⟨(by (try simp only [more_more] at hDr); (try simp only [drew_more] at hDr); (try simp only [more_drew] at hDr); (try simp only [Array.append_assoc] at hDr); exact Rd.swap hDr (by first | (simp; done) | (simp; omega) | omega) (by first | (simp; done) | (simp; omega) | omega) (by first | (simp; done) | (simp; omega) | omega)), hD.len, hD.cap, hD.small, hD.ok⟩, by with_reducible repeat (first | exact Ext.refl _ | apply Ext.drew | apply Ext.alloc | apply Ext.more_)⟩
end Go.Proofs.YtlfbdodokldkhaaGreatDoor
namespace Go.Proofs.YtlfbdodokldkhaaGreatDoor
open Go.RowKit NM
theorem rof15_any (m e : Int) (w : World) :
    Calls Tryz.prog 34 #[NV m e] w fun r w' => r = .returned (VV 1 m e ⟨#[]⟩ false 0) ∧ Ext w w' := by
  go_enter Tryz.func34, Tryz.ntmps34
  go_wp2
  exact bodyPost_ret (v := VV 1 m e ⟨#[]⟩ false 0) (by simp [results, Tryz.results34, go_sem]) rfl ⟨rfl, by with_reducible repeat (first | exact Ext.refl _ | apply Ext.drew | apply Ext.alloc | apply Ext.more_)⟩
theorem rbad_res (f : Int) (hf : 1 ≤ f ∧ f ≤ 9) (w : World) : Calls Tryz.prog 20 #[.int .i64 f] w fun e w' => ResA w (aloneO f) e w' := by
  refine (refBad_any f w).mono ?_
  rintro e w' ⟨h1, h2⟩
  have hb : bad_ f = badV f := by unfold bad_ badF; rw [if_neg (by omega)]
  refine ArrO.res (x := aloneO f) ?_ (by simp [aloneO, oneA]) (fun y hy => by rw [show y = bad_ f by simpa [aloneO, oneA] using hy]; exact ok_bad f) h2
  show ArrO w.heap.size w' e 1 1 [bad_ f]
  rw [hb]; exact h1
abbrev CallI (w : World) (X : NA) : Ending → World → Prop := fun e w' => ∃ D m cc, e = .returned (.tuple #[AV X.R X.C (.slice D m cc), .bool true]) ∧ ArrIn w' D m cc X.l ∧ Ext w w'
set_option maxHeartbeats 2000000 in
/-- So many arguments as it doesn't take. -/
theorem rcall_few (s : ByteArray) (lo hi : Nat) (h1 : lo ≤ 100) (h2 : 1 ≤ hi) (h3 : hi ≤ 100) (hc : ∀ W, Calls Tryz.prog 32 #[.string s] W fun e w' => e = .returned (.tuple #[.int .i64 lo, .int .i64 hi]) ∧ Ext W w')
    (A : Option Addr) (n cap : Nat) (gs : List GA) (w : World) (h : ArgsG w A n cap gs) (hn : n < lo ∨ hi < n) :
    Calls Tryz.prog 24 #[.string s, .slice A n cap] w (CallI w (aloneO 2)) := by
  have hsm := h.small
  have h0 : ((hi : Int) == 0) = false := by simp; omega
  by_cases q1 : n < lo
  · clear hn h
    go_enter Tryz.func24, Tryz.ntmps24
    go_wp2_with (first | (go_at_call 32; (with_reducible refine (hc _).mono ?_); rintro e w' ⟨rfl, hb⟩; obtain ⟨os1, d1, rfl⟩ := hb.more; clear hb) | (go_at_call 20; (with_reducible refine (rbad_res 2 (by omega) _).mono ?_); rintro e w' ⟨D, m, cc, rfl, hD, hb⟩; obtain ⟨os5, d5, rfl⟩ := hb.more; clear hb; have hDr := hD.rd))
    exact bodyPost_ret (v := .tuple #[AV (aloneO 2).R (aloneO 2).C (.slice D m cc), .bool true]) (by simp [results, Tryz.results24, go_sem]) rfl ⟨D, m, cc, rfl, ArrN.arr (base := w.heap.size) ⟨(by (try simp only [more_more] at hDr); (try simp only [drew_more] at hDr); (try simp only [more_drew] at hDr); (try simp only [Array.append_assoc] at hDr); exact Rd.swap hDr (by first | (simp; done) | (simp; omega) | omega) (by first | (simp; done) | (simp; omega) | omega) (by first | (simp; done) | (simp; omega) | omega)), hD.len, hD.cap, hD.small, hD.ok⟩, by with_reducible repeat (first | exact Ext.refl _ | apply Ext.drew | apply Ext.alloc | apply Ext.more_)⟩
  · have q2 : hi < n := by omega
    clear hn h
    go_enter Tryz.func24, Tryz.ntmps24
    go_wp2_with (first | (go_at_call 32; (with_reducible refine (hc _).mono ?_); rintro e w' ⟨rfl, hb⟩; obtain ⟨os1, d1, rfl⟩ := hb.more; clear hb) | (go_at_call 20; (with_reducible refine (rbad_res 2 (by omega) _).mono ?_); rintro e w' ⟨D, m, cc, rfl, hD, hb⟩; obtain ⟨os5, d5, rfl⟩ := hb.more; clear hb; have hDr := hD.rd))
    exact bodyPost_ret (v := .tuple #[AV (aloneO 2).R (aloneO 2).C (.slice D m cc), .bool true]) (by simp [results, Tryz.results24, go_sem]) rfl ⟨D, m, cc, rfl, ArrN.arr (base := w.heap.size) ⟨(by (try simp only [more_more] at hDr); (try simp only [drew_more] at hDr); (try simp only [more_drew] at hDr); (try simp only [Array.append_assoc] at hDr); exact Rd.swap hDr (by first | (simp; done) | (simp; omega) | omega) (by first | (simp; done) | (simp; omega) | omega) (by first | (simp; done) | (simp; omega) | omega)), hD.len, hD.cap, hD.small, hD.ok⟩, by with_reducible repeat (first | exact Ext.refl _ | apply Ext.drew | apply Ext.alloc | apply Ext.more_)⟩
set_option maxHeartbeats 2000000 in
/-- One that may not be. -/
theorem rcall_bad (s : ByteArray) (lo hi : Nat) (h1 : lo ≤ 100) (h2 : 1 ≤ hi) (h3 : hi ≤ 100) (hc : ∀ W, Calls Tryz.prog 32 #[.string s] W fun e w' => e = .returned (.tuple #[.int .i64 lo, .int .i64 hi]) ∧ Ext W w')
    (A : Option Addr) (n cap : Nat) (gs : List GA) (w : World) (h : ArgsG w A n cap gs) (hn1 : lo ≤ n) (hn2 : n ≤ hi) (hb : ¬ ∀ g ∈ gs, g.right = true) :
    Calls Tryz.prog 24 #[.string s, .slice A n cap] w (CallI w (aloneO 9)) := by
  have hsm := h.small
  have h0 : ((hi : Int) == 0) = false := by simp; omega
  have q1 : ¬ n < lo := by omega
  have q2 : ¬ hi < n := by omega
  have HB := Lib.hid hb
  clear hb hn1 hn2
  go_enter Tryz.func24, Tryz.ntmps24
  go_wp2_with (go_at_call 32; (with_reducible refine (hc _).mono ?_); rintro e w' ⟨rfl, hb⟩; obtain ⟨os1, d1, rfl⟩ := hb.more; clear hb)
  go_loopw [8] (fun i wr => ∃ k : Nat, k ≤ n ∧ i = .int .i64 k ∧ Ext (more (w.alloc (Obj.cells #[.int .i64 0, .int .i64 0, .slice none 0 0] 30)) os1 d1) wr ∧ Hid (∀ j g, j < k → gs[j]? = some g → g.right = true)) (fun i _ => n - (intOf i).toNat)
  case atStart => exact ⟨0, Nat.zero_le _, rfl, Ext.refl _, fun j g hj => absurd hj (Nat.not_lt_zero _)⟩
  case round =>
    obtain ⟨k, hk, rfl, hX, HR⟩ := hrel
    obtain ⟨os, d, rfl⟩ := hX.more
    clear hX
    by_cases hlt : k < n
    · obtain ⟨g, b, off, hg, rfl, hat, harr⟩ := h.at hlt
      obtain ⟨v0, v1, v2⟩ := hat
      have hbl : b < w.heap.size := lt_of_cell v0
      have hcap := h.cap
      have hra := fun W (hW : ArrIn W g.A g.n g.cap g.l) => refRightA_any g.r g.c g.A g.n g.cap g.l W hW
      rw [← rightA_eq g.r g.c g.l harr.ok] at hra
      cases hr : rightA g.r g.c g.l with
      | true =>
        rw [hr] at hra
        go_wp2_with (go_at_call 14; refine (hra _ (harr.ext (by with_reducible repeat (first | exact Ext.refl _ | apply Ext.drew | apply Ext.alloc | apply Ext.more_)))).mono ?_; rintro e w' ⟨rfl, hb⟩; obtain ⟨os', d', rfl⟩ := hb.more; clear hb)
        refine ⟨⟨k + 1, by omega, by go_num, by repeat (first | (with_reducible (first | exact Ext.refl _ | exact ext_app _ _ _ _ _ | exact ext_app2 _ _ _ _ _ _)) | ((with_reducible refine ext_suffix ⟨_, ?_⟩); (try simp only [Array.append_assoc]); rfl) | (with_reducible (first | apply Ext.drew | apply Ext.alloc | apply Ext.more_))), ?_⟩, by simp [intOf]; omega⟩
        intro j g' hj hg'
        by_cases hjk : j = k
        · subst hjk
          obtain rfl : g = g' := by rw [hg] at hg'; simpa using hg'
          exact hr
        · exact HR.out j g' (by omega) hg'
      | false =>
        rw [hr] at hra
        go_wp2_with (first | (go_at_call 14; refine (hra _ (harr.ext (by with_reducible repeat (first | exact Ext.refl _ | apply Ext.drew | apply Ext.alloc | apply Ext.more_)))).mono ?_; rintro e w' ⟨rfl, hb⟩; obtain ⟨os', d', rfl⟩ := hb.more; clear hb) | (go_at_call 20; (with_reducible refine (rbad_res 9 (by omega) _).mono ?_); rintro e w' ⟨D, m, cc, rfl, hD, hb⟩; obtain ⟨os5, d5, rfl⟩ := hb.more; clear hb; have hDr := hD.rd))
        exact bodyPost_ret (v := .tuple #[AV (aloneO 9).R (aloneO 9).C (.slice D m cc), .bool true]) (by simp [results, Tryz.results24, go_sem]) rfl ⟨D, m, cc, rfl, ArrN.arr (base := w.heap.size) ⟨(by (try simp only [more_more] at hDr); (try simp only [drew_more] at hDr); (try simp only [more_drew] at hDr); (try simp only [Array.append_assoc] at hDr); exact Rd.swap hDr (by first | (simp; done) | (simp; omega) | omega) (by first | (simp; done) | (simp; omega) | omega) (by first | (simp; done) | (simp; omega) | omega)), hD.len, hD.cap, hD.small, hD.ok⟩, by with_reducible repeat (first | exact Ext.refl _ | apply Ext.drew | apply Ext.alloc | apply Ext.more_)⟩
    · exfalso
      have hlen := h.len
      refine HB.out fun g hg => ?_
      obtain ⟨j, hj, rfl⟩ := List.mem_iff_getElem.1 hg
      exact HR.out j _ (by omega) (List.getElem?_eq_getElem hj)
theorem rcount_columns (w : World) : Calls Tryz.prog 32 #[.string ⟨#[67, 79, 76, 85, 77, 78, 83]⟩] w fun e w' => e = .returned (.tuple #[.int .i64 1, .int .i64 1]) ∧ Ext w w' := by
  go_enter Tryz.func32, Tryz.ntmps32
  go_wp2
  exact bodyPost_ret (v := .tuple #[.int .i64 1, .int .i64 1]) (by simp [results, Tryz.results32, go_sem]) rfl ⟨rfl, by with_reducible repeat (first | exact Ext.refl _ | apply Ext.drew | apply Ext.alloc | apply Ext.more_)⟩
theorem rcount_hstack (w : World) : Calls Tryz.prog 32 #[.string ⟨#[72, 83, 84, 65, 67, 75]⟩] w fun e w' => e = .returned (.tuple #[.int .i64 1, .int .i64 32]) ∧ Ext w w' := by
  go_enter Tryz.func32, Tryz.ntmps32
  go_wp2
  exact bodyPost_ret (v := .tuple #[.int .i64 1, .int .i64 32]) (by simp [results, Tryz.results32, go_sem]) rfl ⟨rfl, by with_reducible repeat (first | exact Ext.refl _ | apply Ext.drew | apply Ext.alloc | apply Ext.more_)⟩
theorem rcount_rows (w : World) : Calls Tryz.prog 32 #[.string ⟨#[82, 79, 87, 83]⟩] w fun e w' => e = .returned (.tuple #[.int .i64 1, .int .i64 1]) ∧ Ext w w' := by
  go_enter Tryz.func32, Tryz.ntmps32
  go_wp2
  exact bodyPost_ret (v := .tuple #[.int .i64 1, .int .i64 1]) (by simp [results, Tryz.results32, go_sem]) rfl ⟨rfl, by with_reducible repeat (first | exact Ext.refl _ | apply Ext.drew | apply Ext.alloc | apply Ext.more_)⟩
theorem rcount_tocol (w : World) : Calls Tryz.prog 32 #[.string ⟨#[84, 79, 67, 79, 76]⟩] w fun e w' => e = .returned (.tuple #[.int .i64 1, .int .i64 1]) ∧ Ext w w' := by
  go_enter Tryz.func32, Tryz.ntmps32
  go_wp2
  exact bodyPost_ret (v := .tuple #[.int .i64 1, .int .i64 1]) (by simp [results, Tryz.results32, go_sem]) rfl ⟨rfl, by with_reducible repeat (first | exact Ext.refl _ | apply Ext.drew | apply Ext.alloc | apply Ext.more_)⟩
theorem rcount_torow (w : World) : Calls Tryz.prog 32 #[.string ⟨#[84, 79, 82, 79, 87]⟩] w fun e w' => e = .returned (.tuple #[.int .i64 1, .int .i64 1]) ∧ Ext w w' := by
  go_enter Tryz.func32, Tryz.ntmps32
  go_wp2
  exact bodyPost_ret (v := .tuple #[.int .i64 1, .int .i64 1]) (by simp [results, Tryz.results32, go_sem]) rfl ⟨rfl, by with_reducible repeat (first | exact Ext.refl _ | apply Ext.drew | apply Ext.alloc | apply Ext.more_)⟩
theorem rcount_transpose (w : World) : Calls Tryz.prog 32 #[.string ⟨#[84, 82, 65, 78, 83, 80, 79, 83, 69]⟩] w fun e w' => e = .returned (.tuple #[.int .i64 1, .int .i64 1]) ∧ Ext w w' := by
  go_enter Tryz.func32, Tryz.ntmps32
  go_wp2
  exact bodyPost_ret (v := .tuple #[.int .i64 1, .int .i64 1]) (by simp [results, Tryz.results32, go_sem]) rfl ⟨rfl, by with_reducible repeat (first | exact Ext.refl _ | apply Ext.drew | apply Ext.alloc | apply Ext.more_)⟩
theorem rcount_vstack (w : World) : Calls Tryz.prog 32 #[.string ⟨#[86, 83, 84, 65, 67, 75]⟩] w fun e w' => e = .returned (.tuple #[.int .i64 1, .int .i64 32]) ∧ Ext w w' := by
  go_enter Tryz.func32, Tryz.ntmps32
  go_wp2
  exact bodyPost_ret (v := .tuple #[.int .i64 1, .int .i64 32]) (by simp [results, Tryz.results32, go_sem]) rfl ⟨rfl, by with_reducible repeat (first | exact Ext.refl _ | apply Ext.drew | apply Ext.alloc | apply Ext.more_)⟩
end Go.Proofs.YtlfbdodokldkhaaGreatDoor
namespace Go.Proofs.YtlfbdodokldkhaaGreatDoor
open Go.RowKit NM
theorem gheap_new (w : World) (o : Obj) : (w.alloc o).heap[w.heap.size]? = some o := Array.getElem?_push_size
theorem argsG_new {w : World} {t : TypeId} {p : Nat} {cs : Array Value} (xs : List Ar) (hp : p = w.heap.size) (hc : cs = (acells xs).toArray) {n : Nat} (hn : xs.length = n) (hs : n ≤ 9223372036854775807) (h : ∀ a ∈ xs, ArOk w a) :
    ArgsIn (w.alloc (.cells cs t)) (some ⟨p, 0, none⟩) n n xs :=
  ⟨by subst hp hc; exact Rd.of_row (gheap_new _ _) 0 (Nat.zero_le _), hn, Nat.le_refl _, hs, fun a ha => (h a ha).ext ((Ext.refl _).alloc _)⟩
/-- An array of one value at a place. -/
def arAt (x : NA) (D : Option Addr) (m c : Nat) : Ar := ⟨x, D, m, c⟩
theorem one_right_ {y : Val} (h : y.right) : (oneA y).right := rightA_nat.2 ⟨Nat.le_refl _, Nat.le_refl _, (by show 1 * 1 ≤ 4096; decide), rfl, fun x hx => by rw [List.mem_singleton.1 hx]; exact h⟩
theorem gvar_at (w : World) (o : Obj) (osa osb : Array Obj) (da db : Nat) : (more ((more w osa da).alloc o) osb db).heap[w.heap.size + osa.size]? = some o := by
  have h := gheap_new (more w osa da) o
  rw [show (more w osa da).heap.size = w.heap.size + osa.size by simp] at h
  have x0 : Ext ((more w osa da).alloc o) (more ((more w osa da).alloc o) osb db) := by with_reducible repeat (first | exact Ext.refl _ | apply Ext.drew | apply Ext.alloc | apply Ext.more_)
  rw [x0.block (b := w.heap.size + osa.size) (by simp)]
  exact h
theorem gheap_var (w : World) (o o' : Obj) (osa osb : Array Obj) (da db : Nat) {b : Nat} (hb : b ≠ w.heap.size + osa.size) :
    (more ((more w osa da).alloc o') osb db).heap[b]? = (more ((more w osa da).alloc o) osb db).heap[b]? := by
  simp only [more, World.alloc, Array.getElem?_append, Array.getElem?_push, Array.size_push, Array.size_append]
  by_cases h : b < w.heap.size + osa.size + 1
  · rw [if_pos h, if_pos h, if_neg hb, if_neg hb]
  · rw [if_neg h, if_neg h]
/-- Values elsewhere than in a variable of three cells. -/
theorem rd_var {base : Nat} {w : World} {osa osb : Array Obj} {da db : Nat} {p q r : Value} (u v x : Value) {t : TypeId} {A : Option Addr} {l : List Val}
    (h : SlV base (more ((more w osa da).alloc (.cells #[p, q, r] t)) osb db) A l) : SlV base (more ((more w osa da).alloc (.cells #[u, v, x] t)) osb db) A l := by
  intro j y hu
  obtain ⟨b', off, hA, hl, hc⟩ := h j y hu
  refine ⟨b', off, hA, hl, ?_⟩
  have hne : b' ≠ w.heap.size + osa.size := by
    intro e
    cases l with
    | nil => simp [vcells] at hu
    | cons z l =>
      obtain ⟨b2, off2, hA', _, hc3⟩ := h 3 (.string z.text) (by simp [vcells, Val.cells])
      rw [hA] at hA'
      simp only [Option.some.injEq, Addr.mk.injEq, and_true] at hA'
      obtain ⟨rfl, rfl⟩ := hA'
      subst e
      have hv := gvar_at w (.cells #[p, q, r] t) osa osb da db
      simp [World.cell?, hv] at hc3
  rw [← hc]
  exact World.cell?_of_block (a := ⟨b', off + j, none⟩) (gheap_var w _ _ osa osb da db hne)
theorem flat4 (V : World) (os osa osb : Array Obj) (d da db : Nat) (o : Obj) : more ((more (more V os d) osa da).alloc o) osb db = more V ((os ++ osa).push o ++ osb) db := by rw [more_more, more_alloc, more_more]
end Go.Proofs.YtlfbdodokldkhaaGreatDoor
namespace Go.Proofs.YtlfbdodokldkhaaGreatDoor
open Go.RowKit NM
set_option maxHeartbeats 1000000 in
theorem num15_any (n : Int) (w : World) (hn : n.natAbs < T 15) :
    Calls Tryz.prog 16 #[.int .i64 n] w fun e w' => ResA w (oneA (cntV n)) e w' := by
  have hi : I64 n := by have : T 15 = 1000000000000000 := (by decide); unfold I64; omega
  have hm := fun W => rmake_any n 0 W hi
  rw [show rnd (decide (n < 0)) n.natAbs false 0 = some (wholeN n) from (wholex hn).1] at hm
  simp only [rnV, rm, re, Option.getD_some, Option.isSome_some] at hm
  have hok := cnt_ok hn
  have hcv : cntV n = ⟨1, (wholeN n).1, (wholeN n).2, ⟨#[]⟩, false, 0⟩ := rfl
  clear hi hn
  generalize cntV n = y at *
  generalize (wholeN n).1 = m1 at *
  generalize (wholeN n).2 = m2 at *
  subst hcv
  go_enter Tryz.func16, Tryz.ntmps16
  go_wp2_with (first | (go_at_call 29; (with_reducible refine (hm _).mono ?_); rintro e w' ⟨rfl, hb⟩; obtain ⟨os, d, rfl⟩ := hb.more; clear hb))
  refine bodyPost_ret (v := AV 1 1 (.slice (some ⟨w.heap.size + 1 + os.size + 1, 0, none⟩) 1 1)) (by simp [results, Tryz.results16, go_sem]) rfl ⟨_, 1, 1, rfl, ⟨?_, rfl, Nat.le_refl _, by decide, fun x hx => by rw [List.mem_singleton.1 hx]; exact hok⟩, by with_reducible repeat (first | exact Ext.refl _ | apply Ext.drew | apply Ext.alloc | apply Ext.more_)⟩
  exact SlV.one (by simp) (by omega)
set_option maxHeartbeats 1000000 in
theorem call15_any (s : ByteArray) (A : Option Addr) (n cap : Nat) (w : World) (X : NA) (hp : ∀ W, Ext w W → Calls Tryz.prog 15 #[.string s, .slice A n cap] W (CallG W X)) (hr : ∀ W, Ext w W → Calls Tryz.prog 24 #[.string s, .slice A n cap] W (CallI W X)) :
    Calls Tryz.prog 13 #[.string s, .slice A n cap] w fun e w' => e = .returned (.bool true) ∧ Ext w w' := by
  go_enter Tryz.func13, Tryz.ntmps13
  go_wp2_with (first | (go_at_call 15; (with_reducible refine (hp _ (by with_reducible repeat (first | exact Ext.refl _ | apply Ext.drew | apply Ext.alloc | apply Ext.more_))).mono ?_); rintro e w' ⟨D1, m1, c1, rfl, hD1, hb⟩; have a1 := hD1.arr; obtain ⟨os1, d1, rfl⟩ := hb.more; clear hb) | (go_at_call 24; (with_reducible refine (hr _ (by with_reducible repeat (first | exact Ext.refl _ | apply Ext.drew | apply Ext.alloc | apply Ext.more_))).mono ?_); rintro e w' ⟨D2, m2, c2, rfl, a2, hb⟩; obtain ⟨os2, d2, rfl⟩ := hb.more; clear hb))
  refine (refSame_any X.R X.C X.R X.C D1 D2 m1 c1 m2 c2 X.l X.l _ (a1.ext (by with_reducible repeat (first | exact Ext.refl _ | apply Ext.drew | apply Ext.alloc | apply Ext.more_))) (a2.ext (by with_reducible repeat (first | exact Ext.refl _ | apply Ext.drew | apply Ext.alloc | apply Ext.more_)))).mono ?_
  rintro e w' ⟨rfl, hb⟩
  obtain ⟨os3, d3, rfl⟩ := hb.more
  clear hb
  rw [show sameA X.R X.C X.l X.R X.C X.l = true by simp [sameA]]
  go_wp2_with fail
  go_ret
  exact ⟨rfl, by with_reducible repeat (first | exact Ext.refl _ | apply Ext.drew | apply Ext.alloc | apply Ext.more_)⟩
set_option maxHeartbeats 2000000 in
theorem small15_any (A : Option Addr) (n cap : Nat) (gs : List GA) (w : World) (h : ArgsG w A n cap gs) :
    Calls Tryz.prog 12 #[.slice A n cap] w fun e w' => ∃ s : Int, e = .returned (.int .i64 s) ∧ (s = 0 ∨ s = 1) ∧ Ext w w' := by
  have hsm := h.small
  by_cases q : 40 < n
  · go_enter Tryz.func12, Tryz.ntmps12
    go_wp2_with fail
    go_ret
    exact ⟨0, rfl, Or.inl rfl, by with_reducible repeat (first | exact Ext.refl _ | apply Ext.drew | apply Ext.alloc | apply Ext.more_)⟩
  · go_enter Tryz.func12, Tryz.ntmps12
    go_wp2_with fail
    go_loopw [3, 11] (fun c i wr => ∃ (k : Nat) (t : Int), k ≤ n ∧ i = .int .i64 k ∧ c = .int .i64 t ∧ 0 ≤ t ∧ t ≤ 400 ∧ Ext w wr) (fun _ i _ => n - (intOf i).toNat)
    case atStart => exact ⟨0, 0, Nat.zero_le _, rfl, rfl, Int.le_refl _, by omega, Ext.refl _⟩
    case round =>
      obtain ⟨k, t, hk, rfl, rfl, ht0, ht1, hX⟩ := hrel
      obtain ⟨os, d, rfl⟩ := hX.more
      clear hX
      by_cases hlt : k < n
      · obtain ⟨g, b, off, hg, rfl, ⟨v0, v1, v2⟩, harr⟩ := h.at hlt
        have hbl : b < w.heap.size := lt_of_cell v0
        have hcap := h.cap
        have hgs := harr.small
        have hsa := fun W (hW : ArrIn W g.A g.n g.cap g.l) => small_any g.r g.c g.A g.n g.cap g.l W hW
        have HA := Lib.hid harr
        clear h harr hg
        by_cases hq : t + g.n ≤ 400
        · have hw : IntKind.i64.wrap (t + (g.n : Int)) = t + (g.n : Int) := by rw [IntKind.wrap_i64]; omega
          go_wp2_with (go_at_call 23; (with_reducible refine (hsa _ (HA.out.ext (by with_reducible repeat (first | exact Ext.refl _ | apply Ext.drew | apply Ext.alloc | apply Ext.more_)))).mono ?_); rintro e w' ⟨sm, rfl, hsm', hb⟩; obtain ⟨os2, d2, rfl⟩ := hb.more; clear hb; rcases hsm' with rfl | ⟨rfl, hn3, htx⟩)
          · go_ret
            exact ⟨0, rfl, Or.inl rfl, by with_reducible repeat (first | exact Ext.refl _ | apply Ext.drew | apply Ext.alloc | apply Ext.more_)⟩
          · exact ⟨⟨k + 1, t + (g.n : Int), by omega, by go_num, rfl, by omega, by omega, by with_reducible repeat (first | exact Ext.refl _ | apply Ext.drew | apply Ext.alloc | apply Ext.more_)⟩, by simp [intOf]; omega⟩
        · by_cases hn3 : g.n ≤ 300
          · have hw : IntKind.i64.wrap (t + (g.n : Int)) = t + (g.n : Int) := by rw [IntKind.wrap_i64]; omega
            have hq' : 400 < t + (g.n : Int) := by omega
            go_wp2_with (go_at_call 23; (with_reducible refine (hsa _ (HA.out.ext (by with_reducible repeat (first | exact Ext.refl _ | apply Ext.drew | apply Ext.alloc | apply Ext.more_)))).mono ?_); rintro e w' ⟨sm, rfl, hsm', hb⟩; obtain ⟨os2, d2, rfl⟩ := hb.more; clear hb; rcases hsm' with rfl | ⟨rfl, hn3, htx⟩)
            all_goals
              go_ret
              exact ⟨0, rfl, Or.inl rfl, by with_reducible repeat (first | exact Ext.refl _ | apply Ext.drew | apply Ext.alloc | apply Ext.more_)⟩
          · go_wp2_with (go_at_call 23; (with_reducible refine (hsa _ (HA.out.ext (by with_reducible repeat (first | exact Ext.refl _ | apply Ext.drew | apply Ext.alloc | apply Ext.more_)))).mono ?_); rintro e w' ⟨sm, rfl, hsm', hb⟩; obtain ⟨os2, d2, rfl⟩ := hb.more; clear hb; obtain rfl : sm = 0 := by rcases hsm' with h0 | ⟨_, h1, _⟩; exact h0; exact absurd h1 hn3)
            go_ret
            exact ⟨0, rfl, Or.inl rfl, by with_reducible repeat (first | exact Ext.refl _ | apply Ext.drew | apply Ext.alloc | apply Ext.more_)⟩
      · go_wp2_with fail
        go_ret
        exact ⟨1, rfl, Or.inr rfl, by with_reducible repeat (first | exact Ext.refl _ | apply Ext.drew | apply Ext.alloc | apply Ext.more_)⟩
end Go.Proofs.YtlfbdodokldkhaaGreatDoor
namespace Go.Proofs.YtlfbdodokldkhaaGreatDoor
open Go.RowKit NM
def GA.toAr (g : GA) : Ar := ⟨⟨g.r.toNat, g.c.toNat, g.l⟩, g.A, g.n, g.cap⟩
def arsOf (gs : List GA) : List Ar := gs.map GA.toAr
theorem toAr_toG {g : GA} (h : g.right = true) : (GA.toAr g).toG = g ∧ (GA.toAr g).x.right := by
  have h' : rightA g.r g.c g.l = true := h
  obtain ⟨R, C, e1, e2⟩ := rightA_shape h'
  obtain ⟨r, c, A, n, cap, l⟩ := g
  simp only at e1 e2 h'
  subst e1 e2
  exact ⟨rfl, h'⟩
theorem arsOf_in {w : World} {A : Option Addr} {n cap : Nat} {gs : List GA} (h : ArgsG w A n cap gs) (hr : ∀ g ∈ gs, g.right = true) : ArgsIn w A n cap (arsOf gs) := by
  have e : (arsOf gs).map Ar.toG = gs := by
    unfold arsOf
    rw [List.map_map]
    conv => rhs; rw [← List.map_id gs]
    exact List.map_congr_left fun g hg => (toAr_toG (hr g hg)).1
  refine ArgsG.toIn (xs := arsOf gs) (by rw [e]; exact h) fun a ha => ?_
  obtain ⟨g, hg, rfl⟩ := List.mem_map.1 ha
  exact (toAr_toG (hr g hg)).2
/-- What the functions of one array tell. -/
def rowsO (xs : List Ar) : NA := oneA (cntV (argN xs 0).R)
def colsO (xs : List Ar) : NA := oneA (cntV (argN xs 0).C)
def turnO (xs : List Ar) : NA := turnN (argN xs 0)
def torowO (xs : List Ar) : NA := ⟨1, (argN xs 0).l.length, (argN xs 0).l⟩
def tocolO (xs : List Ar) : NA := ⟨(argN xs 0).l.length, 1, (argN xs 0).l⟩
theorem one_arg {w : World} {A : Option Addr} {cap n : Nat} {xs : List Ar} (h : ArgsIn w A n cap xs) (h1 : 1 ≤ n) (h2 : n ≤ 1) : ∃ a, xs = [a] ∧ n = 1 ∧ argN xs 0 = a.x := by
  have hl := h.len
  obtain rfl : n = 1 := by omega
  obtain ⟨a, rfl⟩ := List.length_eq_one_iff.1 hl
  exact ⟨a, rfl, rfl, rfl⟩
theorem pcall_rows (A : Option Addr) (n cap : Nat) (gs : List GA) (w : World) (htab : Tab w) (h : ArgsG w A n cap gs) : Calls Tryz.prog 15 #[.string ⟨#[82, 79, 87, 83]⟩, .slice A n cap] w (CallG w (callX 1 1 gs (rowsO (arsOf gs)))) :=   gcall_any ⟨#[82, 79, 87, 83]⟩ 1 1 53 (fun _ _ => #[]) (by decide) (fun _ _ => rfl) (fun args W => by go_simp) (by decide) (by decide) A n cap gs w h _ (fun hr h1 h2 p1 p2 W hW _ => by (obtain ⟨a, hx, hn, ha⟩ := one_arg (arsOf_in h hr) h1 h2); (have hi := (arsOf_in h hr).ext hW); (have hT := htab.ext hW); unfold rowsO; rw [ha]; rw [hx] at hi; subst hn; exact grows_any A cap a W hT hi)
theorem pcall_columns (A : Option Addr) (n cap : Nat) (gs : List GA) (w : World) (htab : Tab w) (h : ArgsG w A n cap gs) : Calls Tryz.prog 15 #[.string ⟨#[67, 79, 76, 85, 77, 78, 83]⟩, .slice A n cap] w (CallG w (callX 1 1 gs (colsO (arsOf gs)))) :=   gcall_any ⟨#[67, 79, 76, 85, 77, 78, 83]⟩ 1 1 45 (fun _ _ => #[]) (by decide) (fun _ _ => rfl) (fun args W => by go_simp) (by decide) (by decide) A n cap gs w h _ (fun hr h1 h2 p1 p2 W hW _ => by (obtain ⟨a, hx, hn, ha⟩ := one_arg (arsOf_in h hr) h1 h2); (have hi := (arsOf_in h hr).ext hW); (have hT := htab.ext hW); unfold colsO; rw [ha]; rw [hx] at hi; subst hn; exact gcols_any A cap a W hT hi)
theorem pcall_transpose (A : Option Addr) (n cap : Nat) (gs : List GA) (w : World) (htab : Tab w) (h : ArgsG w A n cap gs) : Calls Tryz.prog 15 #[.string ⟨#[84, 82, 65, 78, 83, 80, 79, 83, 69]⟩, .slice A n cap] w (CallG w (callX 1 1 gs (turnO (arsOf gs)))) :=   gcall_any ⟨#[84, 82, 65, 78, 83, 80, 79, 83, 69]⟩ 1 1 61 (fun _ _ => #[]) (by decide) (fun _ _ => rfl) (fun args W => by go_simp) (by decide) (by decide) A n cap gs w h _ (fun hr h1 h2 p1 p2 W hW _ => by (obtain ⟨a, hx, hn, ha⟩ := one_arg (arsOf_in h hr) h1 h2); (have hi := (arsOf_in h hr).ext hW); (have hT := htab.ext hW); unfold turnO; rw [ha]; rw [hx] at hi; subst hn; exact gturn_any A cap a W hi)
theorem pcall_torow (A : Option Addr) (n cap : Nat) (gs : List GA) (w : World) (htab : Tab w) (h : ArgsG w A n cap gs) : Calls Tryz.prog 15 #[.string ⟨#[84, 79, 82, 79, 87]⟩, .slice A n cap] w (CallG w (callX 1 1 gs (torowO (arsOf gs)))) :=   gcall_any ⟨#[84, 79, 82, 79, 87]⟩ 1 1 60 (fun _ _ => #[]) (by decide) (fun _ _ => rfl) (fun args W => by go_simp) (by decide) (by decide) A n cap gs w h _ (fun hr h1 h2 p1 p2 W hW _ => by (obtain ⟨a, hx, hn, ha⟩ := one_arg (arsOf_in h hr) h1 h2); (have hi := (arsOf_in h hr).ext hW); (have hT := htab.ext hW); unfold torowO; rw [ha]; rw [hx] at hi; subst hn; exact gtorow_any A cap a W hi)
theorem pcall_tocol (A : Option Addr) (n cap : Nat) (gs : List GA) (w : World) (htab : Tab w) (h : ArgsG w A n cap gs) : Calls Tryz.prog 15 #[.string ⟨#[84, 79, 67, 79, 76]⟩, .slice A n cap] w (CallG w (callX 1 1 gs (tocolO (arsOf gs)))) :=   gcall_any ⟨#[84, 79, 67, 79, 76]⟩ 1 1 57 (fun _ _ => #[]) (by decide) (fun _ _ => rfl) (fun args W => by go_simp) (by decide) (by decide) A n cap gs w h _ (fun hr h1 h2 p1 p2 W hW _ => by (obtain ⟨a, hx, hn, ha⟩ := one_arg (arsOf_in h hr) h1 h2); (have hi := (arsOf_in h hr).ext hW); (have hT := htab.ext hW); unfold tocolO; rw [ha]; rw [hx] at hi; subst hn; exact gtocol_any A cap a W hi)
theorem pcall_sequence (A : Option Addr) (n cap : Nat) (gs : List GA) (w : World) (htab : Tab w) (h : ArgsG w A n cap gs) : Calls Tryz.prog 15 #[.string ⟨#[83, 69, 81, 85, 69, 78, 67, 69]⟩, .slice A n cap] w (CallG w (callX 1 4 gs (sequenceO (arsOf gs)))) :=
  gcall_any ⟨#[83, 69, 81, 85, 69, 78, 67, 69]⟩ 1 4 54 (fun _ _ => #[]) (by decide) (fun _ _ => rfl) (fun args W => by go_simp) (by decide) (by decide) A n cap gs w h _ (fun hr _ _ p1 p2 W hW _ => gseq_any A n cap _ W (htab.ext hW) ((arsOf_in h hr).ext hW))
/-- Arguments that may be. -/
theorem arsOf_toG {xs : List Ar} : arsOf (xs.map Ar.toG) = xs := by
  unfold arsOf
  rw [List.map_map]
  conv => rhs; rw [← List.map_id xs]
  refine List.map_congr_left fun a _ => ?_
  obtain ⟨⟨R, C, l⟩, A, n, cap⟩ := a
  rfl
theorem callX_in {lo hi : Nat} {xs : List Ar} (F : NA) (h1 : lo ≤ xs.length) (h2 : xs.length ≤ hi) (hr : ∀ a ∈ xs, a.x.right) : callX lo hi (xs.map Ar.toG) F = F := by
  unfold callX
  rw [if_neg (by rw [List.length_map]; omega), if_pos]
  rw [List.all_eq_true]
  intro g hg
  obtain ⟨a, ha, rfl⟩ := List.mem_map.1 hg
  exact hr a ha
end Go.Proofs.YtlfbdodokldkhaaGreatDoor
namespace Go.Proofs.YtlfbdodokldkhaaGreatDoor
open Go.RowKit NM
set_option maxHeartbeats 1000000 in
theorem copied_any (x : NA) (A : Option Addr) (n cap : Nat) (w : World) (h : ArrIn w A n cap x.l) (hr : x.right) :
    Calls Tryz.prog 99 #[AV x.R x.C (.slice A n cap)] w fun e w' => ResA w x e w' := by
  obtain ⟨r1, r2, r3, r4, r5⟩ := rightA_nat.1 hr
  have hln := h.len
  have hn1 : 0 < n := by rw [← hln, r4]; exact Nat.mul_pos r1 r2
  have hcl := fun W (hW : ArrIn W A n cap x.l) => clone_any A n cap x.l W hW hn1 (by omega)
  have hao := h.ok
  have hb16 : n ≤ 4096 := by omega
  have HA := Lib.hid h
  obtain ⟨R, C, l⟩ := x
  simp only at hcl hao hln
  clear r1 r2 r3 r4 r5 hr h
  go_enter Tryz.func99, Tryz.ntmps99
  go_upto_region 1 with fail
  refine wp_plan (S := Ext _) [(0, 0), (1, 0), (2, 0), (3, 0), (4, 0), (5, 0), (6, 1), (7, 1), (8, 2)] [8] (by kernel_rfl) (by kernel_rfl) (by kernel_rfl) (fun _ _ d _ _ h => by cases d <;> exact h) (Ext.drew (Ext.refl _)) ?_
  iterate 6 ((refine wpPl_read (v := ?_) rfl ?_ (fun _ h => ?_) ?_; rotate_left 1; rfl; (obtain ⟨_, _, rfl⟩ := h.more; go_simp; try rfl)); try simp only [Act.put, zqA, zqB, zqC])
  (refine wpPl_eff rfl ?_ (fun K hK => ?_); rfl; go_simp; refine (hcl _ (HA.out.ext (by with_reducible repeat (first | exact Ext.refl _ | apply Ext.drew | apply Ext.alloc | apply Ext.more_)))).mono ?_; rintro e w' ⟨D, cc, rfl, hDr, hcc, hb⟩; obtain ⟨os5, d5, rfl⟩ := hb.more; clear hb; refine hK _ _ ?_ ?_; (repeat (first | (with_reducible (first | exact Ext.refl _ | exact ext_d _ _ _ _ | exact ext_app _ _ _ _ _ | exact ext_app2 _ _ _ _ _ _ | exact ext_app3 _ _ _ _ _ _ _ | exact ext_app4 _ _ _ _ _ _ _ _ | exact ext_app5 _ _ _ _ _ _ _ _ _)) | ((with_reducible refine ext_suffix ⟨_, ?_⟩); (try simp only [Array.append_assoc]); rfl) | (with_reducible (first | apply Ext.drew | apply Ext.alloc | apply Ext.more_)) | apply Ext.drew | apply Ext.alloc | apply Ext.more_)))
  try simp only [Act.put, zqA, zqB, zqC]
  (refine wpPl_eff rfl ?_ (fun K hK => ?_); rfl; go_simp; refine (made_any _ _ _ _ _ _).mono ?_; rintro e w' ⟨rfl, hb⟩; have hDr := Rd.ext hDr hb; obtain ⟨os6, d6, rfl⟩ := hb.more; clear hb; refine hK _ _ ?_ ?_; (repeat (first | (with_reducible (first | exact Ext.refl _ | exact ext_d _ _ _ _ | exact ext_app _ _ _ _ _ | exact ext_app2 _ _ _ _ _ _ | exact ext_app3 _ _ _ _ _ _ _ | exact ext_app4 _ _ _ _ _ _ _ _ | exact ext_app5 _ _ _ _ _ _ _ _ _)) | ((with_reducible refine ext_suffix ⟨_, ?_⟩); (try simp only [Array.append_assoc]); rfl) | (with_reducible (first | apply Ext.drew | apply Ext.alloc | apply Ext.more_)) | apply Ext.drew | apply Ext.alloc | apply Ext.more_)))
  try simp only [Act.put, zqA, zqB, zqC]
  (refine wpPl_tail rfl ?_ (fun K hK => ?_); rfl; go_simp; refine hK _ _ ?_)
  try simp only [Act.put]
  refine wpPl_nil ?_
  go_wp2_with fail
  exact bodyPost_ret (v := AV R C (.slice D n cc)) (by simp [results, Tryz.results99, go_sem]) rfl ⟨D, n, cc, rfl, ⟨(by (try simp only [more_more] at hDr); (try simp only [drew_more] at hDr); (try simp only [more_drew] at hDr); (try simp only [Array.append_assoc] at hDr); exact Rd.swap hDr (by first | (simp; done) | (simp; omega) | omega) (by first | (simp; done) | (simp; omega) | omega) (by first | (simp; done) | (simp; omega) | omega)), hln, hcc, by omega, hao⟩, by with_reducible repeat (first | exact Ext.refl _ | apply Ext.drew | apply Ext.alloc | apply Ext.more_)⟩
theorem stackO_none {J : NA → NA → Option NA} {a b : NA} {l : List NA} (h : J a b = none) : stackO J a (b :: l) = none := by
  unfold stackO; rw [h]
theorem stackO_some {J : NA → NA → Option NA} {a b c : NA} {l : List NA} (h : J a b = some c) : stackO J a (b :: l) = stackO J c l := by
  conv => lhs; unfold stackO
  rw [h]
theorem flat3 (V : World) (os os6 : Array Obj) (d d6 : Nat) (b nx : Obj) : (more ((more V os d).alloc b) os6 d6).alloc nx = more V ((os.push b ++ os6).push nx) d6 := by rw [more_alloc V os d b, more_more, more_alloc]
theorem arr3 {V V' : World} (hs : V'.heap.size = V.heap.size) {os os6 : Array Obj} {d d6 base : Nat} {b : Obj} (nx : Obj) {D : Option Addr} {l : List Val} (h : SlV ((more V os d).alloc b).heap.size (more ((more V os d).alloc b) os6 d6) D l) (hb : base ≤ V.heap.size) :
    SlV base ((more ((more V' os d).alloc b) os6 d6).alloc nx) D l := by
  have h1 : Rd base (more ((more V' os d).alloc b) os6 d6) D (vcells l) := Rd.swap (X := (more V os d).alloc b) (X' := (more V' os d).alloc b) h (Nat.le_refl _) (by simp [hs]) (by simp; omega)
  exact Rd.alloc h1 nx
set_option maxHeartbeats 4000000 in
theorem gstack1_any (f : FuncId) (J : NA → NA → Option NA) (hJ : JoinC f J) (hJr : ∀ a b c, a.right → b.right → J a b = some c → c.right) (hent : ∀ (args : Array Value) (W : World), (callFunc f args).run Tryz.prog W = .ok (.enter f args) W)
    (p : Nat) (A : Option Addr) (n cap : Nat) (xs : List Ar) (w : World) (h : ArgsIn w A n cap xs) (hn : 1 ≤ n) (hp : w.heap[p]? = some (bxJ f)) :
    Calls Tryz.prog 100 #[.slice A n cap, .pointer (some ⟨p, 0, none⟩)] w fun e w' => ResA w (stackN J xs) e w' := by
  obtain ⟨R0, C0, l0, b1, off1, n1, cap1, b, off, x0, ha, rfl, ⟨v0, v1, v2⟩, hn1, hc1, _, _, _, hbl, _, _, _, harr, _⟩ := h.first hn
  have hcap := h.cap
  have hsm := h.small
  have hpl := lt_block hp
  have hpc : w.cell? ⟨p, 0, none⟩ = some (fn0 f) := by simp [World.cell?, hp]
  have h0r : NA.right ⟨R0, C0, l0⟩ := (h.all _ (List.mem_of_getElem? ha)).right
  have hco := fun W (hW : ArrIn W (some ⟨b1, off1, none⟩) n1 cap1 l0) => copied_any ⟨R0, C0, l0⟩ _ n1 cap1 W hW h0r
  simp only [Nat.zero_mul, Nat.add_zero] at v0 v1 v2
  obtain ⟨a0, ys, rfl⟩ : ∃ a ys, xs = a :: ys := by
    cases xs with
    | nil => simp at ha
    | cons a ys => exact ⟨a, ys, rfl⟩
  obtain rfl : a0 = ⟨⟨R0, C0, l0⟩, some ⟨b1, off1, none⟩, n1, cap1⟩ := by simpa using ha
  have hlen : ys.length + 1 = n := by have := h.len; simpa using this
  obtain ⟨X, hX⟩ : ∃ X, stackN J (⟨⟨R0, C0, l0⟩, some ⟨b1, off1, none⟩, n1, cap1⟩ :: ys) = X := ⟨_, rfl⟩
  rw [hX]
  have HX := Lib.hid hX
  have H := Lib.hid h
  have HA := Lib.hid harr
  have HJ := Lib.hid hJ
  clear hX h ha hp harr hJ
  by_cases hcp : cap = 1
  · subst hcp
    obtain rfl : n = 1 := by omega
    obtain rfl : ys = [] := List.eq_nil_of_length_eq_zero (by omega)
    obtain rfl : (⟨R0, C0, l0⟩ : NA) = X := by rw [← HX.out]; rfl
    clear HX hlen hJr
    go_enter Tryz.func100, Tryz.ntmps100
    go_wp2_with (first | (go_at_call 99; (with_reducible refine (hco _ (HA.out.ext (by with_reducible repeat (first | exact Ext.refl _ | apply Ext.drew | apply Ext.alloc | apply Ext.more_)))).mono ?_); rintro e w' ⟨D, m, cc, rfl, hD, hb⟩; obtain ⟨os5, d5, rfl⟩ := hb.more; clear hb; have hDr := hD.rd))
    refine wp_loop_rounds 1 ?_
    rw [rounds_succ]
    have hDr2 := Rd.alloc hDr (Obj.cells #[.int .i64 (R0 : Int), .int .i64 (C0 : Int), .slice D m cc] 30)
    go_wp2_with fail
    exact bodyPost_ret (v := AV R0 C0 (.slice D m cc)) (by simp [results, Tryz.results100, go_sem]) rfl ⟨D, m, cc, rfl, ⟨(by (try simp only [more_alloc, more_more] at hDr2); (try simp only [more_alloc, more_more]); (try simp only [drew_more] at hDr2); (try simp only [more_drew] at hDr2); (try simp only [Array.append_assoc] at hDr2); exact Rd.swap hDr2 (by first | (simp; done) | (simp; omega) | omega) (by first | (simp; done) | (simp; omega) | omega) (by first | (simp; done) | (simp; omega) | omega)), hD.len, hD.cap, hD.small, hD.ok⟩, by with_reducible repeat (first | exact Ext.refl _ | apply Ext.drew | apply Ext.alloc | apply Ext.more_)⟩
  go_enter Tryz.func100, Tryz.ntmps100
  go_wp2_with (first | (go_at_call 99; (with_reducible refine (hco _ (HA.out.ext (by with_reducible repeat (first | exact Ext.refl _ | apply Ext.drew | apply Ext.alloc | apply Ext.more_)))).mono ?_); rintro e w' ⟨D, m, cc, rfl, hD, hb⟩; obtain ⟨os5, d5, rfl⟩ := hb.more; clear hb; have hDr := hD.rd))
  go_loopw [16] (fun i wr => ∃ (k : Nat) (Y : NA) (E : Option Addr) (me ce : Nat) (os : Array Obj) (d : Nat), k + 1 ≤ n ∧ i = .int .i64 k ∧ wr = more ((more (w.alloc (Obj.cells #[.int .i64 0, .int .i64 0, .slice none 0 0] 30)) os5 d5).alloc (Obj.cells #[.int .i64 (Y.R : Int), .int .i64 (Y.C : Int), .slice E me ce] 30)) os d ∧ Hid (ArrN (w.heap.size + 1) wr E me ce Y.l) ∧ Y.right ∧ Hid (stackO J Y ((ys.drop k).map Ar.x) = stackO J ⟨R0, C0, l0⟩ (ys.map Ar.x))) (fun i _ => n - (intOf i).toNat)
  case atStart =>
    refine ⟨0, ⟨R0, C0, l0⟩, D, m, cc, #[], _, by omega, rfl, (more_none _).symm, ?_, h0r, (by show _ = _; rw [List.drop_zero])⟩
    have h1 : ArrN (w.heap.size + 1) ((more (w.alloc (Obj.cells #[.int .i64 0, .int .i64 0, .slice none 0 0] 30)) os5 d5).alloc (Obj.cells #[.int .i64 (R0 : Int), .int .i64 (C0 : Int), .slice D m cc] 30)) D m cc l0 := ⟨Rd.alloc (show Rd (w.heap.size + 1) _ D (vcells l0) from by have := hDr; simp only [World.size_alloc] at this; exact this) _, hD.len, hD.cap, hD.small, hD.ok⟩
    exact h1
  case round =>
    obtain ⟨k, Y, E, me, ce, os, d, hk, rfl, rfl, HE, hYr, HS⟩ := hrel
    have hEa := HE.out.arr
    clear hDr hD
    by_cases hlt : k + 1 < n
    · have hlt' : k < n - 1 := by omega
      obtain ⟨a, hak⟩ : ∃ a, ys[k]? = some a := ⟨_, List.getElem?_eq_getElem (by omega)⟩
      obtain ⟨b', off', hbo, ⟨u0, u1, u2⟩, hok⟩ := H.out.get (k := k + 1) (a := a) (by simpa using hak)
      simp only [Option.some.injEq, Addr.mk.injEq, and_true] at hbo
      obtain ⟨rfl, rfl⟩ := hbo
      rw [show off + (k + 1) * 3 = off + 3 + k * 3 by omega] at u0 u1 u2
      have hj := fun W hA' hB' x kk e1 e2 => HJ.out Y a.x E a.A me ce a.n a.cap W hA' hB' hYr hok.right x kk e1 e2
      have hdr : (ys.drop k).map Ar.x = a.x :: (ys.drop (k + 1)).map Ar.x := by rw [List.drop_eq_getElem_cons (by omega), List.map_cons]; congr 2; rw [List.getElem?_eq_getElem (by omega)] at hak; simpa using hak
      have HOK := Lib.hid hok.arr
      cases hJa : J Y a.x with
      | none =>
        obtain rfl : aloneO 5 = X := by
          rw [← HX.out]
          show aloneO 5 = (stackO J ⟨R0, C0, l0⟩ (ys.map Ar.x)).getD (aloneO 5)
          rw [← HS.out, hdr, stackO_none hJa]
          try rfl
        have hjn := fun W hA' hB' => hj W hA' hB' (orZ none) false (by rw [hJa]) (by rw [hJa]; first | done | rfl)
        clear hj hJa HS hdr hak HX
        go_wp2_with fail
        refine (hjn _ (hEa.ext (by repeat (first | (with_reducible (first | exact Ext.refl _ | exact ext_app _ _ _ _ _ | exact ext_app2 _ _ _ _ _ _)) | ((with_reducible refine ext_suffix ⟨_, ?_⟩); (try simp only [Array.append_assoc]); rfl) | (with_reducible (first | apply Ext.drew | apply Ext.alloc | apply Ext.more_))))) (HOK.out.ext (by repeat (first | (with_reducible (first | exact Ext.refl _ | exact ext_app _ _ _ _ _ | exact ext_app2 _ _ _ _ _ _)) | ((with_reducible refine ext_suffix ⟨_, ?_⟩); (try simp only [Array.append_assoc]); rfl) | (with_reducible (first | apply Ext.drew | apply Ext.alloc | apply Ext.more_)))))).mono ?_
        rintro e w' ⟨D6, m6, c6, rfl, _, _, hb⟩
        obtain ⟨os6, d6, rfl⟩ := hb.more
        clear hb
        go_wp2_with (go_at_call 27; (with_reducible refine (galone_any _ _).mono ?_); rintro e w' ⟨D, m, cc, rfl, hD, hb⟩; obtain ⟨os5, d5, rfl⟩ := hb.more; clear hb; have hDr := hD.rd)
        exact bodyPost_ret (v := AV (aloneO 5).R (aloneO 5).C (.slice D m cc)) (by simp [results, Tryz.results100, go_sem]) rfl ⟨D, m, cc, rfl, ⟨(by (try simp only [more_alloc, more_more] at hDr); (try simp only [more_alloc, more_more]); (try simp only [drew_more] at hDr); (try simp only [more_drew] at hDr); (try simp only [Array.append_assoc] at hDr); exact Rd.swap hDr (by first | (simp; done) | (simp; omega) | omega) (by first | (simp; done) | (simp; omega) | omega) (by first | (simp; done) | (simp; omega) | omega)), hD.len, hD.cap, hD.small, hD.ok⟩, by with_reducible repeat (first | exact Ext.refl _ | apply Ext.drew | apply Ext.alloc | apply Ext.more_)⟩
      | some Z =>
        have hZ := hJr Y a.x Z hYr hok.right hJa
        have hjs := fun W hA' hB' => hj W hA' hB' Z true (by rw [hJa]; first | done | rfl) (by rw [hJa]; first | done | rfl)
        have HS2 : Hid (stackO J Z ((ys.drop (k + 1)).map Ar.x) = stackO J ⟨R0, C0, l0⟩ (ys.map Ar.x)) := by
          show _ = _
          rw [← HS.out, hdr, stackO_some hJa]
        clear hj hJa HS hdr hak
        go_wp2_with fail
        refine (hjs _ (hEa.ext (by repeat (first | (with_reducible (first | exact Ext.refl _ | exact ext_app _ _ _ _ _ | exact ext_app2 _ _ _ _ _ _)) | ((with_reducible refine ext_suffix ⟨_, ?_⟩); (try simp only [Array.append_assoc]); rfl) | (with_reducible (first | apply Ext.drew | apply Ext.alloc | apply Ext.more_))))) (HOK.out.ext (by repeat (first | (with_reducible (first | exact Ext.refl _ | exact ext_app _ _ _ _ _ | exact ext_app2 _ _ _ _ _ _)) | ((with_reducible refine ext_suffix ⟨_, ?_⟩); (try simp only [Array.append_assoc]); rfl) | (with_reducible (first | apply Ext.drew | apply Ext.alloc | apply Ext.more_)))))).mono ?_
        rintro e w' ⟨D6, m6, c6, rfl, hA6, hS6, hb⟩
        obtain ⟨os6, d6, rfl⟩ := hb.more
        clear hb
        go_wp2_with fail
        refine ⟨⟨k + 1, Z, D6, m6, c6, _, _, by omega, by go_num, flat3 _ _ _ _ _ _ _, (show ArrN _ _ _ _ _ _ from ⟨arr3 (by simp) _ hS6 (by simp; omega), hA6.len, hA6.cap, hA6.small, hA6.ok⟩), hZ, HS2⟩, by simp [intOf]; omega⟩
    · obtain rfl : k + 1 = n := by omega
      obtain rfl : Y = X := by
        rw [← HX.out]
        show Y = (stackO J ⟨R0, C0, l0⟩ (ys.map Ar.x)).getD (aloneO 5)
        rw [← HS.out, List.drop_of_length_le (by omega)]; rfl
      have hDr := HE.out.rd
      go_wp2_with fail
      exact bodyPost_ret (v := AV Y.R Y.C (.slice E me ce)) (by simp [results, Tryz.results100, go_sem]) rfl ⟨E, me, ce, rfl, ⟨(by (try simp only [more_alloc, more_more] at hDr); (try simp only [more_alloc, more_more]); (try simp only [drew_more] at hDr); (try simp only [more_drew] at hDr); (try simp only [Array.append_assoc] at hDr); exact Rd.swap hDr (by first | (simp; done) | (simp; omega) | omega) (by first | (simp; done) | (simp; omega) | omega) (by first | (simp; done) | (simp; omega) | omega)), HE.out.len, HE.out.cap, HE.out.small, HE.out.ok⟩, by with_reducible repeat (first | exact Ext.refl _ | apply Ext.drew | apply Ext.alloc | apply Ext.more_)⟩
end Go.Proofs.YtlfbdodokldkhaaGreatDoor
