/- What the rows' proofs lean on: the contracts of the functions that they reach, and plain facts (part T1). -/
import Derived.WalkKit
import Derived.WalkLawsBesides
import Derived.WalkSpells
import Derived.Outline
import Derived.Below
import Derived.Deep.RegionHeld3
import Derived.Deep.DeepCutAuto
import Derived.Deep.AppendLies
import Derived.Maps.AppendAt
import Derived.Lib.Hide
import Derived.OrdersHeld
import Derived.Test.YtlfbdodokldkhaaGreatDoorProg
import Derived.Shelf.Small.Bits
import Derived.Shelf.Small.Strs
import Derived.Shelf.Strconv.Itoa0
import Derived.Shelf.Strconv.Itoa1
import Derived.Shelf.LaysM
import Derived.Shelf.Strconv.Itoa2
import Derived.Shelf.Bits.Mul64
import Derived.Lib.ItoaMem
import Derived.Lib.OthersKept
import Derived.Deep.CutBlock
import Derived.Laws.Bits64b
import Derived.Lib.AppendZeros
import Derived.Lib.Bytealg
import Derived.Laws.RangeAny
import Derived.Maps.OwnSet
import Derived.Maps.Own
import Derived.Laws.EntriesVeiled
import Derived.Lib.ConvBytes
import Derived.Lib.SlBytesRow
import Derived.Lib.SmallJoins
import Derived.RegionTactic
import Derived.Shelf.SlIter.Nil
import Derived.Shelf.SortM.Plain
import Derived.Shelf.SortM.SortNone
import Derived.Ground.GgzProg
import Derived.Ground.SlgmProg
import Derived.Test.YtlfbdodokldkhaaGreatDoorRows
import Derived.Test.YtlfbdodokldkhaaGreatDoorCards
import Derived.Test.YtlfbdodokldkhaaGreatDoorTie
import Derived.ProofKit
import Derived.LaidMore
import Derived.OpenShut
import Derived.ShutString
import Derived.ChangeOld
import Derived.Stop.Joined
import Derived.Deep.Slices
import Derived.SevenTiedAt
import Derived.Test.YtlfbdodokldkhaaGreatDoorS4
set_option linter.unusedSimpArgs false
set_option linter.unusedVariables false
set_option maxRecDepth 100000
namespace Go.Proofs.YtlfbdodokldkhaaGreatDoor
open Go.RowKit NM
theorem own_allocT {X wr : World} {ty : TypeId} {v : Value} {n : Nat} {xs : List Value} (ho : wr.ownsRow X.heap.size ty 1 v n xs) (o : Obj) : (wr.alloc o).ownsRow X.heap.size ty 1 v n xs :=
  own_keep ho fun g cur hg => RowKit.Below.heap_alloc _ o g (lt_block hg)
end Go.Proofs.YtlfbdodokldkhaaGreatDoor
namespace Go.Proofs.YtlfbdodokldkhaaGreatDoor
open Go.RowKit
theorem orNone_vals (g : Nat → Nat → Val) (R C : Nat) (i j : Int) : orNoneV R C (vals g C (R * C)) i j = if hasB R C i j then g i.toNat j.toNat else badV 6 := by
  unfold orNoneV
  split
  · rename_i hh
    obtain ⟨a, b, rfl, rfl, ha, hb⟩ := hasB_nat hh
    simp only [Int.toNat_natCast]
    exact getV_vals g ha hb
  · rfl
end Go.Proofs.YtlfbdodokldkhaaGreatDoor
namespace Go.Proofs.YtlfbdodokldkhaaGreatDoor
open Go.RowKit
def partL (C row col rows cols : Nat) (l : List Val) : List Val := vals (fun i j => getV l ((row + i) * C + col + j)) cols (rows * cols)
end Go.Proofs.YtlfbdodokldkhaaGreatDoor
namespace Go.Proofs.YtlfbdodokldkhaaGreatDoor
open Go.RowKit NM
/-- A part of an array. -/
def partA (a : NA) (row col rows cols : Nat) : NA := ⟨rows, cols, partL a.C row col rows cols a.l⟩
theorem partL_mem {C row col rows cols : Nat} {l : List Val} {v : Val} {R : Nat} (hl : l.length = R * C) (h1 : row + rows ≤ R) (h2 : col + cols ≤ C) (h : v ∈ partL C row col rows cols l) : v ∈ l := by
  unfold partL vals at h
  simp only [List.mem_map, List.mem_range] at h
  obtain ⟨t, ht, rfl⟩ := h
  have hc : 0 < cols := by rcases Nat.eq_zero_or_pos cols with h | h; (subst h; simp at ht); exact h
  have hi : t / cols < rows := Nat.div_lt_of_lt_mul (by rw [Nat.mul_comm]; exact ht)
  have hj : t % cols < cols := Nat.mod_lt _ hc
  have hk : (row + t / cols) * C + col + t % cols < l.length := by
    rw [hl]
    have : (row + t / cols) * C + C ≤ R * C := by
      have := Nat.mul_le_mul_right C (show row + t / cols + 1 ≤ R by omega)
      rw [Nat.add_mul, Nat.one_mul] at this
      exact this
    omega
  unfold getV
  rw [List.getElem?_eq_getElem hk]
  exact List.getElem_mem hk
end Go.Proofs.YtlfbdodokldkhaaGreatDoor
namespace Go.Proofs.YtlfbdodokldkhaaGreatDoor
open Go.RowKit
theorem getV_lt {l : List Val} {t : Nat} (h : t < l.length) : getV l t = l[t] := by simp [getV, List.getElem?_eq_getElem h]
theorem div_mod_at {C t : Nat} : t / C * C + t % C = t := by rw [Nat.mul_comm]; exact Nat.div_add_mod t C
theorem vals_self (R C : Nat) (l : List Val) (h : l.length = R * C) : vals (fun i j => getV l (i * C + j)) C (R * C) = l := by
  apply List.ext_getElem
  · rw [vals_length, h]
  · intro t h1 h2
    simp only [vals, List.getElem_map, List.getElem_range]
    rw [div_mod_at, getV_lt h2]
theorem partL_length (C row col rows cols : Nat) (l : List Val) : (partL C row col rows cols l).length = rows * cols := vals_length _ _ _
end Go.Proofs.YtlfbdodokldkhaaGreatDoor
namespace Go.Proofs.YtlfbdodokldkhaaGreatDoor
open Go.RowKit NM
def rowL (C : Nat) (l : List Val) (r : Nat) : List Val := (l.drop (r * C)).take C
def colL (R C : Nat) (l : List Val) (ps : List Nat) : List Val := (List.range R).flatMap fun r => ps.map fun c => getV l (r * C + c)
/-- An array's rows at these places. -/
def rowsN (a : NA) (ps : List Nat) : NA := ⟨ps.length, a.C, ps.flatMap (rowL a.C a.l)⟩
/-- An array's columns at these places. -/
def colsN (a : NA) (ps : List Nat) : NA := ⟨a.R, ps.length, colL a.R a.C a.l ps⟩
def plc (ps : List Nat) (i : Nat) : Nat := (ps[i]?).getD 0
theorem plc_map (ps : List Nat) : (List.range ps.length).map (plc ps) = ps := by
  refine List.ext_getElem? fun i => ?_
  rw [List.getElem?_map]
  rcases Nat.lt_or_ge i ps.length with h | h
  · rw [List.getElem?_range h]; simp [h, plc]
  · rw [List.getElem?_eq_none (by simpa using h), List.getElem?_eq_none h]; rfl
theorem flatMap_cong {α β : Type} {f g : α → List β} : ∀ {l : List α}, (∀ x ∈ l, f x = g x) → l.flatMap f = l.flatMap g
  | [], _ => rfl
  | y :: l, h => by rw [List.flatMap_cons, List.flatMap_cons, h y (by simp), flatMap_cong fun x hx => h x (List.mem_cons_of_mem _ hx)]
theorem plc_mem {ps : List Nat} {i : Nat} (h : i < ps.length) : plc ps i ∈ ps := by
  simp [plc, h]
theorem vals_block (g : Nat → Nat → Val) (C i : Nat) : ∀ k, k ≤ C → vals g C (i * C + k) = vals g C (i * C) ++ (List.range k).map (g i)
  | 0, _ => by simp
  | k + 1, h => by
    rw [← Nat.add_assoc, vals_succ g C i k (by omega), vals_block g C i k (by omega), List.range_succ, List.map_append, List.append_assoc]; rfl
theorem flat_vals (g : Nat → Nat → Val) (C : Nat) : ∀ n, (List.range n).flatMap (fun i => (List.range C).map (g i)) = vals g C (n * C)
  | 0 => by simp [vals]
  | n + 1 => by
    rw [List.range_succ, List.flatMap_append, flat_vals g C n, Nat.succ_mul, vals_block g C n C (Nat.le_refl _)]
    simp
theorem cell_lt {R C i j : Nat} (hi : i < R) (hj : j < C) : i * C + j < R * C := by
  calc i * C + j < i * C + C := by omega
    _ = (i + 1) * C := by rw [Nat.succ_mul]
    _ ≤ R * C := Nat.mul_le_mul_right _ hi
theorem rowL_range {R C r : Nat} {l : List Val} (hl : l.length = R * C) (hr : r < R) : rowL C l r = (List.range C).map fun j => getV l (r * C + j) := by
  refine List.ext_getElem? fun j => ?_
  unfold rowL
  rw [List.getElem?_take, List.getElem?_map]
  by_cases hj : j < C
  · have h1 : r * C + j < l.length := by rw [hl]; exact cell_lt hr hj
    rw [if_pos hj, List.getElem?_drop, List.getElem?_range hj]
    simp [getV, h1]
  · rw [if_neg hj, List.getElem?_eq_none (by simpa using Nat.not_lt.1 hj)]; rfl
theorem rowsN_l {a : NA} {ps : List Nat} (hl : a.l.length = a.R * a.C) (hp : ∀ r ∈ ps, r < a.R) : (rowsN a ps).l = vals (fun i j => getV a.l (plc ps i * a.C + j)) a.C (ps.length * a.C) := by
  rw [← flat_vals]
  show ps.flatMap (rowL a.C a.l) = _
  conv => lhs; rw [← plc_map ps]
  rw [List.flatMap_map]
  refine flatMap_cong fun i hi => ?_
  exact rowL_range hl (hp _ (plc_mem (List.mem_range.1 hi)))
theorem colsN_l (a : NA) (ps : List Nat) : (colsN a ps).l = vals (fun i j => getV a.l (i * a.C + plc ps j)) ps.length (a.R * ps.length) := by
  rw [← flat_vals]
  show (List.range a.R).flatMap _ = _
  refine flatMap_cong fun i _ => ?_
  conv => lhs; rw [← plc_map ps]
  rw [List.map_map]; rfl
theorem getV_allP {P : Val → Prop} {l : List Val} {k : Nat} (h : ∀ x ∈ l, P x) (hk : k < l.length) : P (getV l k) := h _ (getV_mem hk)
theorem vals_all {P : Val → Prop} {g : Nat → Nat → Val} {R C : Nat} (h : ∀ i j, i < R → j < C → P (g i j)) : ∀ x ∈ vals g C (R * C), P x := by
  intro x hx
  unfold vals at hx
  obtain ⟨t, ht, rfl⟩ := List.mem_map.1 hx
  have ht' : t < R * C := List.mem_range.1 ht
  have hC : 0 < C := by rcases Nat.eq_zero_or_pos C with rfl | h; · simp at ht'
                        · exact h
  exact h _ _ (Nat.div_lt_of_lt_mul (by rw [Nat.mul_comm]; exact ht')) (Nat.mod_lt _ hC)
theorem rowsN_all {P : Val → Prop} {a : NA} {ps : List Nat} (hl : a.l.length = a.R * a.C) (hp : ∀ r ∈ ps, r < a.R) (h : ∀ x ∈ a.l, P x) : ∀ x ∈ (rowsN a ps).l, P x := by
  rw [rowsN_l hl hp]
  exact vals_all fun i j hi hj => getV_allP h (by rw [hl]; exact cell_lt (hp _ (plc_mem hi)) hj)
theorem colsN_all {P : Val → Prop} {a : NA} {ps : List Nat} (hl : a.l.length = a.R * a.C) (hp : ∀ r ∈ ps, r < a.C) (h : ∀ x ∈ a.l, P x) : ∀ x ∈ (colsN a ps).l, P x := by
  rw [colsN_l]
  exact vals_all fun i j hi hj => getV_allP h (by rw [hl]; exact cell_lt hi (hp _ (plc_mem hj)))
theorem rowsN_right {a : NA} {ps : List Nat} (ha : a.right) (hp : ∀ r ∈ ps, r < a.R) (h1 : 1 ≤ ps.length) (h2 : ps.length ≤ a.R) : (rowsN a ps).right := by
  obtain ⟨a1, a2, a3, a4, a5⟩ := rightA_nat.1 ha
  refine rightA_nat.2 ⟨h1, a2, Nat.le_trans (Nat.mul_le_mul_right _ h2) a3, ?_, rowsN_all a4 hp a5⟩
  rw [rowsN_l a4 hp, vals_length]; rfl
/-- The places from one up to another. -/
def rng (lo hi : Nat) : List Nat := List.range' lo (hi - lo)
theorem rng_length (lo hi : Nat) : (rng lo hi).length = hi - lo := by simp [rng]
theorem rng_lt {lo hi r : Nat} (h : r ∈ rng lo hi) : r < hi := by
  unfold rng at h
  rw [List.mem_range'_1] at h
  omega
theorem rng_plc {lo hi i : Nat} (h : i < hi - lo) : plc (rng lo hi) i = lo + i := by
  simp [plc, rng, List.getElem?_range', h]
theorem part_of {a : NA} (ha : a.right) {lo hi lo' hi' : Nat} (h2 : hi ≤ a.R) (h4 : hi' ≤ a.C) : colsN (rowsN a (rng lo hi)) (rng lo' hi') = partA a lo lo' (hi - lo) (hi' - lo') := by
  obtain ⟨a1, a2, a3, a4, a5⟩ := rightA_nat.1 ha
  have hp : ∀ r ∈ rng lo hi, r < a.R := fun r hr => Nat.lt_of_lt_of_le (rng_lt hr) h2
  have e1 : (colsN (rowsN a (rng lo hi)) (rng lo' hi')).l = partL a.C lo lo' (hi - lo) (hi' - lo') a.l := by
    rw [colsN_l, rowsN_l a4 hp]
    unfold partL
    show vals _ (rng lo' hi').length ((rng lo hi).length * (rng lo' hi').length) = _
    rw [rng_length, rng_length]
    refine vals_congr fun i j hi0 hj0 => ?_
    show getV (vals _ a.C ((hi - lo) * a.C)) (i * a.C + plc (rng lo' hi') j) = _
    rw [rng_plc hj0, getV_vals _ hi0 (by omega), rng_plc hi0]
    congr 1; omega
  show (⟨(rng lo hi).length, (rng lo' hi').length, (colsN (rowsN a (rng lo hi)) (rng lo' hi')).l⟩ : NA) = ⟨hi - lo, hi' - lo', _⟩
  rw [e1, rng_length, rng_length]
end Go.Proofs.YtlfbdodokldkhaaGreatDoor
namespace Go.Proofs.YtlfbdodokldkhaaGreatDoor
open Go.RowKit NM
/-- The places that TAKE keeps, that DROP leaves. -/
def keptL (n : Int) (h : Nat) : List Nat := if (h : Int) ≤ n ∨ n ≤ -(h : Int) then rng 0 h else if 0 < n then rng 0 n.toNat else rng ((h : Int) + n).toNat h
def restL (n : Int) (h : Nat) : List Nat := if (h : Int) ≤ n ∨ n ≤ -(h : Int) then [] else if 0 < n then rng n.toNat h else rng 0 ((h : Int) + n).toNat
def takeT (a : NA) (m n : Int × Int) : NA := if m.2 ≠ 0 then aloneO m.2 else if n.2 ≠ 0 then aloneO n.2 else if m.1 = 0 ∨ n.1 = 0 then aloneO 9 else colsN (rowsN a (keptL m.1 a.R)) (keptL n.1 a.C)
def dropT (a : NA) (m n : Int × Int) : NA := if m.2 ≠ 0 then aloneO m.2 else if n.2 ≠ 0 then aloneO n.2 else if restL m.1 a.R = [] ∨ restL n.1 a.C = [] then aloneO 9 else colsN (rowsN a (restL m.1 a.R)) (restL n.1 a.C)
def takeO (xs : List Ar) : NA := takeT (argN xs 0) (numO xs 1 (argN xs 0).R) (numO xs 2 (argN xs 0).C)
def dropO (xs : List Ar) : NA := dropT (argN xs 0) (numO xs 1 0) (numO xs 2 0)
end Go.Proofs.YtlfbdodokldkhaaGreatDoor
namespace Go.Proofs.YtlfbdodokldkhaaGreatDoor
open Go.RowKit NM
theorem below_parts {a : NA} (ha : a.right) {k : Nat} (h2 : k ≤ a.R) : belowO (partA a 0 0 k a.C) (partA a k 0 (a.R - k) a.C) = some a := by
  obtain ⟨a1, a2, a3, a4, a5⟩ := rightA_nat.1 ha
  have e0 : k + (a.R - k) = a.R := by omega
  have e1 : belowL k a.C (partL a.C 0 0 k a.C a.l) (a.R - k) a.C (partL a.C k 0 (a.R - k) a.C a.l) = a.l := by
    unfold belowL
    rw [Nat.max_self, e0]
    conv => rhs; rw [← vals_self a.R a.C a.l a4]
    refine vals_congr fun i j hi hj => ?_
    by_cases hik : i < k
    · rw [if_pos hik, partL, orNone_vals, if_pos (hasB_iff.2 (by omega))]
      simp only [Int.toNat_natCast, Nat.zero_add, Nat.add_zero]
    · rw [if_neg hik, partL, orNone_vals, if_pos (hasB_iff.2 (by omega))]
      simp only [Int.toNat_natCast, Nat.add_zero]
      rw [show k + ((i : Int) - (k : Int)).toNat = i by omega]
  have h3 : (k + (a.R - k)) * max a.C a.C ≤ 4096 := by rw [e0, Nat.max_self]; exact a3
  show (if (k + (a.R - k)) * max a.C a.C ≤ 4096 then some (⟨k + (a.R - k), max a.C a.C, belowL k a.C (partL a.C 0 0 k a.C a.l) (a.R - k) a.C (partL a.C k 0 (a.R - k) a.C a.l)⟩ : NA) else none) = some a
  rw [if_pos h3, e1, e0, Nat.max_self]
theorem beside_parts {a : NA} (ha : a.right) {k : Nat} (h2 : k ≤ a.C) : besideO (partA a 0 0 a.R k) (partA a 0 k a.R (a.C - k)) = some a := by
  obtain ⟨a1, a2, a3, a4, a5⟩ := rightA_nat.1 ha
  have e0 : k + (a.C - k) = a.C := by omega
  have e1 : besideL a.R k (partL a.C 0 0 a.R k a.l) a.R (a.C - k) (partL a.C 0 k a.R (a.C - k) a.l) = a.l := by
    unfold besideL
    rw [Nat.max_self, e0]
    conv => rhs; rw [← vals_self a.R a.C a.l a4]
    refine vals_congr fun i j hi hj => ?_
    by_cases hik : j < k
    · rw [if_pos hik, partL, orNone_vals, if_pos (hasB_iff.2 (by omega))]
      simp only [Int.toNat_natCast, Nat.zero_add, Nat.add_zero]
    · rw [if_neg hik, partL, orNone_vals, if_pos (hasB_iff.2 (by omega))]
      simp only [Int.toNat_natCast, Nat.zero_add]
      rw [show i * a.C + k + ((j : Int) - (k : Int)).toNat = i * a.C + j by omega]
  have h3 : max a.R a.R * (k + (a.C - k)) ≤ 4096 := by rw [e0, Nat.max_self]; exact a3
  show (if max a.R a.R * (k + (a.C - k)) ≤ 4096 then some (⟨max a.R a.R, k + (a.C - k), besideL a.R k (partL a.C 0 0 a.R k a.l) a.R (a.C - k) (partL a.C 0 k a.R (a.C - k) a.l)⟩ : NA) else none) = some a
  rw [if_pos h3, e1, e0, Nat.max_self]
theorem kept_all (h : Nat) : keptL h h = rng 0 h := by
  unfold keptL; rw [if_pos (Or.inl (Int.le_refl _))]
theorem kept_pos {k h : Nat} (h1 : 0 < k) (h2 : k < h) : keptL k h = rng 0 k := by
  unfold keptL; rw [if_neg (by omega), if_pos (by omega)]; rfl
theorem kept_neg {k h : Nat} (h1 : 0 < k) (h2 : k < h) : keptL ((k : Int) - h) h = rng k h := by
  unfold keptL; rw [if_neg (by omega), if_neg (by omega)]; congr 1; omega
theorem rest_pos {k h : Nat} (h1 : 0 < k) (h2 : k < h) : restL k h = rng k h := by
  unfold restL; rw [if_neg (by omega), if_pos (by omega)]; rfl
theorem rest_none {h : Nat} (h1 : 0 < h) : restL 0 h = rng 0 h := by
  unfold restL; rw [if_neg (by omega), if_neg (by omega)]; first | done | rfl | (congr 1; omega)
theorem rng_ne {lo hi : Nat} (h : lo < hi) : rng lo hi ≠ [] := fun e => by have := rng_length lo hi; rw [e] at this; simp at this; omega
theorem take_rows {a : NA} (ha : a.right) {k : Nat} (h1 : 0 < k) (h2 : k < a.R) : takeT a (k, 0) (a.C, 0) = partA a 0 0 k a.C := by
  have hC := (rightA_nat.1 ha).2.1
  unfold takeT
  rw [if_neg (by simp), if_neg (by simp), if_neg (by simp; omega)]
  show colsN (rowsN a (keptL (k : Int) a.R)) (keptL (a.C : Int) a.C) = _
  rw [kept_pos h1 h2, kept_all, part_of ha (by omega) (Nat.le_refl _), Nat.sub_zero, Nat.sub_zero]
theorem take_last {a : NA} (ha : a.right) {k : Nat} (h1 : 0 < k) (h2 : k < a.R) : takeT a ((k : Int) - a.R, 0) (a.C, 0) = partA a k 0 (a.R - k) a.C := by
  have hC := (rightA_nat.1 ha).2.1
  unfold takeT
  rw [if_neg (by simp), if_neg (by simp), if_neg (by simp; omega)]
  show colsN (rowsN a (keptL ((k : Int) - a.R) a.R)) (keptL (a.C : Int) a.C) = _
  rw [kept_neg h1 h2, kept_all, part_of ha (Nat.le_refl _) (Nat.le_refl _), Nat.sub_zero]
theorem drop_rows {a : NA} (ha : a.right) {k : Nat} (h1 : 0 < k) (h2 : k < a.R) : dropT a (k, 0) (0, 0) = partA a k 0 (a.R - k) a.C := by
  have hC := (rightA_nat.1 ha).2.1
  unfold dropT
  rw [if_neg (by simp), if_neg (by simp)]
  show (if restL (k : Int) a.R = [] ∨ restL 0 a.C = [] then _ else colsN (rowsN a (restL (k : Int) a.R)) (restL 0 a.C)) = _
  rw [rest_pos h1 h2, rest_none hC, if_neg (fun e => e.elim (rng_ne h2) (rng_ne hC)), part_of ha (Nat.le_refl _) (Nat.le_refl _), Nat.sub_zero]
theorem take_cols {a : NA} (ha : a.right) {k : Nat} (h1 : 0 < k) (h2 : k < a.C) : takeT a (a.R, 0) (k, 0) = partA a 0 0 a.R k := by
  have hR := (rightA_nat.1 ha).1
  unfold takeT
  rw [if_neg (by simp), if_neg (by simp), if_neg (by simp; omega)]
  show colsN (rowsN a (keptL (a.R : Int) a.R)) (keptL (k : Int) a.C) = _
  rw [kept_pos h1 h2, kept_all, part_of ha (Nat.le_refl _) (by omega), Nat.sub_zero, Nat.sub_zero]
theorem drop_cols {a : NA} (ha : a.right) {k : Nat} (h1 : 0 < k) (h2 : k < a.C) : dropT a (0, 0) (k, 0) = partA a 0 k a.R (a.C - k) := by
  have hR := (rightA_nat.1 ha).1
  unfold dropT
  rw [if_neg (by simp), if_neg (by simp)]
  show (if restL 0 a.R = [] ∨ restL (k : Int) a.C = [] then _ else colsN (rowsN a (restL 0 a.R)) (restL (k : Int) a.C)) = _
  rw [rest_pos h1 h2, rest_none hR, if_neg (fun e => e.elim (rng_ne hR) (rng_ne h2)), part_of ha (Nat.le_refl _) (Nat.le_refl _), Nat.sub_zero]
theorem gpart_right {a : NA} (ha : a.right) {row col rows cols : Nat} (h1 : 1 ≤ rows) (h2 : 1 ≤ cols) (h3 : row + rows ≤ a.R) (h4 : col + cols ≤ a.C) : (partA a row col rows cols).right := by
  obtain ⟨a1, a2, a3, a4, a5⟩ := rightA_nat.1 ha
  refine rightA_nat.2 ⟨h1, h2, Nat.le_trans (Nat.mul_le_mul (by show rows ≤ a.R; omega) (by show cols ≤ a.C; omega)) a3, partL_length _ _ _ _ _ _, fun x hx => a5 x (partL_mem a4 h3 h4 hx)⟩
end Go.Proofs.YtlfbdodokldkhaaGreatDoor
namespace Go.Proofs.YtlfbdodokldkhaaGreatDoor
open Go.RowKit NM
/-- From which to which place so many stay, and whether any do. -/
def cutT (n : Int) (h : Nat) (take out : Bool) : Int × Int × Bool :=
  if take = true then
    if out = true ∨ (h : Int) ≤ n ∨ n ≤ -(h : Int) then (0, (h : Int), out || decide (n ≠ 0))
    else if 0 < n then (0, n, true) else ((h : Int) + n, (h : Int), decide (n ≠ 0))
  else if (h : Int) ≤ n ∨ n ≤ -(h : Int) then (0, 0, false)
  else if 0 ≤ n then (n, (h : Int), true) else (0, (h : Int) + n, true)
/-- These places stay, or none do. -/
def CutIs (c : Int × Int × Bool) (ps : List Nat) (h : Nat) : Prop := ∃ lo hi : Nat, c = ((lo : Int), (hi : Int), true) ∧ lo < hi ∧ hi ≤ h ∧ ps = rng lo hi
theorem cut_kept {n : Int} {h : Nat} (h1 : 1 ≤ h) (hn : n ≠ 0) : CutIs (cutT n h true false) (keptL n h) h := by
  unfold cutT keptL
  rw [if_pos rfl]
  by_cases q : (h : Int) ≤ n ∨ n ≤ -(h : Int)
  · rw [if_pos (Or.inr q), if_pos q]
    exact ⟨0, h, by simp [hn], h1, Nat.le_refl _, rfl⟩
  · rw [if_neg (by simpa using q), if_neg q]
    by_cases p : 0 < n
    · rw [if_pos p, if_pos p]
      exact ⟨0, n.toNat, by rw [show ((n.toNat : Nat) : Int) = n by omega]; rfl, by omega, by omega, rfl⟩
    · rw [if_neg p, if_neg p]
      exact ⟨((h : Int) + n).toNat, h, by rw [show ((((h : Int) + n).toNat : Nat) : Int) = (h : Int) + n by omega]; simp [hn], by omega, Nat.le_refl _, rfl⟩
theorem cut_rest {n : Int} {h : Nat} {o : Bool} (h1 : 1 ≤ h) : ((cutT n h false o).2.2 = false ∧ restL n h = []) ∨ CutIs (cutT n h false o) (restL n h) h := by
  unfold cutT restL
  rw [if_neg (by simp)]
  by_cases q : (h : Int) ≤ n ∨ n ≤ -(h : Int)
  · rw [if_pos q, if_pos q]; exact Or.inl ⟨rfl, rfl⟩
  · rw [if_neg q, if_neg q]
    right
    by_cases p : 0 < n
    · rw [if_pos (by omega), if_pos p]
      exact ⟨n.toNat, h, by rw [show ((n.toNat : Nat) : Int) = n by omega], by omega, Nat.le_refl _, rfl⟩
    · rw [if_neg p]
      by_cases z : 0 ≤ n
      · obtain rfl : n = 0 := by omega
        rw [if_pos (by omega)]
        exact ⟨0, h, rfl, by omega, Nat.le_refl _, by congr 1⟩
      · rw [if_neg z]
        exact ⟨0, ((h : Int) + n).toNat, by rw [show ((((h : Int) + n).toNat : Nat) : Int) = (h : Int) + n by omega]; rfl, by omega, by omega, rfl⟩
theorem numO_out {xs : List Ar} {k : Nat} {l : Int} (h : givenB xs k = false) : numO xs k l = (l, 0) := by
  unfold numO; rw [if_neg (by simp [h])]
theorem argV_right {w : World} {A : Option Addr} {n cap k : Nat} {xs : List Ar} (h : ArgsIn w A n cap xs) (hg : givenB xs k = true) : (argV xs k).right := by
  unfold givenB at hg
  unfold argV
  cases hx : xs[k]? with
  | none => rw [hx] at hg; cases hg
  | some a =>
    have ha := (h.all a (List.mem_of_getElem? hx)).right
    obtain ⟨r1, r2, r3, r4, r5⟩ := rightA_nat.1 ha
    exact r5 _ (getV_mem (by rw [r4]; exact Nat.mul_pos r1 r2))
theorem intGo_i64 : ∀ {k : Nat} {n i : Int}, I64 n → intGo n k = some i → I64 i
  | 0, n, i, h, e => by
    simp only [intGo, Option.some.injEq] at e
    subst e; exact h
  | k + 1, n, i, h, e => by
    unfold intGo at e
    split at e
    · cases e
    · exact intGo_i64 (by unfold I64; omega) e
theorem int_i64 {m e i : Int} (h : Rt m e) (hi : intS m e = some i) : I64 i := by
  unfold intS at hi
  split at hi
  · cases hi
  · exact intGo_i64 (rt_i64 h) hi
/-- A number's argument is one that an int holds. -/
theorem wholeO_i64 {x : Val} (h : x.right) : I64 (wholeO x).1 := by
  unfold wholeO
  split
  · show I64 (Option.getD _ 0)
    cases hi : intS (floorS (tnP x).1 (tnP x).2).1 (floorS (tnP x).1 (tnP x).2).2 with
    | none => show I64 0; unfold I64; omega
    | some i => exact int_i64 (floor_spec (tn_rt h)).1 hi
  · show I64 0; unfold I64; omega
theorem numO_i64 {w : World} {A : Option Addr} {n cap k : Nat} {xs : List Ar} {l : Int} (h : ArgsIn w A n cap xs) (hl : I64 l) : I64 (numO xs k l).1 := by
  cases hg : givenB xs k with
  | false => rw [numO_out hg]; exact hl
  | true => unfold numO; rw [if_pos hg]; exact wholeO_i64 (argV_right h hg)
end Go.Proofs.YtlfbdodokldkhaaGreatDoor
namespace Go.Proofs.YtlfbdodokldkhaaGreatDoor
open Go.RowKit NM
/-- A slice of places in memory of its own. -/
def Pls (base : Nat) (w : World) (v : Value) (ps : List Nat) : Prop := w.ownsRow base 3 1 v ps.length (i6 ps)
theorem rng_succ {lo j : Nat} (h : lo ≤ j) : rng lo (j + 1) = rng lo j ++ [j] := by
  unfold rng
  rw [show j + 1 - lo = (j - lo) + 1 by omega, List.range'_concat]
  congr 2; omega
set_option maxHeartbeats 2000000 in
theorem grun_any (lo hi : Nat) (hlo : lo ≤ 100000) (hhi : hi ≤ 100000) (w : World) :
    Calls Tryz.prog 137 #[.int .i64 (lo : Int), .int .i64 (hi : Int)] w fun e w' => ∃ v, e = .returned v ∧ Pls w.heap.size w' v (rng lo hi) ∧ Ext w w' := by
  obtain ⟨i0, hi0, hz0, hz1, hz2⟩ := info_parts info_int_
  go_enter Tryz.func137, Tryz.ntmps137
  go_wp2_with fail
  go_loopw [5, 6] (fun v i wr => ∃ j : Nat, lo ≤ j ∧ (j ≤ hi ∨ j = lo) ∧ i = .int .i64 (j : Int) ∧ Hid (wr.ownsRow w.heap.size 3 1 v (j - lo) (i6 (rng lo j))) ∧ Ext w wr) (fun _ i _ => hi - (intOf i).toNat)
  case atStart =>
    refine ⟨lo, Nat.le_refl _, Or.inr rfl, rfl, ?_, Ext.refl _⟩
    show World.ownsRow _ _ _ _ _ _ _
    rw [show rng lo lo = [] by simp [rng], Nat.sub_self]
    exact World.ownsRow_nil _ _ _ _
  case round =>
    obtain ⟨j, h1, h2, rfl, HW, hxr⟩ := hrel
    have hsz := hxr.size
    by_cases hlt : j < hi
    · go_wp2_with (at_builtin; refine wpList_append_own _ rfl _ _ _ rfl w.heap.size 3 i0 (.int .i64 0) 1 8 Tryz.underlying77 hi0 hz0 hz1 hz2 rfl (by decide) _ (j - lo) (i6 (rng lo j)) rfl (own_allocT HW.out _) _ 1 1 [.int .i64 j] rfl rfl (Rd.one_ _ _ rfl).add (one_i6 [j]) (by simp [maxLen]; omega) (by omega) (by simp; omega) ?_; intro v4 w4 ho4 hg4 _)
      have hx4 := ext_grown (hxr.alloc _) (own_allocT HW.out _) hg4
      refine ⟨⟨j + 1, by omega, Or.inl (by omega), by go_num, ?_, hx4⟩, by simp [intOf]; omega⟩
      show World.ownsRow _ _ _ _ _ _ _
      rw [rng_succ h1, show j + 1 - lo = j - lo + 1 by omega]; unfold i6; rw [List.map_append]
      exact ho4
    · go_wp2_with fail
      go_ret
      refine ⟨_, rfl, ?_, hxr⟩
      have hj : rng lo j = rng lo hi := by
        rcases h2 with h2 | h2
        · rw [show j = hi by omega]
        · subst h2; simp [rng]; omega
      unfold Pls
      rw [← hj, rng_length]
      exact HW.out
set_option maxHeartbeats 2000000 in
theorem kept_any (n : Int) (h : Nat) (hn : I64 n) (hh : h ≤ 4096) (w : World) :
    Calls Tryz.prog 111 #[.int .i64 n, .int .i64 (h : Int)] w fun e w' => ∃ v, e = .returned v ∧ Pls w.heap.size w' v (keptL n h) ∧ Ext w w' := by
  unfold I64 at hn
  unfold keptL
  have r1 := fun lo hi h1 h2 W => grun_any lo hi h1 h2 W
  by_cases h1 : (h : Int) ≤ n
  · rw [if_pos (Or.inl h1)]
    have hr := fun W => grun_any 0 h (by omega) (by omega) W
    rw [show ((0 : Nat) : Int) = 0 from rfl] at hr
    generalize rng 0 h = ps at *
    go_enter Tryz.func111, Tryz.ntmps111
    go_wp2_with (go_at_call 137; (with_reducible refine (hr _).mono ?_); rintro e w' ⟨v, rfl, hv, hb⟩)
    go_ret
    exact ⟨v, rfl, hv, hb⟩
  · by_cases h2 : n ≤ -(h : Int)
    · rw [if_pos (Or.inr h2)]
      have hr := fun W => grun_any 0 h (by omega) (by omega) W
      rw [show ((0 : Nat) : Int) = 0 from rfl] at hr
      generalize rng 0 h = ps at *
      go_enter Tryz.func111, Tryz.ntmps111
      go_wp2_with (go_at_call 137; (with_reducible refine (hr _).mono ?_); rintro e w' ⟨v, rfl, hv, hb⟩)
      go_ret
      exact ⟨v, rfl, hv, hb⟩
    · rw [if_neg (by omega)]
      by_cases h3 : 0 < n
      · rw [if_pos h3]
        have hr := fun W => grun_any 0 n.toNat (by omega) (by omega) W
        rw [show ((0 : Nat) : Int) = 0 from rfl, show ((n.toNat : Nat) : Int) = n by omega] at hr
        generalize rng 0 n.toNat = ps at *
        go_enter Tryz.func111, Tryz.ntmps111
        go_wp2_with (go_at_call 137; (with_reducible refine (hr _).mono ?_); rintro e w' ⟨v, rfl, hv, hb⟩)
        go_ret
        exact ⟨v, rfl, hv, hb⟩
      · rw [if_neg h3]
        have hr := fun W => grun_any ((h : Int) + n).toNat h (by omega) (by omega) W
        rw [show ((((h : Int) + n).toNat : Nat) : Int) = (h : Int) + n by omega] at hr
        have hw : IntKind.i64.wrap ((h : Int) + n) = (h : Int) + n := by rw [IntKind.wrap_i64]; omega
        generalize rng ((h : Int) + n).toNat h = ps at *
        go_enter Tryz.func111, Tryz.ntmps111
        go_wp2_with (go_at_call 137; (with_reducible refine (hr _).mono ?_); rintro e w' ⟨v, rfl, hv, hb⟩)
        go_ret
        exact ⟨v, rfl, hv, hb⟩
set_option maxHeartbeats 2000000 in
theorem rest_any (n : Int) (h : Nat) (hn : I64 n) (hh : h ≤ 4096) (w : World) :
    Calls Tryz.prog 94 #[.int .i64 n, .int .i64 (h : Int)] w fun e w' => ∃ v, e = .returned v ∧ Pls w.heap.size w' v (restL n h) ∧ Ext w w' := by
  unfold I64 at hn
  unfold restL
  by_cases h1 : (h : Int) ≤ n
  · rw [if_pos (Or.inl h1)]
    go_enter Tryz.func94, Tryz.ntmps94
    go_wp2_with fail
    go_ret
    exact ⟨_, rfl, World.ownsRow_nil _ _ _ _, by with_reducible repeat (first | exact Ext.refl _ | apply Ext.drew | apply Ext.alloc | apply Ext.more_)⟩
  · by_cases h2 : n ≤ -(h : Int)
    · rw [if_pos (Or.inr h2)]
      go_enter Tryz.func94, Tryz.ntmps94
      go_wp2_with fail
      go_ret
      exact ⟨_, rfl, World.ownsRow_nil _ _ _ _, by with_reducible repeat (first | exact Ext.refl _ | apply Ext.drew | apply Ext.alloc | apply Ext.more_)⟩
    · rw [if_neg (by omega)]
      by_cases h3 : 0 < n
      · rw [if_pos h3]
        have hr := fun W => grun_any n.toNat h (by omega) (by omega) W
        rw [show ((n.toNat : Nat) : Int) = n by omega] at hr
        generalize rng n.toNat h = ps at *
        go_enter Tryz.func94, Tryz.ntmps94
        go_wp2_with (go_at_call 137; (with_reducible refine (hr _).mono ?_); rintro e w' ⟨v, rfl, hv, hb⟩)
        go_ret
        exact ⟨v, rfl, hv, hb⟩
      · rw [if_neg h3]
        have hr := fun W => grun_any 0 ((h : Int) + n).toNat (by omega) (by omega) W
        rw [show ((((h : Int) + n).toNat : Nat) : Int) = (h : Int) + n by omega, show ((0 : Nat) : Int) = 0 from rfl] at hr
        have hw : IntKind.i64.wrap ((h : Int) + n) = (h : Int) + n := by rw [IntKind.wrap_i64]; omega
        generalize rng 0 ((h : Int) + n).toNat = ps at *
        go_enter Tryz.func94, Tryz.ntmps94
        go_wp2_with (go_at_call 137; (with_reducible refine (hr _).mono ?_); rintro e w' ⟨v, rfl, hv, hb⟩)
        go_ret
        exact ⟨v, rfl, hv, hb⟩
end Go.Proofs.YtlfbdodokldkhaaGreatDoor
namespace Go.Proofs.YtlfbdodokldkhaaGreatDoor
open Go.RowKit NM
theorem ArrIn.part {w : World} {A : Option Addr} {n cap : Nat} {l : List Val} (h : ArrIn w A n cap l) {p m : Nat} (hp : p + m ≤ n) (hm : 0 < m) :
    ∃ b off, A = some ⟨b, off, none⟩ ∧ b < w.heap.size ∧ ∀ j u, (vcells ((l.drop p).take m))[j]? = some u → w.cell? ⟨b, off + p * 6 + j, none⟩ = some u := by
  obtain ⟨x, b, off, hx, _, hA, hv⟩ := h.at (k := p) (by omega)
  refine ⟨b, off, hA, lt_of_cell hv.1, fun j u hu => ?_⟩
  have hl : l = l.take p ++ ((l.drop p).take m ++ (l.drop p).drop m) := by rw [List.take_append_drop, List.take_append_drop]
  have hj : j < (vcells ((l.drop p).take m)).length := (List.getElem?_eq_some_iff.1 hu).1
  have h1 : (vcells l)[p * 6 + j]? = some u := by
    rw [hl, vcells_append, vcells_append]
    have hlp : (vcells (l.take p)).length = p * 6 := by rw [vcells_length, List.length_take]; have := h.len; rw [Nat.min_eq_left (by omega)]
    rw [List.getElem?_append_right (by rw [hlp]; omega), hlp, show p * 6 + j - p * 6 = j by omega, List.getElem?_append_left hj]
    exact hu
  obtain ⟨b', off', hA', _, hc⟩ := h.rd _ _ h1
  rw [hA] at hA'
  simp only [Option.some.injEq, Addr.mk.injEq, and_true] at hA'
  obtain ⟨rfl, rfl⟩ := hA'
  rw [Nat.add_assoc]; exact hc
theorem make_vals (N : Nat) (hN : N ≤ 4096) (W : World) : (Instr.makeSlice 28 (.int .i64 0) (.int .i64 (N : Int))).run Tryz.prog W = .ok (.slice (some ⟨W.heap.size, 0, none⟩) 0 N) (W.alloc (.cells (madeCells #[.int .i64 0, .int .i64 0, .int .i64 0, .string ⟨#[]⟩, .bool false, .int .i64 0] (N * 6)) 39)) := by
  obtain ⟨i0, hi, hz0, hz1, hz2⟩ := info_parts info_val
  have := run_make (P := Tryz.prog) W 28 39 i0 _ Tryz.underlying28 hi hz0 .i64 .i64 0 (N : Int) (by omega) (by omega) (by rw [hz2]; omega) (by omega)
  simpa [hz1, Value.cells] using this
theorem made_own (X : World) (base N : Nat) (hN : N ≤ 4096) (hb : base ≤ X.heap.size) : (X.alloc (.cells (madeCells #[.int .i64 0, .int .i64 0, .int .i64 0, .string ⟨#[]⟩, .bool false, .int .i64 0] (N * 6)) 39)).ownsRow base 39 6 (.slice (some ⟨X.heap.size, 0, none⟩) 0 N) 0 [] := by
  have h0 := World.ownsRow_made (base := base) (e := 39) (size := 6) X (madeCells #[.int .i64 0, .int .i64 0, .int .i64 0, .string ⟨#[]⟩, .bool false, .int .i64 0] (N * 6)) N hb (by simp only [maxLen]; omega) (by rw [size_madeCells])
  exact h0
theorem rows_step {C : Nat} {l : List Val} {ps : List Nat} {k r : Nat} (hr : ps[k]? = some r) : (ps.take (k + 1)).flatMap (rowL C l) = (ps.take k).flatMap (rowL C l) ++ rowL C l r := by
  rw [List.take_add_one, hr, List.flatMap_append]; simp
theorem lt_mul {r R C : Nat} (h : r < R) (hm : R * C ≤ 4096) : r * C + C ≤ R * C ∧ r * C ≤ 4096 := by
  have := Nat.mul_le_mul_right C (show r + 1 ≤ R by omega)
  rw [Nat.add_mul, Nat.one_mul] at this
  omega
set_option maxHeartbeats 4000000 in
theorem rowsOf_any (R C : Nat) (l : List Val) (A : Option Addr) (n cap : Nat) (ps : List Nat) (B : Option Addr) (cb : Nat) (w : World) (h : ArrIn w A n cap l) (hr : NA.right ⟨R, C, l⟩) (hps : Rd 0 w B (i6 ps)) (hcb : ps.length ≤ cb) (hp : ∀ r ∈ ps, r < R) (hm : ps.length * C ≤ 4096) (hm2 : ps.length ≤ 4096) :
    Calls Tryz.prog 96 #[AV R C (.slice A n cap), .slice B ps.length cb] w fun e w' => ResA w (rowsN ⟨R, C, l⟩ ps) e w' := by
  obtain ⟨r1, r2, r3, r4, r5⟩ := rightA_nat.1 hr
  simp only at r1 r2 r3 r4 r5
  have hln := h.len
  obtain ⟨i0, hi0, hz0, hz1, hz2⟩ := info_parts info_val
  have hmk := make_vals (ps.length * C) hm
  have hw0 : IntKind.i64.wrap ((ps.length : Int) * (C : Int)) = ((ps.length * C : Nat) : Int) := by rw [IntKind.wrap_i64, Int.natCast_mul]; rw [← Int.natCast_mul]; omega
  have hres : rowsN ⟨R, C, l⟩ ps = ⟨ps.length, C, ps.flatMap (rowL C l)⟩ := rfl
  have hok : ∀ x ∈ ps.flatMap (rowL C l), x.ok := rowsN_all (a := ⟨R, C, l⟩) r4 hp h.ok
  rw [hres]
  have HO := Lib.hid hok
  have HL := Lib.hid hm
  have hmo := made_own ((w.alloc (Obj.cells #[.int .i64 (R : Int), .int .i64 (C : Int), .slice (A) n cap] 30)).alloc (Obj.cells #[.int .i64 0, .int .i64 0, .slice none 0 0] 30)) ((w.alloc (Obj.cells #[.int .i64 (R : Int), .int .i64 (C : Int), .slice (A) n cap] 30)).alloc (Obj.cells #[.int .i64 0, .int .i64 0, .slice none 0 0] 30)).heap.size (ps.length * C) hm (Nat.le_refl _)
  have hC4 : C ≤ 4096 := Nat.le_trans (Nat.le_mul_of_pos_left C r1) r3
  generalize hN : ps.length * C = N at *
  have HN := Lib.hid hN
  clear hN hres hok
  go_enter Tryz.func96, Tryz.ntmps96
  go_wp2_with fail
  go_loopw [5, 16] (fun v i wr => ∃ k : Nat, k ≤ ps.length ∧ i = .int .i64 (k : Int) ∧ Hid (wr.ownsRow ((w.alloc (Obj.cells #[.int .i64 (R : Int), .int .i64 (C : Int), .slice (A) n cap] 30)).alloc (Obj.cells #[.int .i64 0, .int .i64 0, .slice none 0 0] 30)).heap.size 39 6 v (k * C) (vcells ((ps.take k).flatMap (rowL C l)))) ∧ Ext ((w.alloc (Obj.cells #[.int .i64 (R : Int), .int .i64 (C : Int), .slice (A) n cap] 30)).alloc (Obj.cells #[.int .i64 0, .int .i64 0, .slice none 0 0] 30)) wr) (fun _ i _ => ps.length - (intOf i).toNat)
  case atStart =>
    refine ⟨0, Nat.zero_le _, rfl, ?_, (Ext.refl _).alloc _⟩
    show World.ownsRow _ _ _ _ _ _ _
    rw [Nat.zero_mul]
    simp only [World.size_alloc] at hmo ⊢
    exact hmo
  case round =>
    obtain ⟨k, hk, rfl, HW, hxr⟩ := hrel
    have hsz := hxr.size
    have hx0 := hxr
    obtain ⟨os, d, rfl⟩ := hxr.more
    clear hxr hmo
    by_cases hlt : k < ps.length
    · obtain ⟨r, hrk⟩ : ∃ r, ps[k]? = some r := ⟨_, List.getElem?_eq_getElem hlt⟩
      have hrR : r < R := hp r (List.mem_of_getElem? hrk)
      obtain ⟨m1, m2⟩ := lt_mul hrR r3
      obtain ⟨bp, op, rfl, _, hcp⟩ := hps k (.int .i64 r) (by rw [List.getElem?_map, hrk]; rfl)
      have hbp := lt_of_cell hcp
      obtain ⟨b, off, rfl, hbl, hcell⟩ := h.part (p := r * C) (m := C) (by omega) r2
      have hcap := h.cap
      have hkC : k * C + C ≤ N := by rw [← HN.out]; have := Nat.mul_le_mul_right C (show k + 1 ≤ ps.length by omega); rw [Nat.add_mul, Nat.one_mul] at this; exact this
      have hl6 : (vcells ((l.drop (r * C)).take C)).length = C * 6 := by rw [vcells_length, List.length_take, List.length_drop]; omega
      have hstep := rows_step (C := C) (l := l) hrk
      have e1 : IntKind.i64.wrap ((r : Int) * (C : Int)) = ((r * C : Nat) : Int) := by rw [IntKind.wrap_i64, ← Int.natCast_mul]; omega
      have hrC : r ≤ 4096 := Nat.le_trans (Nat.le_mul_of_pos_right r r2) m2
      have e3 : IntKind.i64.wrap (((r : Int) + 1) * (C : Int)) = ((r * C + C : Nat) : Int) := by
        rw [IntKind.wrap_i64, Int.add_mul, Int.one_mul, ← Int.natCast_mul, ← Int.natCast_add]
        generalize r * C + C = z at *
        omega
      have hne : ¬ cap = r * C := by omega
      have HS := Lib.hid hstep
      have HK := Lib.hid hkC
      generalize hP : r * C = P at *
      have hPC : P + C - P = C := by omega
      clear hstep hkC hrk hr hp
      go_wp2_with (at_builtin; refine wpList_append_own _ rfl _ _ _ rfl ((w.alloc (Obj.cells #[.int .i64 (R : Int), .int .i64 (C : Int), .slice (some ⟨b, off, none⟩) n cap] 30)).alloc (Obj.cells #[.int .i64 0, .int .i64 0, .slice none 0 0] 30)).heap.size 39 i0 (VV 0 0 0 ⟨#[]⟩ false 0) 6 56 Tryz.underlying28 hi0 hz0 hz1 hz2 rfl (by decide) _ (k * C) _ rfl HW.out _ (P + C - P) _ (vcells ((l.drop P).take C)) rfl (by rw [hPC]; exact hl6) (fun j u hu => by rw [Addr.add_mid]; exact (Ext.trans (b := ((w.alloc (Obj.cells #[.int .i64 (R : Int), .int .i64 (C : Int), .slice (some ⟨b, off, none⟩) n cap] 30)).alloc (Obj.cells #[.int .i64 0, .int .i64 0, .slice none 0 0] 30))) (by with_reducible repeat (first | exact Ext.refl _ | apply Ext.drew | apply Ext.alloc | apply Ext.more_)) hx0).cell_some (hcell j u hu)) (fun u hu => vcells_one u hu) (by have := HK.out; rw [hPC]; simp only [maxLen]; omega) (by have := HK.out; rw [hPC]; omega) hsz ?_; intro v4 w4 ho4 hg4 _)
      have hx4 := ext_grownN hx0 HW.out hg4
      refine ⟨⟨k + 1, by omega, by go_num, ?_, hx4⟩, by simp [intOf]; omega⟩
      show World.ownsRow _ _ _ _ _ _ _
      rw [HS.out, vcells_append, show (k + 1) * C = k * C + C by rw [Nat.add_mul, Nat.one_mul]]
      unfold rowL
      rw [hP]
      rw [hPC] at ho4
      exact ho4
    · obtain rfl : k = ps.length := by omega
      have hT : ps.take ps.length = ps := List.take_length
      have HW2 := HW.out
      rw [hT, HN.out] at HW2
      obtain ⟨D, cc, rfl, hD⟩ := own_arrN (w := ((w.alloc (Obj.cells #[.int .i64 (R : Int), .int .i64 (C : Int), .slice (A) n cap] 30)).alloc (Obj.cells #[.int .i64 0, .int .i64 0, .slice none 0 0] 30))) (X := ((w.alloc (Obj.cells #[.int .i64 (R : Int), .int .i64 (C : Int), .slice (A) n cap] 30)).alloc (Obj.cells #[.int .i64 0, .int .i64 0, .slice none 0 0] 30))) HW2 (Nat.le_refl _) (by omega) HO.out
      clear HW HW2 hT
      go_wp2_with (go_at_call 58; (with_reducible refine (made_any _ _ _ _ _ _).mono ?_); rintro e w' ⟨rfl, hb⟩; have hDr := Rd.ext hD.rd hb; obtain ⟨os6, d6, rfl⟩ := hb.more; clear hb)
      exact bodyPost_ret (v := AV ps.length C (.slice D N cc)) (by simp [results, Tryz.results96, go_sem]) rfl ⟨D, N, cc, rfl, ⟨(by (try simp only [more_more] at hDr); (try simp only [drew_more] at hDr); (try simp only [more_drew] at hDr); (try simp only [Array.append_assoc] at hDr); exact Rd.swap hDr (by first | (simp; done) | (simp; omega) | omega) (by first | (simp; done) | (simp; omega) | omega) (by first | (simp; done) | (simp; omega) | omega)), hD.len, hD.cap, hD.small, hD.ok⟩, by with_reducible repeat (first | exact Ext.refl _ | apply Ext.drew | apply Ext.alloc | apply Ext.more_)⟩
set_option maxHeartbeats 4000000 in
theorem colsOf_any (R C : Nat) (l : List Val) (A : Option Addr) (n cap : Nat) (ps : List Nat) (B : Option Addr) (cb : Nat) (w : World) (h : ArrIn w A n cap l) (hr : NA.right ⟨R, C, l⟩) (hps : Rd 0 w B (i6 ps)) (hcb : ps.length ≤ cb) (hp : ∀ r ∈ ps, r < C) (hm : R * ps.length ≤ 4096) (hm2 : ps.length ≤ 4096) :
    Calls Tryz.prog 95 #[AV R C (.slice A n cap), .slice B ps.length cb] w fun e w' => ResA w (colsN ⟨R, C, l⟩ ps) e w' := by
  obtain ⟨r1, r2, r3, r4, r5⟩ := rightA_nat.1 hr
  simp only at r1 r2 r3 r4 r5
  have hln := h.len
  obtain ⟨i0, hi0, hz0, hz1, hz2⟩ := info_parts info_val
  have hmk := make_vals (R * ps.length) hm
  have hw0 : IntKind.i64.wrap ((ps.length : Int) * (R : Int)) = ((R * ps.length : Nat) : Int) := by rw [IntKind.wrap_i64, ← Int.natCast_mul, Nat.mul_comm]; omega
  have hres : colsN ⟨R, C, l⟩ ps = ⟨R, ps.length, vals (fun i j => getV l (i * C + plc ps j)) ps.length (R * ps.length)⟩ := by
    have := colsN_l ⟨R, C, l⟩ ps
    show (⟨R, ps.length, (colsN ⟨R, C, l⟩ ps).l⟩ : NA) = _
    rw [this]
  have hok : ∀ x ∈ (colsN ⟨R, C, l⟩ ps).l, x.ok := colsN_all (a := ⟨R, C, l⟩) r4 hp h.ok
  rw [hres] at hok ⊢
  have HO := Lib.hid hok
  have hmo := made_own ((w.alloc (Obj.cells #[.int .i64 (R : Int), .int .i64 (C : Int), .slice (A) n cap] 30)).alloc (Obj.cells #[.int .i64 0, .int .i64 0, .slice none 0 0] 30)) ((w.alloc (Obj.cells #[.int .i64 (R : Int), .int .i64 (C : Int), .slice (A) n cap] 30)).alloc (Obj.cells #[.int .i64 0, .int .i64 0, .slice none 0 0] 30)).heap.size (R * ps.length) hm (Nat.le_refl _)
  have hC4 : C ≤ 4096 := Nat.le_trans (Nat.le_mul_of_pos_left C r1) r3
  have hR4 : R ≤ 4096 := Nat.le_trans (Nat.le_mul_of_pos_right R r2) r3
  generalize hM : ps.length = M at *
  generalize hN : R * M = N at *
  have HN := Lib.hid hN
  have HM := Lib.hid hM
  clear hN hres hok hM
  go_enter Tryz.func95, Tryz.ntmps95
  go_wp2_with fail
  go_loopw [5, 17] (fun v i wr => ∃ k : Nat, k ≤ R ∧ i = .int .i64 (k : Int) ∧ Hid (wr.ownsRow ((w.alloc (Obj.cells #[.int .i64 (R : Int), .int .i64 (C : Int), .slice (A) n cap] 30)).alloc (Obj.cells #[.int .i64 0, .int .i64 0, .slice none 0 0] 30)).heap.size 39 6 v (k * M) (vcells (vals (fun i j => getV l (i * C + plc ps j)) M (k * M)))) ∧ Ext ((w.alloc (Obj.cells #[.int .i64 (R : Int), .int .i64 (C : Int), .slice (A) n cap] 30)).alloc (Obj.cells #[.int .i64 0, .int .i64 0, .slice none 0 0] 30)) wr) (fun _ i _ => R - (intOf i).toNat)
  case atStart =>
    refine ⟨0, Nat.zero_le _, rfl, ?_, (Ext.refl _).alloc _⟩
    show World.ownsRow _ _ _ _ _ _ _
    rw [Nat.zero_mul]
    simp only [World.size_alloc] at hmo ⊢
    exact hmo
  case round =>
    obtain ⟨r, hk, rfl, HW, hxr⟩ := hrel
    clear hmo
    by_cases hlt : r < R
    · obtain ⟨m1, m2⟩ := lt_mul hlt r3
      have hrM : r * M + M ≤ N := by rw [← HN.out]; have := Nat.mul_le_mul_right M (show r + 1 ≤ R by omega); rw [Nat.add_mul, Nat.one_mul] at this; exact this
      go_wp2_with fail
      obtain ⟨wo, rfl⟩ : ∃ wo : World, wo = wr := ⟨_, rfl⟩
      go_loopw [5, 22] (fun v i wr => ∃ j : Nat, j ≤ M ∧ i = .int .i64 (j : Int) ∧ Hid (wr.ownsRow ((w.alloc (Obj.cells #[.int .i64 (R : Int), .int .i64 (C : Int), .slice (A) n cap] 30)).alloc (Obj.cells #[.int .i64 0, .int .i64 0, .slice none 0 0] 30)).heap.size 39 6 v (r * M + j) (vcells (vals (fun i j => getV l (i * C + plc ps j)) M (r * M + j)))) ∧ Ext ((w.alloc (Obj.cells #[.int .i64 (R : Int), .int .i64 (C : Int), .slice (A) n cap] 30)).alloc (Obj.cells #[.int .i64 0, .int .i64 0, .slice none 0 0] 30)) wr) (fun _ i _ => M - (intOf i).toNat)
      case atStart => exact ⟨0, Nat.zero_le _, rfl, HW, hxr⟩
      case round =>
        obtain ⟨j, hj, rfl, HV, hxv⟩ := hrel
        clear HW hxr
        have hsz := hxv.size
        have hx0 := hxv
        obtain ⟨os, d, rfl⟩ := hxv.more
        clear hxv
        by_cases hjM : j < M
        · obtain ⟨c, hck⟩ : ∃ c, ps[j]? = some c := ⟨_, List.getElem?_eq_getElem (by rw [HM.out]; exact hjM)⟩
          have hcC : c < C := hp c (List.mem_of_getElem? hck)
          have hpj : plc ps j = c := by unfold plc; rw [hck]; rfl
          obtain ⟨bp, op, rfl, _, hcp⟩ := hps j (.int .i64 c) (by rw [List.getElem?_map, hck]; rfl)
          have hbp := lt_of_cell hcp
          obtain ⟨x, b, off, hx, hxo, rfl, ⟨y0, y1, y2, y3, y4, y5⟩⟩ := h.at (k := r * C + c) (by omega)
          have hbl := lt_of_cell y0
          have hcap := h.cap
          have hgx : getV l (r * C + plc ps j) = x := by rw [hpj]; unfold getV; rw [hx]; rfl
          have hstep := vals_succ (fun i j => getV l (i * C + plc ps j)) M r j hjM
          simp only [hgx] at hstep
          have e1 : IntKind.i64.wrap ((r : Int) * (C : Int)) = ((r * C : Nat) : Int) := by rw [IntKind.wrap_i64, ← Int.natCast_mul]; omega
          have e2 : IntKind.i64.wrap (((r * C : Nat) : Int) + (c : Int)) = ((r * C + c : Nat) : Int) := by rw [IntKind.wrap_i64]; generalize r * C = z at *; omega
          have hKn : r * C + c < n := by omega
          have HS := Lib.hid hstep
          generalize hP : r * C = P at *
          generalize hK : P + c = K at *
          have HR := Lib.hid hrM
          clear hstep hck hr hp hx hgx hP hK hpj hrM
          go_wp2_with (at_builtin; refine wpList_append_own _ rfl _ _ _ rfl ((w.alloc (Obj.cells #[.int .i64 (R : Int), .int .i64 (C : Int), .slice (some ⟨b, off, none⟩) n cap] 30)).alloc (Obj.cells #[.int .i64 0, .int .i64 0, .slice none 0 0] 30)).heap.size 39 i0 (VV 0 0 0 ⟨#[]⟩ false 0) 6 56 Tryz.underlying28 hi0 hz0 hz1 hz2 rfl (by decide) _ (r * M + j) _ rfl (own_ext HV.out ((Ext.refl _).alloc _)) _ 1 1 x.cells rfl rfl (new_cells_at _ _ x.cells (by simp) rfl _) (fun u hu => vcells_one (l := [x]) u (by simpa [vcells] using hu)) (by have := HR.out; simp only [maxLen]; omega) (by have := HR.out; omega) (by simp; omega) ?_; intro v4 w4 ho4 hg4 _)
          have hx4 := ext_grownN (hx0.alloc _) (own_ext HV.out ((Ext.refl _).alloc _)) hg4
          refine ⟨⟨j + 1, by omega, by go_num, ?_, hx4⟩, by simp [intOf]; omega⟩
          show World.ownsRow _ _ _ _ _ _ _
          rw [← Nat.add_assoc, HS.out, vcells_append]
          simpa [vcells] using ho4
        · obtain rfl : j = M := by omega
          go_wp2_with fail
          refine ⟨⟨r + 1, by omega, by go_num, ?_, hx0⟩, by simp [intOf]; omega⟩
          show World.ownsRow _ _ _ _ _ _ _
          rw [show (r + 1) * j = r * j + j by rw [Nat.add_mul, Nat.one_mul]]
          exact HV.out
    · obtain rfl : R = r := by omega
      obtain ⟨os, d, rfl⟩ := hxr.more
      clear hxr
      have HW2 := HW.out
      rw [HN.out] at HW2
      obtain ⟨D, cc, rfl, hD⟩ := own_arrN (n := N) (w := ((w.alloc (Obj.cells #[.int .i64 (R : Int), .int .i64 (C : Int), .slice (A) n cap] 30)).alloc (Obj.cells #[.int .i64 0, .int .i64 0, .slice none 0 0] 30))) (X := ((w.alloc (Obj.cells #[.int .i64 (R : Int), .int .i64 (C : Int), .slice (A) n cap] 30)).alloc (Obj.cells #[.int .i64 0, .int .i64 0, .slice none 0 0] 30))) HW2 (Nat.le_refl _) (by omega) HO.out
      clear HW HW2
      go_wp2_with (go_at_call 58; (with_reducible refine (made_any _ _ _ _ _ _).mono ?_); rintro e w' ⟨rfl, hb⟩; have hDr := Rd.ext hD.rd hb; obtain ⟨os6, d6, rfl⟩ := hb.more; clear hb)
      exact bodyPost_ret (v := AV R M (.slice D N cc)) (by simp [results, Tryz.results95, go_sem]) rfl ⟨D, N, cc, rfl, ⟨(by (try simp only [more_more] at hDr); (try simp only [drew_more] at hDr); (try simp only [more_drew] at hDr); (try simp only [Array.append_assoc] at hDr); exact Rd.swap hDr (by first | (simp; done) | (simp; omega) | omega) (by first | (simp; done) | (simp; omega) | omega) (by first | (simp; done) | (simp; omega) | omega)), hD.len, hD.cap, hD.small, hD.ok⟩, by with_reducible repeat (first | exact Ext.refl _ | apply Ext.drew | apply Ext.alloc | apply Ext.more_)⟩
end Go.Proofs.YtlfbdodokldkhaaGreatDoor
namespace Go.Proofs.YtlfbdodokldkhaaGreatDoor
open Go.RowKit NM
/-- Places that may be taken. -/
structure PlOk (ps : List Nat) (h : Nat) : Prop where
  pos : 1 ≤ ps.length
  le : ps.length ≤ h
  lt : ∀ r ∈ ps, r < h
theorem CutIs.pl {c : Int × Int × Bool} {ps : List Nat} {h : Nat} (hc : CutIs c ps h) : PlOk ps h := by
  obtain ⟨lo, hi, _, h1, h2, rfl⟩ := hc
  exact ⟨by rw [rng_length]; omega, by rw [rng_length]; omega, fun r hr => Nat.lt_of_lt_of_le (rng_lt hr) h2⟩
theorem kept_pl {n : Int} {h : Nat} (h1 : 1 ≤ h) (hn : n ≠ 0) : PlOk (keptL n h) h := (cut_kept h1 hn).pl
theorem rest_pl {n : Int} {h : Nat} (h1 : 1 ≤ h) (hn : restL n h ≠ []) : PlOk (restL n h) h := by
  rcases cut_rest (n := n) (o := false) h1 with ⟨_, h2⟩ | h2
  · exact absurd h2 hn
  · exact h2.pl
/-- rowsOf, at an array and places known by name. -/
theorem rowsOf_pl (a : NA) (A : Option Addr) (n cap : Nat) (ps : List Nat) (B : Option Addr) (cb : Nat) (w : World) (h : ArrIn w A n cap a.l) (hr : a.right) (hps : Rd 0 w B (i6 ps)) (hcb : ps.length ≤ cb) (hp : PlOk ps a.R) :
    Calls Tryz.prog 96 #[AV a.R a.C (.slice A n cap), .slice B ps.length cb] w fun e w' => ResA w (rowsN a ps) e w' := by
  obtain ⟨r1, r2, r3, r4, r5⟩ := rightA_nat.1 hr
  exact rowsOf_any a.R a.C a.l A n cap ps B cb w h hr hps hcb hp.lt (Nat.le_trans (Nat.mul_le_mul_right _ hp.le) r3) (Nat.le_trans hp.le (Nat.le_trans (Nat.le_mul_of_pos_right a.R r2) r3))
theorem colsOf_pl (a : NA) (A : Option Addr) (n cap : Nat) (ps : List Nat) (B : Option Addr) (cb : Nat) (w : World) (h : ArrIn w A n cap a.l) (hr : a.right) (hps : Rd 0 w B (i6 ps)) (hcb : ps.length ≤ cb) (hp : PlOk ps a.C) :
    Calls Tryz.prog 95 #[AV a.R a.C (.slice A n cap), .slice B ps.length cb] w fun e w' => ResA w (colsN a ps) e w' := by
  obtain ⟨r1, r2, r3, r4, r5⟩ := rightA_nat.1 hr
  exact colsOf_any a.R a.C a.l A n cap ps B cb w h hr hps hcb hp.lt (Nat.le_trans (Nat.mul_le_mul_left _ hp.le) r3) (Nat.le_trans hp.le (Nat.le_trans (Nat.le_mul_of_pos_left a.C r1) r3))
set_option maxHeartbeats 4000000 in
theorem gtake_any (A : Option Addr) (n cap : Nat) (xs : List Ar) (w : World) (h : ArgsIn w A n cap xs) (h1 : 1 ≤ n) :
    Calls Tryz.prog 56 #[.slice A n cap] w fun e w' => ResA w (takeO xs) e w' := by
  obtain ⟨R, C, l, b1, off1, n1, cap1, b, off, x0, ha, rfl, ⟨v0, v1, v2⟩, _, hc1, _, _, _, hbl, _, _, _, harr, _⟩ := h.first h1
  have hxr : NA.right ⟨R, C, l⟩ := (h.all _ (List.mem_of_getElem? ha)).right
  have hcap := h.cap
  have hsm := h.small
  simp only [Nat.zero_mul, Nat.add_zero] at v0 v1 v2
  have hx0 : argN xs 0 = ⟨R, C, l⟩ := by unfold argN; rw [ha]
  obtain ⟨r1, r2, r3, r4, r5⟩ := rightA_nat.1 hxr
  simp only at r1 r2 r3 r4
  have hR4 : R ≤ 4096 := Nat.le_trans (Nat.le_mul_of_pos_right R r2) r3
  have hC4 : C ≤ 4096 := Nat.le_trans (Nat.le_mul_of_pos_left C r1) r3
  have n0 := fun W (hW : ArgsIn W (some ⟨b, off, none⟩) n cap xs) => gnumber_any _ n cap xs 1 (R : Int) W hW _ rfl
  have n2 := fun W (hW : ArgsIn W (some ⟨b, off, none⟩) n cap xs) => gnumber_any _ n cap xs 2 (C : Int) W hW _ rfl
  have i1 : I64 (numO xs 1 (R : Int)).1 := numO_i64 h (by unfold I64; omega)
  have i2 : I64 (numO xs 2 (C : Int)).1 := numO_i64 h (by unfold I64; omega)
  unfold takeO
  rw [hx0]
  show Calls _ _ _ _ fun e w' => ResA w (takeT ⟨R, C, l⟩ (numO xs 1 (R : Int)) (numO xs 2 (C : Int))) e w'
  generalize numO xs 1 (R : Int) = mm at *
  generalize numO xs 2 (C : Int) = kk at *
  obtain ⟨mi, mf⟩ := mm
  obtain ⟨ki, kf⟩ := kk
  simp only [show ((1 : Nat) : Int) = 1 from rfl, show ((2 : Nat) : Int) = 2 from rfl] at n0 n2
  have H := Lib.hid h
  have HA := Lib.hid harr
  have HI1 := Lib.hid i1
  have HI2 := Lib.hid i2
  clear h harr i1 i2 ha hx0 r4 r5
  obtain ⟨X, hX⟩ : ∃ X, takeT ⟨R, C, l⟩ (mi, mf) (ki, kf) = X := ⟨_, rfl⟩
  rw [hX]
  by_cases hmf : mf = 0
  · subst hmf
    by_cases hkf : kf = 0
    · subst hkf
      by_cases hz : mi = 0 ∨ ki = 0
      · obtain rfl : aloneO 9 = X := by rw [← hX]; unfold takeT; rw [if_neg (by simp), if_neg (by simp), if_pos hz]
        clear hX HI1 HI2
        by_cases hm0 : mi = 0
        · subst hm0
          go_enter Tryz.func56, Tryz.ntmps56
          go_wp2_with (first | (go_at_call 93; (with_reducible refine (n0 _ (H.out.ext (by with_reducible repeat (first | exact Ext.refl _ | apply Ext.drew | apply Ext.alloc | apply Ext.more_)))).mono ?_); rintro e w' ⟨rfl, hb⟩; obtain ⟨osa, da, rfl⟩ := hb.more; clear hb) | (go_at_call 93; (with_reducible refine (n2 _ (H.out.ext (by with_reducible repeat (first | exact Ext.refl _ | apply Ext.drew | apply Ext.alloc | apply Ext.more_)))).mono ?_); rintro e w' ⟨rfl, hb⟩; obtain ⟨osb, db, rfl⟩ := hb.more; clear hb) | (go_at_call 27; (with_reducible refine (galone_any _ _).mono ?_); rintro e w' ⟨D, m, cc, rfl, hD, hb⟩; obtain ⟨os5, d5, rfl⟩ := hb.more; clear hb; have hDr := hD.rd))
          exact bodyPost_ret (v := AV (aloneO 9).R (aloneO 9).C (.slice D m cc)) (by simp [results, Tryz.results56, go_sem]) rfl ⟨D, m, cc, rfl, ⟨(by (try simp only [more_more] at hDr); (try simp only [drew_more] at hDr); (try simp only [more_drew] at hDr); (try simp only [Array.append_assoc] at hDr); exact Rd.swap hDr (by first | (simp; done) | (simp; omega) | omega) (by first | (simp; done) | (simp; omega) | omega) (by first | (simp; done) | (simp; omega) | omega)), hD.len, hD.cap, hD.small, hD.ok⟩, by with_reducible repeat (first | exact Ext.refl _ | apply Ext.drew | apply Ext.alloc | apply Ext.more_)⟩
        · obtain rfl : ki = 0 := hz.resolve_left hm0
          have hm0' : (mi == 0) = false := by simpa using hm0
          clear hz hm0
          go_enter Tryz.func56, Tryz.ntmps56
          go_wp2_with (first | (go_at_call 93; (with_reducible refine (n0 _ (H.out.ext (by with_reducible repeat (first | exact Ext.refl _ | apply Ext.drew | apply Ext.alloc | apply Ext.more_)))).mono ?_); rintro e w' ⟨rfl, hb⟩; obtain ⟨osa, da, rfl⟩ := hb.more; clear hb) | (go_at_call 93; (with_reducible refine (n2 _ (H.out.ext (by with_reducible repeat (first | exact Ext.refl _ | apply Ext.drew | apply Ext.alloc | apply Ext.more_)))).mono ?_); rintro e w' ⟨rfl, hb⟩; obtain ⟨osb, db, rfl⟩ := hb.more; clear hb) | (go_at_call 27; (with_reducible refine (galone_any _ _).mono ?_); rintro e w' ⟨D, m, cc, rfl, hD, hb⟩; obtain ⟨os5, d5, rfl⟩ := hb.more; clear hb; have hDr := hD.rd))
          exact bodyPost_ret (v := AV (aloneO 9).R (aloneO 9).C (.slice D m cc)) (by simp [results, Tryz.results56, go_sem]) rfl ⟨D, m, cc, rfl, ⟨(by (try simp only [more_more] at hDr); (try simp only [drew_more] at hDr); (try simp only [more_drew] at hDr); (try simp only [Array.append_assoc] at hDr); exact Rd.swap hDr (by first | (simp; done) | (simp; omega) | omega) (by first | (simp; done) | (simp; omega) | omega) (by first | (simp; done) | (simp; omega) | omega)), hD.len, hD.cap, hD.small, hD.ok⟩, by with_reducible repeat (first | exact Ext.refl _ | apply Ext.drew | apply Ext.alloc | apply Ext.more_)⟩
      · obtain rfl : colsN (rowsN ⟨R, C, l⟩ (keptL mi R)) (keptL ki C) = X := by rw [← hX]; unfold takeT; rw [if_neg (by simp), if_neg (by simp), if_neg hz]
        have hm0 : mi ≠ 0 := fun e => hz (Or.inl e)
        have hk0 : ki ≠ 0 := fun e => hz (Or.inr e)
        have p1 := kept_pl r1 hm0
        have p2 := kept_pl r2 hk0
        have k1 := fun W => kept_any mi R HI1.out hR4 W
        have k2 := fun W => kept_any ki C HI2.out hC4 W
        have hm0' : (mi == 0) = false := by simpa using hm0
        have hk0' : (ki == 0) = false := by simpa using hk0
        generalize keptL mi R = ps at *
        generalize keptL ki C = qs at *
        have hr1 := fun W B cb (hW : ArrIn W (some ⟨b1, off1, none⟩) n1 cap1 l) hB hcb => rowsOf_pl ⟨R, C, l⟩ _ n1 cap1 ps B cb W hW hxr hB hcb p1
        have hYr : (rowsN ⟨R, C, l⟩ ps).right := rowsN_right hxr p1.lt p1.pos p1.le
        have hYC : (rowsN ⟨R, C, l⟩ ps).C = C := rfl
        generalize rowsN ⟨R, C, l⟩ ps = Y at *
        have hr2 := fun W D m cc B cb (hW : ArrIn W D m cc Y.l) hB hcb => colsOf_pl Y D m cc qs B cb W hW hYr hB hcb (by rw [hYC]; exact p2)
        generalize colsN Y qs = X at *
        clear hX HI1 HI2 hz hm0 hk0 p1 p2 hYr hYC hxr
        have HR1 := Lib.hid hr1
        have HR2 := Lib.hid hr2
        have HK1 := Lib.hid k1
        have HK2 := Lib.hid k2
        clear hr1 hr2 k1 k2
        go_enter Tryz.func56, Tryz.ntmps56
        go_upto_region 10 with (first | (go_at_call 93; (with_reducible refine (n0 _ (H.out.ext (by with_reducible repeat (first | exact Ext.refl _ | apply Ext.drew | apply Ext.alloc | apply Ext.more_)))).mono ?_); rintro e w' ⟨rfl, hb⟩; obtain ⟨osa, da, rfl⟩ := hb.more; clear hb) | (go_at_call 93; (with_reducible refine (n2 _ (H.out.ext (by with_reducible repeat (first | exact Ext.refl _ | apply Ext.drew | apply Ext.alloc | apply Ext.more_)))).mono ?_); rintro e w' ⟨rfl, hb⟩; obtain ⟨osb, db, rfl⟩ := hb.more; clear hb))
        refine wp_plan (S := Ext _) [(0, 0), (1, 0), (2, 0), (3, 0), (6, 0), (7, 0), (8, 0), (4, 1), (5, 1), (9, 1), (10, 1), (11, 2)] [11] (by kernel_rfl) (by kernel_rfl) (by kernel_rfl) (fun _ _ d _ _ h => by cases d <;> exact h) (Ext.drew (Ext.refl _)) ?_
        iterate 7 ((refine wpPl_read (v := ?_) rfl ?_ (fun _ h => ?_) ?_; rotate_left 1; rfl; (obtain ⟨_, _, rfl⟩ := h.more; go_simp; try rfl)); try simp only [Act.put, zqA, zqB, zqC])
        (refine wpPl_eff rfl ?_ (fun K hK => ?_); rfl; go_simp; refine (HK1.out _).mono ?_; rintro e w' ⟨v, rfl, hv, hb⟩; obtain ⟨B1, cb1, rfl, hB1, hcb1⟩ := Rd.of_own hv; have hB1 := Rd.mono hB1 (Nat.zero_le _); obtain ⟨os1, d1, rfl⟩ := hb.more; clear hb hv; (try simp only [more_more, drew_more, more_drew, Array.append_assoc] at hB1); refine hK _ _ ?_ ?_; (repeat (first | (with_reducible (first | exact Ext.refl _ | exact ext_d _ _ _ _ | exact ext_app _ _ _ _ _ | exact ext_app2 _ _ _ _ _ _ | exact ext_app3 _ _ _ _ _ _ _ | exact ext_app4 _ _ _ _ _ _ _ _ | exact ext_app5 _ _ _ _ _ _ _ _ _)) | ((with_reducible refine ext_suffix ⟨_, ?_⟩); (try simp only [Array.append_assoc]); rfl) | (with_reducible (first | apply Ext.drew | apply Ext.alloc | apply Ext.more_)) | apply Ext.drew | apply Ext.alloc | apply Ext.more_)))
        try simp only [Act.put, zqA, zqB, zqC]
        (refine wpPl_eff rfl ?_ (fun K hK => ?_); rfl; go_simp; refine (HR1.out _ B1 cb1 (HA.out.ext (by with_reducible repeat (first | exact Ext.refl _ | apply Ext.drew | apply Ext.alloc | apply Ext.more_))) hB1 hcb1).mono ?_; rintro e w' ⟨D1, m1, c1, rfl, hD1, hb⟩; have a1 := hD1.arr; obtain ⟨os2, d2, rfl⟩ := hb.more; clear hb hB1 hD1; (try simp only [more_more, drew_more, more_drew, Array.append_assoc] at a1); refine hK _ _ ?_ ?_; (repeat (first | (with_reducible (first | exact Ext.refl _ | exact ext_d _ _ _ _ | exact ext_app _ _ _ _ _ | exact ext_app2 _ _ _ _ _ _ | exact ext_app3 _ _ _ _ _ _ _ | exact ext_app4 _ _ _ _ _ _ _ _ | exact ext_app5 _ _ _ _ _ _ _ _ _)) | ((with_reducible refine ext_suffix ⟨_, ?_⟩); (try simp only [Array.append_assoc]); rfl) | (with_reducible (first | apply Ext.drew | apply Ext.alloc | apply Ext.more_)) | apply Ext.drew | apply Ext.alloc | apply Ext.more_)))
        try simp only [Act.put, zqA, zqB, zqC]
        (refine wpPl_eff rfl ?_ (fun K hK => ?_); rfl; go_simp; refine (HK2.out _).mono ?_; rintro e w' ⟨v, rfl, hv, hb⟩; obtain ⟨B2, cb2, rfl, hB2, hcb2⟩ := Rd.of_own hv; have hB2 := Rd.mono hB2 (Nat.zero_le _); obtain ⟨os3, d3, rfl⟩ := hb.more; clear hb hv; (try simp only [more_more, drew_more, more_drew, Array.append_assoc] at hB2); refine hK _ _ ?_ ?_; (repeat (first | (with_reducible (first | exact Ext.refl _ | exact ext_d _ _ _ _ | exact ext_app _ _ _ _ _ | exact ext_app2 _ _ _ _ _ _ | exact ext_app3 _ _ _ _ _ _ _ | exact ext_app4 _ _ _ _ _ _ _ _ | exact ext_app5 _ _ _ _ _ _ _ _ _)) | ((with_reducible refine ext_suffix ⟨_, ?_⟩); (try simp only [Array.append_assoc]); rfl) | (with_reducible (first | apply Ext.drew | apply Ext.alloc | apply Ext.more_)) | apply Ext.drew | apply Ext.alloc | apply Ext.more_)))
        try simp only [Act.put, zqA, zqB, zqC]
        (refine wpPl_eff rfl ?_ (fun K hK => ?_); rfl; go_simp; refine (HR2.out _ D1 m1 c1 B2 cb2 (a1.ext (by repeat (first | (with_reducible (first | exact Ext.refl _ | exact ext_app _ _ _ _ _ | exact ext_app2 _ _ _ _ _ _ | exact ext_app3 _ _ _ _ _ _ _ | exact ext_app4 _ _ _ _ _ _ _ _ | exact ext_app5 _ _ _ _ _ _ _ _ _)) | ((with_reducible refine ext_suffix ⟨_, ?_⟩); (try simp only [Array.append_assoc]); rfl) | (with_reducible (first | apply Ext.drew | apply Ext.alloc | apply Ext.more_))))) hB2 hcb2).mono ?_; rintro e w' ⟨D, m, cc, rfl, hD, hb⟩; obtain ⟨os4, d4, rfl⟩ := hb.more; clear hb; have hDr := hD.rd; refine hK _ _ ?_ ?_; (repeat (first | (with_reducible (first | exact Ext.refl _ | exact ext_d _ _ _ _ | exact ext_app _ _ _ _ _ | exact ext_app2 _ _ _ _ _ _ | exact ext_app3 _ _ _ _ _ _ _ | exact ext_app4 _ _ _ _ _ _ _ _ | exact ext_app5 _ _ _ _ _ _ _ _ _)) | ((with_reducible refine ext_suffix ⟨_, ?_⟩); (try simp only [Array.append_assoc]); rfl) | (with_reducible (first | apply Ext.drew | apply Ext.alloc | apply Ext.more_)) | apply Ext.drew | apply Ext.alloc | apply Ext.more_)))
        try simp only [Act.put, zqA, zqB, zqC]
        (refine wpPl_tail rfl ?_ (fun K hK => ?_); rfl; go_simp; refine hK _ _ ?_)
        try simp only [Act.put]
        refine wpPl_nil ?_
        go_wp2_with fail
        exact bodyPost_ret (v := AV X.R X.C (.slice D m cc)) (by simp [results, Tryz.results56, go_sem]) rfl ⟨D, m, cc, rfl, ⟨(by (try simp only [more_more] at hDr); (try simp only [drew_more] at hDr); (try simp only [more_drew] at hDr); (try simp only [Array.append_assoc] at hDr); exact Rd.swap hDr (by first | (simp; done) | (simp; omega) | omega) (by first | (simp; done) | (simp; omega) | omega) (by first | (simp; done) | (simp; omega) | omega)), hD.len, hD.cap, hD.small, hD.ok⟩, by with_reducible repeat (first | exact Ext.refl _ | apply Ext.drew | apply Ext.alloc | apply Ext.more_)⟩
    · obtain rfl : aloneO kf = X := by rw [← hX]; unfold takeT; rw [if_neg (by simp), if_pos hkf]
      have hf' : (kf != 0) = true := by simpa using hkf
      clear hX hkf HI1 HI2
      go_enter Tryz.func56, Tryz.ntmps56
      go_wp2_with (first | (go_at_call 93; (with_reducible refine (n0 _ (H.out.ext (by with_reducible repeat (first | exact Ext.refl _ | apply Ext.drew | apply Ext.alloc | apply Ext.more_)))).mono ?_); rintro e w' ⟨rfl, hb⟩; obtain ⟨osa, da, rfl⟩ := hb.more; clear hb) | (go_at_call 93; (with_reducible refine (n2 _ (H.out.ext (by with_reducible repeat (first | exact Ext.refl _ | apply Ext.drew | apply Ext.alloc | apply Ext.more_)))).mono ?_); rintro e w' ⟨rfl, hb⟩; obtain ⟨osb, db, rfl⟩ := hb.more; clear hb) | (go_at_call 27; (with_reducible refine (galone_any _ _).mono ?_); rintro e w' ⟨D, m, cc, rfl, hD, hb⟩; obtain ⟨os5, d5, rfl⟩ := hb.more; clear hb; have hDr := hD.rd))
      exact bodyPost_ret (v := AV (aloneO kf).R (aloneO kf).C (.slice D m cc)) (by simp [results, Tryz.results56, go_sem]) rfl ⟨D, m, cc, rfl, ⟨(by (try simp only [more_more] at hDr); (try simp only [drew_more] at hDr); (try simp only [more_drew] at hDr); (try simp only [Array.append_assoc] at hDr); exact Rd.swap hDr (by first | (simp; done) | (simp; omega) | omega) (by first | (simp; done) | (simp; omega) | omega) (by first | (simp; done) | (simp; omega) | omega)), hD.len, hD.cap, hD.small, hD.ok⟩, by with_reducible repeat (first | exact Ext.refl _ | apply Ext.drew | apply Ext.alloc | apply Ext.more_)⟩
  · obtain rfl : aloneO mf = X := by rw [← hX]; unfold takeT; rw [if_pos hmf]
    have hf' : (mf != 0) = true := by simpa using hmf
    clear hX hmf HI1 HI2
    go_enter Tryz.func56, Tryz.ntmps56
    go_wp2_with (first | (go_at_call 93; (with_reducible refine (n0 _ (H.out.ext (by with_reducible repeat (first | exact Ext.refl _ | apply Ext.drew | apply Ext.alloc | apply Ext.more_)))).mono ?_); rintro e w' ⟨rfl, hb⟩; obtain ⟨osa, da, rfl⟩ := hb.more; clear hb) | (go_at_call 27; (with_reducible refine (galone_any _ _).mono ?_); rintro e w' ⟨D, m, cc, rfl, hD, hb⟩; obtain ⟨os5, d5, rfl⟩ := hb.more; clear hb; have hDr := hD.rd))
    exact bodyPost_ret (v := AV (aloneO mf).R (aloneO mf).C (.slice D m cc)) (by simp [results, Tryz.results56, go_sem]) rfl ⟨D, m, cc, rfl, ⟨(by (try simp only [more_more] at hDr); (try simp only [drew_more] at hDr); (try simp only [more_drew] at hDr); (try simp only [Array.append_assoc] at hDr); exact Rd.swap hDr (by first | (simp; done) | (simp; omega) | omega) (by first | (simp; done) | (simp; omega) | omega) (by first | (simp; done) | (simp; omega) | omega)), hD.len, hD.cap, hD.small, hD.ok⟩, by with_reducible repeat (first | exact Ext.refl _ | apply Ext.drew | apply Ext.alloc | apply Ext.more_)⟩
set_option maxHeartbeats 4000000 in
theorem gdrop_any (A : Option Addr) (n cap : Nat) (xs : List Ar) (w : World) (h : ArgsIn w A n cap xs) (h1 : 1 ≤ n) :
    Calls Tryz.prog 48 #[.slice A n cap] w fun e w' => ResA w (dropO xs) e w' := by
  obtain ⟨R, C, l, b1, off1, n1, cap1, b, off, x0, ha, rfl, ⟨v0, v1, v2⟩, _, hc1, _, _, _, hbl, _, _, _, harr, _⟩ := h.first h1
  have hxr : NA.right ⟨R, C, l⟩ := (h.all _ (List.mem_of_getElem? ha)).right
  have hcap := h.cap
  have hsm := h.small
  simp only [Nat.zero_mul, Nat.add_zero] at v0 v1 v2
  have hx0 : argN xs 0 = ⟨R, C, l⟩ := by unfold argN; rw [ha]
  obtain ⟨r1, r2, r3, r4, r5⟩ := rightA_nat.1 hxr
  simp only at r1 r2 r3 r4
  have hR4 : R ≤ 4096 := Nat.le_trans (Nat.le_mul_of_pos_right R r2) r3
  have hC4 : C ≤ 4096 := Nat.le_trans (Nat.le_mul_of_pos_left C r1) r3
  have n0 := fun W (hW : ArgsIn W (some ⟨b, off, none⟩) n cap xs) => gnumber_any _ n cap xs 1 0 W hW _ rfl
  have n2 := fun W (hW : ArgsIn W (some ⟨b, off, none⟩) n cap xs) => gnumber_any _ n cap xs 2 0 W hW _ rfl
  have i1 : I64 (numO xs 1 0).1 := numO_i64 h (by unfold I64; omega)
  have i2 : I64 (numO xs 2 0).1 := numO_i64 h (by unfold I64; omega)
  unfold dropO
  rw [hx0]
  generalize numO xs 1 0 = mm at *
  generalize numO xs 2 0 = kk at *
  obtain ⟨mi, mf⟩ := mm
  obtain ⟨ki, kf⟩ := kk
  simp only [show ((1 : Nat) : Int) = 1 from rfl, show ((2 : Nat) : Int) = 2 from rfl] at n0 n2
  have H := Lib.hid h
  have HA := Lib.hid harr
  have HI1 := Lib.hid i1
  have HI2 := Lib.hid i2
  clear h harr i1 i2 ha hx0 r4 r5
  obtain ⟨X, hX⟩ : ∃ X, dropT ⟨R, C, l⟩ (mi, mf) (ki, kf) = X := ⟨_, rfl⟩
  rw [hX]
  by_cases hmf : mf = 0
  · subst hmf
    by_cases hkf : kf = 0
    · subst hkf
      have k1 := fun W => rest_any mi R HI1.out hR4 W
      have k2 := fun W => rest_any ki C HI2.out hC4 W
      have hX' : (if restL mi R = [] ∨ restL ki C = [] then aloneO 9 else colsN (rowsN ⟨R, C, l⟩ (restL mi R)) (restL ki C)) = X := by rw [← hX]; unfold dropT; simp only [ne_eq, not_true_eq_false, if_false]
      have p1 := fun e => rest_pl (n := mi) r1 e
      have p2 := fun e => rest_pl (n := ki) r2 e
      clear hX HI1 HI2
      generalize restL mi R = ps at *
      generalize restL ki C = qs at *
      by_cases e1 : ps = []
      · obtain rfl : aloneO 9 = X := by rw [← hX', if_pos (Or.inl e1)]
        have e1' : (((ps.length : Nat) : Int) == 0) = true := by rw [e1]; rfl
        have HK1 := Lib.hid k1
        have HK2 := Lib.hid k2
        clear hX' e1 k1 k2 p1 p2
        go_enter Tryz.func48, Tryz.ntmps48
        go_upto_region 8 with (first | (go_at_call 93; (with_reducible refine (n0 _ (H.out.ext (by with_reducible repeat (first | exact Ext.refl _ | apply Ext.drew | apply Ext.alloc | apply Ext.more_)))).mono ?_); rintro e w' ⟨rfl, hb⟩; obtain ⟨osa, da, rfl⟩ := hb.more; clear hb) | (go_at_call 93; (with_reducible refine (n2 _ (H.out.ext (by with_reducible repeat (first | exact Ext.refl _ | apply Ext.drew | apply Ext.alloc | apply Ext.more_)))).mono ?_); rintro e w' ⟨rfl, hb⟩; obtain ⟨osb, db, rfl⟩ := hb.more; clear hb))
        refine wp_plan (S := Ext _) [(0, 0), (1, 0), (2, 0), (4, 0), (5, 0), (6, 0), (3, 1), (7, 1), (8, 0), (9, 0)] [] (by kernel_rfl) (by kernel_rfl) (by kernel_rfl) (fun _ _ d _ _ h => by cases d <;> exact h) (Ext.drew (Ext.refl _)) ?_
        iterate 6 ((refine wpPl_read (v := ?_) rfl ?_ (fun _ h => ?_) ?_; rotate_left 1; rfl; (obtain ⟨_, _, rfl⟩ := h.more; go_simp; try rfl)); try simp only [Act.put, zqA, zqB, zqC])
        (refine wpPl_eff rfl ?_ (fun K hK => ?_); rfl; go_simp; refine (HK1.out _).mono ?_; rintro e w' ⟨v, rfl, hv, hb⟩; obtain ⟨B1, cb1, rfl, hB1, hcb1⟩ := Rd.of_own hv; obtain ⟨os1, d1, rfl⟩ := hb.more; clear hb hv hB1; refine hK _ _ ?_ ?_; (repeat (first | (with_reducible (first | exact Ext.refl _ | exact ext_d _ _ _ _ | exact ext_app _ _ _ _ _ | exact ext_app2 _ _ _ _ _ _ | exact ext_app3 _ _ _ _ _ _ _ | exact ext_app4 _ _ _ _ _ _ _ _ | exact ext_app5 _ _ _ _ _ _ _ _ _)) | ((with_reducible refine ext_suffix ⟨_, ?_⟩); (try simp only [Array.append_assoc]); rfl) | (with_reducible (first | apply Ext.drew | apply Ext.alloc | apply Ext.more_)) | apply Ext.drew | apply Ext.alloc | apply Ext.more_)))
        try simp only [Act.put, zqA, zqB, zqC]
        (refine wpPl_eff rfl ?_ (fun K hK => ?_); rfl; go_simp; refine (HK2.out _).mono ?_; rintro e w' ⟨v, rfl, hv, hb⟩; obtain ⟨B2, cb2, rfl, hB2, hcb2⟩ := Rd.of_own hv; obtain ⟨os3, d3, rfl⟩ := hb.more; clear hb hv hB2; refine hK _ _ ?_ ?_; (repeat (first | (with_reducible (first | exact Ext.refl _ | exact ext_d _ _ _ _ | exact ext_app _ _ _ _ _ | exact ext_app2 _ _ _ _ _ _ | exact ext_app3 _ _ _ _ _ _ _ | exact ext_app4 _ _ _ _ _ _ _ _ | exact ext_app5 _ _ _ _ _ _ _ _ _)) | ((with_reducible refine ext_suffix ⟨_, ?_⟩); (try simp only [Array.append_assoc]); rfl) | (with_reducible (first | apply Ext.drew | apply Ext.alloc | apply Ext.more_)) | apply Ext.drew | apply Ext.alloc | apply Ext.more_)))
        try simp only [Act.put, zqA, zqB, zqC]
        iterate 2 ((refine wpPl_read (v := ?_) rfl ?_ (fun _ h => ?_) ?_; rotate_left 1; rfl; (obtain ⟨_, _, rfl⟩ := h.more; go_simp; try rfl)); try simp only [Act.put, zqA, zqB, zqC])
        refine wpPl_nil ?_
        go_wp2_with (go_at_call 27; (with_reducible refine (galone_any _ _).mono ?_); rintro e w' ⟨D, m, cc, rfl, hD, hb⟩; obtain ⟨os5, d5, rfl⟩ := hb.more; clear hb; have hDr := hD.rd)
        exact bodyPost_ret (v := AV (aloneO 9).R (aloneO 9).C (.slice D m cc)) (by simp [results, Tryz.results48, go_sem]) rfl ⟨D, m, cc, rfl, ⟨(by (try simp only [more_more] at hDr); (try simp only [drew_more] at hDr); (try simp only [more_drew] at hDr); (try simp only [Array.append_assoc] at hDr); exact Rd.swap hDr (by first | (simp; done) | (simp; omega) | omega) (by first | (simp; done) | (simp; omega) | omega) (by first | (simp; done) | (simp; omega) | omega)), hD.len, hD.cap, hD.small, hD.ok⟩, by with_reducible repeat (first | exact Ext.refl _ | apply Ext.drew | apply Ext.alloc | apply Ext.more_)⟩
      · have q1 := p1 e1
        have l1 : (((ps.length : Nat) : Int) == 0) = false := by have := q1.pos; simp; omega
        by_cases e2 : qs = []
        · obtain rfl : aloneO 9 = X := by rw [← hX', if_pos (Or.inr e2)]
          have e2' : (((qs.length : Nat) : Int) == 0) = true := by rw [e2]; rfl
          have HK1 := Lib.hid k1
          have HK2 := Lib.hid k2
          clear hX' e1 e2 k1 k2 p1 p2 q1
          go_enter Tryz.func48, Tryz.ntmps48
          go_upto_region 8 with (first | (go_at_call 93; (with_reducible refine (n0 _ (H.out.ext (by with_reducible repeat (first | exact Ext.refl _ | apply Ext.drew | apply Ext.alloc | apply Ext.more_)))).mono ?_); rintro e w' ⟨rfl, hb⟩; obtain ⟨osa, da, rfl⟩ := hb.more; clear hb) | (go_at_call 93; (with_reducible refine (n2 _ (H.out.ext (by with_reducible repeat (first | exact Ext.refl _ | apply Ext.drew | apply Ext.alloc | apply Ext.more_)))).mono ?_); rintro e w' ⟨rfl, hb⟩; obtain ⟨osb, db, rfl⟩ := hb.more; clear hb))
          refine wp_plan (S := Ext _) [(0, 0), (1, 0), (2, 0), (4, 0), (5, 0), (6, 0), (3, 1), (7, 1), (8, 0), (9, 0)] [] (by kernel_rfl) (by kernel_rfl) (by kernel_rfl) (fun _ _ d _ _ h => by cases d <;> exact h) (Ext.drew (Ext.refl _)) ?_
          iterate 6 ((refine wpPl_read (v := ?_) rfl ?_ (fun _ h => ?_) ?_; rotate_left 1; rfl; (obtain ⟨_, _, rfl⟩ := h.more; go_simp; try rfl)); try simp only [Act.put, zqA, zqB, zqC])
          (refine wpPl_eff rfl ?_ (fun K hK => ?_); rfl; go_simp; refine (HK1.out _).mono ?_; rintro e w' ⟨v, rfl, hv, hb⟩; obtain ⟨B1, cb1, rfl, hB1, hcb1⟩ := Rd.of_own hv; obtain ⟨os1, d1, rfl⟩ := hb.more; clear hb hv hB1; refine hK _ _ ?_ ?_; (repeat (first | (with_reducible (first | exact Ext.refl _ | exact ext_d _ _ _ _ | exact ext_app _ _ _ _ _ | exact ext_app2 _ _ _ _ _ _ | exact ext_app3 _ _ _ _ _ _ _ | exact ext_app4 _ _ _ _ _ _ _ _ | exact ext_app5 _ _ _ _ _ _ _ _ _)) | ((with_reducible refine ext_suffix ⟨_, ?_⟩); (try simp only [Array.append_assoc]); rfl) | (with_reducible (first | apply Ext.drew | apply Ext.alloc | apply Ext.more_)) | apply Ext.drew | apply Ext.alloc | apply Ext.more_)))
          try simp only [Act.put, zqA, zqB, zqC]
          (refine wpPl_eff rfl ?_ (fun K hK => ?_); rfl; go_simp; refine (HK2.out _).mono ?_; rintro e w' ⟨v, rfl, hv, hb⟩; obtain ⟨B2, cb2, rfl, hB2, hcb2⟩ := Rd.of_own hv; obtain ⟨os3, d3, rfl⟩ := hb.more; clear hb hv hB2; refine hK _ _ ?_ ?_; (repeat (first | (with_reducible (first | exact Ext.refl _ | exact ext_d _ _ _ _ | exact ext_app _ _ _ _ _ | exact ext_app2 _ _ _ _ _ _ | exact ext_app3 _ _ _ _ _ _ _ | exact ext_app4 _ _ _ _ _ _ _ _ | exact ext_app5 _ _ _ _ _ _ _ _ _)) | ((with_reducible refine ext_suffix ⟨_, ?_⟩); (try simp only [Array.append_assoc]); rfl) | (with_reducible (first | apply Ext.drew | apply Ext.alloc | apply Ext.more_)) | apply Ext.drew | apply Ext.alloc | apply Ext.more_)))
          try simp only [Act.put, zqA, zqB, zqC]
          iterate 2 ((refine wpPl_read (v := ?_) rfl ?_ (fun _ h => ?_) ?_; rotate_left 1; rfl; (obtain ⟨_, _, rfl⟩ := h.more; go_simp; try rfl)); try simp only [Act.put, zqA, zqB, zqC])
          refine wpPl_nil ?_
          go_wp2_with (go_at_call 27; (with_reducible refine (galone_any _ _).mono ?_); rintro e w' ⟨D, m, cc, rfl, hD, hb⟩; obtain ⟨os5, d5, rfl⟩ := hb.more; clear hb; have hDr := hD.rd)
          exact bodyPost_ret (v := AV (aloneO 9).R (aloneO 9).C (.slice D m cc)) (by simp [results, Tryz.results48, go_sem]) rfl ⟨D, m, cc, rfl, ⟨(by (try simp only [more_more] at hDr); (try simp only [drew_more] at hDr); (try simp only [more_drew] at hDr); (try simp only [Array.append_assoc] at hDr); exact Rd.swap hDr (by first | (simp; done) | (simp; omega) | omega) (by first | (simp; done) | (simp; omega) | omega) (by first | (simp; done) | (simp; omega) | omega)), hD.len, hD.cap, hD.small, hD.ok⟩, by with_reducible repeat (first | exact Ext.refl _ | apply Ext.drew | apply Ext.alloc | apply Ext.more_)⟩
        · have q2 := p2 e2
          have l2 : (((qs.length : Nat) : Int) == 0) = false := by have := q2.pos; simp; omega
          obtain rfl : colsN (rowsN ⟨R, C, l⟩ ps) qs = X := by rw [← hX', if_neg (fun e => e.elim e1 e2)]
          have hr1 := fun W B cb (hW : ArrIn W (some ⟨b1, off1, none⟩) n1 cap1 l) hB hcb => rowsOf_pl ⟨R, C, l⟩ _ n1 cap1 ps B cb W hW hxr hB hcb q1
          have hYr : (rowsN ⟨R, C, l⟩ ps).right := rowsN_right hxr q1.lt q1.pos q1.le
          have hYC : (rowsN ⟨R, C, l⟩ ps).C = C := rfl
          generalize rowsN ⟨R, C, l⟩ ps = Y at *
          have hr2 := fun W D m cc B cb (hW : ArrIn W D m cc Y.l) hB hcb => colsOf_pl Y D m cc qs B cb W hW hYr hB hcb (by rw [hYC]; exact q2)
          generalize colsN Y qs = X at *
          clear hX' e1 e2 p1 p2 q1 q2 hYr hYC hxr
          have HR1 := Lib.hid hr1
          have HR2 := Lib.hid hr2
          have HK1 := Lib.hid k1
          have HK2 := Lib.hid k2
          clear hr1 hr2 k1 k2
          go_enter Tryz.func48, Tryz.ntmps48
          go_upto_region 8 with (first | (go_at_call 93; (with_reducible refine (n0 _ (H.out.ext (by with_reducible repeat (first | exact Ext.refl _ | apply Ext.drew | apply Ext.alloc | apply Ext.more_)))).mono ?_); rintro e w' ⟨rfl, hb⟩; obtain ⟨osa, da, rfl⟩ := hb.more; clear hb) | (go_at_call 93; (with_reducible refine (n2 _ (H.out.ext (by with_reducible repeat (first | exact Ext.refl _ | apply Ext.drew | apply Ext.alloc | apply Ext.more_)))).mono ?_); rintro e w' ⟨rfl, hb⟩; obtain ⟨osb, db, rfl⟩ := hb.more; clear hb))
          refine wp_plan (S := Ext _) [(0, 0), (1, 0), (2, 0), (4, 0), (5, 0), (6, 0), (3, 1), (7, 1), (8, 0), (9, 0)] [] (by kernel_rfl) (by kernel_rfl) (by kernel_rfl) (fun _ _ d _ _ h => by cases d <;> exact h) (Ext.drew (Ext.refl _)) ?_
          iterate 6 ((refine wpPl_read (v := ?_) rfl ?_ (fun _ h => ?_) ?_; rotate_left 1; rfl; (obtain ⟨_, _, rfl⟩ := h.more; go_simp; try rfl)); try simp only [Act.put, zqA, zqB, zqC])
          (refine wpPl_eff rfl ?_ (fun K hK => ?_); rfl; go_simp; refine (HK1.out _).mono ?_; rintro e w' ⟨v, rfl, hv, hb⟩; obtain ⟨B1, cb1, rfl, hB1, hcb1⟩ := Rd.of_own hv; have hB1 := Rd.mono hB1 (Nat.zero_le _); obtain ⟨os1, d1, rfl⟩ := hb.more; clear hb hv; (try simp only [more_more, drew_more, more_drew, Array.append_assoc] at hB1); have HB1 := Lib.hid hB1; clear hB1; refine hK _ _ ?_ ?_; (repeat (first | (with_reducible (first | exact Ext.refl _ | exact ext_d _ _ _ _ | exact ext_app _ _ _ _ _ | exact ext_app2 _ _ _ _ _ _ | exact ext_app3 _ _ _ _ _ _ _ | exact ext_app4 _ _ _ _ _ _ _ _ | exact ext_app5 _ _ _ _ _ _ _ _ _)) | ((with_reducible refine ext_suffix ⟨_, ?_⟩); (try simp only [Array.append_assoc]); rfl) | (with_reducible (first | apply Ext.drew | apply Ext.alloc | apply Ext.more_)) | apply Ext.drew | apply Ext.alloc | apply Ext.more_)))
          try simp only [Act.put, zqA, zqB, zqC]
          (refine wpPl_eff rfl ?_ (fun K hK => ?_); rfl; go_simp; refine (HK2.out _).mono ?_; rintro e w' ⟨v, rfl, hv, hb⟩; obtain ⟨B2, cb2, rfl, hB2, hcb2⟩ := Rd.of_own hv; have hB2 := Rd.mono hB2 (Nat.zero_le _); obtain ⟨os3, d3, rfl⟩ := hb.more; clear hb hv; (try simp only [more_more, drew_more, more_drew, Array.append_assoc] at hB2); have HB2 := Lib.hid hB2; clear hB2; refine hK _ _ ?_ ?_; (repeat (first | (with_reducible (first | exact Ext.refl _ | exact ext_d _ _ _ _ | exact ext_app _ _ _ _ _ | exact ext_app2 _ _ _ _ _ _ | exact ext_app3 _ _ _ _ _ _ _ | exact ext_app4 _ _ _ _ _ _ _ _ | exact ext_app5 _ _ _ _ _ _ _ _ _)) | ((with_reducible refine ext_suffix ⟨_, ?_⟩); (try simp only [Array.append_assoc]); rfl) | (with_reducible (first | apply Ext.drew | apply Ext.alloc | apply Ext.more_)) | apply Ext.drew | apply Ext.alloc | apply Ext.more_)))
          try simp only [Act.put, zqA, zqB, zqC]
          iterate 2 ((refine wpPl_read (v := ?_) rfl ?_ (fun _ h => ?_) ?_; rotate_left 1; rfl; (obtain ⟨_, _, rfl⟩ := h.more; go_simp; try rfl)); try simp only [Act.put, zqA, zqB, zqC])
          refine wpPl_nil ?_
          go_wp2_with (first | (go_at_call 96; refine (HR1.out _ B1 cb1 (HA.out.ext (by with_reducible repeat (first | exact Ext.refl _ | apply Ext.drew | apply Ext.alloc | apply Ext.more_))) (HB1.out.ext (by repeat (first | (with_reducible (first | exact Ext.refl _ | exact ext_app _ _ _ _ _ | exact ext_app2 _ _ _ _ _ _ | exact ext_app3 _ _ _ _ _ _ _ | exact ext_app4 _ _ _ _ _ _ _ _ | exact ext_app5 _ _ _ _ _ _ _ _ _)) | ((with_reducible refine ext_suffix ⟨_, ?_⟩); (try simp only [Array.append_assoc]); rfl) | (with_reducible (first | apply Ext.drew | apply Ext.alloc | apply Ext.more_))))) hcb1).mono ?_; rintro e w' ⟨D1, m1, c1, rfl, hD1, hb⟩; have a1 := hD1.arr; obtain ⟨os2, d2, rfl⟩ := hb.more; clear hb hD1; (try simp only [more_more, drew_more, more_drew, Array.append_assoc] at a1)) | (go_at_call 95; refine (HR2.out _ D1 m1 c1 B2 cb2 (a1.ext (by repeat (first | (with_reducible (first | exact Ext.refl _ | exact ext_app _ _ _ _ _ | exact ext_app2 _ _ _ _ _ _ | exact ext_app3 _ _ _ _ _ _ _ | exact ext_app4 _ _ _ _ _ _ _ _ | exact ext_app5 _ _ _ _ _ _ _ _ _)) | ((with_reducible refine ext_suffix ⟨_, ?_⟩); (try simp only [Array.append_assoc]); rfl) | (with_reducible (first | apply Ext.drew | apply Ext.alloc | apply Ext.more_))))) (HB2.out.ext (by repeat (first | (with_reducible (first | exact Ext.refl _ | exact ext_app _ _ _ _ _ | exact ext_app2 _ _ _ _ _ _ | exact ext_app3 _ _ _ _ _ _ _ | exact ext_app4 _ _ _ _ _ _ _ _ | exact ext_app5 _ _ _ _ _ _ _ _ _)) | ((with_reducible refine ext_suffix ⟨_, ?_⟩); (try simp only [Array.append_assoc]); rfl) | (with_reducible (first | apply Ext.drew | apply Ext.alloc | apply Ext.more_))))) hcb2).mono ?_; rintro e w' ⟨D, m, cc, rfl, hD, hb⟩; obtain ⟨os4, d4, rfl⟩ := hb.more; clear hb; have hDr := hD.rd))
          exact bodyPost_ret (v := AV X.R X.C (.slice D m cc)) (by simp [results, Tryz.results48, go_sem]) rfl ⟨D, m, cc, rfl, ⟨(by (try simp only [more_more] at hDr); (try simp only [drew_more] at hDr); (try simp only [more_drew] at hDr); (try simp only [Array.append_assoc] at hDr); exact Rd.swap hDr (by first | (simp; done) | (simp; omega) | omega) (by first | (simp; done) | (simp; omega) | omega) (by first | (simp; done) | (simp; omega) | omega)), hD.len, hD.cap, hD.small, hD.ok⟩, by with_reducible repeat (first | exact Ext.refl _ | apply Ext.drew | apply Ext.alloc | apply Ext.more_)⟩
    · obtain rfl : aloneO kf = X := by rw [← hX]; unfold dropT; rw [if_neg (by simp), if_pos hkf]
      have hf' : (kf != 0) = true := by simpa using hkf
      clear hX hkf HI1 HI2
      go_enter Tryz.func48, Tryz.ntmps48
      go_wp2_with (first | (go_at_call 93; (with_reducible refine (n0 _ (H.out.ext (by with_reducible repeat (first | exact Ext.refl _ | apply Ext.drew | apply Ext.alloc | apply Ext.more_)))).mono ?_); rintro e w' ⟨rfl, hb⟩; obtain ⟨osa, da, rfl⟩ := hb.more; clear hb) | (go_at_call 93; (with_reducible refine (n2 _ (H.out.ext (by with_reducible repeat (first | exact Ext.refl _ | apply Ext.drew | apply Ext.alloc | apply Ext.more_)))).mono ?_); rintro e w' ⟨rfl, hb⟩; obtain ⟨osb, db, rfl⟩ := hb.more; clear hb) | (go_at_call 27; (with_reducible refine (galone_any _ _).mono ?_); rintro e w' ⟨D, m, cc, rfl, hD, hb⟩; obtain ⟨os5, d5, rfl⟩ := hb.more; clear hb; have hDr := hD.rd))
      exact bodyPost_ret (v := AV (aloneO kf).R (aloneO kf).C (.slice D m cc)) (by simp [results, Tryz.results48, go_sem]) rfl ⟨D, m, cc, rfl, ⟨(by (try simp only [more_more] at hDr); (try simp only [drew_more] at hDr); (try simp only [more_drew] at hDr); (try simp only [Array.append_assoc] at hDr); exact Rd.swap hDr (by first | (simp; done) | (simp; omega) | omega) (by first | (simp; done) | (simp; omega) | omega) (by first | (simp; done) | (simp; omega) | omega)), hD.len, hD.cap, hD.small, hD.ok⟩, by with_reducible repeat (first | exact Ext.refl _ | apply Ext.drew | apply Ext.alloc | apply Ext.more_)⟩
  · obtain rfl : aloneO mf = X := by rw [← hX]; unfold dropT; rw [if_pos hmf]
    have hf' : (mf != 0) = true := by simpa using hmf
    clear hX hmf HI1 HI2
    go_enter Tryz.func48, Tryz.ntmps48
    go_wp2_with (first | (go_at_call 93; (with_reducible refine (n0 _ (H.out.ext (by with_reducible repeat (first | exact Ext.refl _ | apply Ext.drew | apply Ext.alloc | apply Ext.more_)))).mono ?_); rintro e w' ⟨rfl, hb⟩; obtain ⟨osa, da, rfl⟩ := hb.more; clear hb) | (go_at_call 27; (with_reducible refine (galone_any _ _).mono ?_); rintro e w' ⟨D, m, cc, rfl, hD, hb⟩; obtain ⟨os5, d5, rfl⟩ := hb.more; clear hb; have hDr := hD.rd))
    exact bodyPost_ret (v := AV (aloneO mf).R (aloneO mf).C (.slice D m cc)) (by simp [results, Tryz.results48, go_sem]) rfl ⟨D, m, cc, rfl, ⟨(by (try simp only [more_more] at hDr); (try simp only [drew_more] at hDr); (try simp only [more_drew] at hDr); (try simp only [Array.append_assoc] at hDr); exact Rd.swap hDr (by first | (simp; done) | (simp; omega) | omega) (by first | (simp; done) | (simp; omega) | omega) (by first | (simp; done) | (simp; omega) | omega)), hD.len, hD.cap, hD.small, hD.ok⟩, by with_reducible repeat (first | exact Ext.refl _ | apply Ext.drew | apply Ext.alloc | apply Ext.more_)⟩
end Go.Proofs.YtlfbdodokldkhaaGreatDoor
namespace Go.Proofs.YtlfbdodokldkhaaGreatDoor
open Go.RowKit NM
theorem pcall_take (A : Option Addr) (n cap : Nat) (gs : List GA) (w : World) (h : ArgsG w A n cap gs) : Calls Tryz.prog 15 #[.string ⟨#[84, 65, 75, 69]⟩, .slice A n cap] w (CallG w (callX 1 3 gs (takeO (arsOf gs)))) :=
  gcall_any ⟨#[84, 65, 75, 69]⟩ 1 3 56 (fun _ _ => #[]) (by decide) (fun _ _ => rfl) (fun args W => by go_simp) (by decide) (by decide) A n cap gs w h _ (fun hr h1 _ p1 p2 W hW _ => gtake_any A n cap _ W ((arsOf_in h hr).ext hW) h1)
theorem pcall_drop (A : Option Addr) (n cap : Nat) (gs : List GA) (w : World) (h : ArgsG w A n cap gs) : Calls Tryz.prog 15 #[.string ⟨#[68, 82, 79, 80]⟩, .slice A n cap] w (CallG w (callX 1 3 gs (dropO (arsOf gs)))) :=
  gcall_any ⟨#[68, 82, 79, 80]⟩ 1 3 48 (fun _ _ => #[]) (by decide) (fun _ _ => rfl) (fun args W => by go_simp) (by decide) (by decide) A n cap gs w h _ (fun hr h1 _ p1 p2 W hW _ => gdrop_any A n cap _ W ((arsOf_in h hr).ext hW) h1)
end Go.Proofs.YtlfbdodokldkhaaGreatDoor
namespace Go.Proofs.YtlfbdodokldkhaaGreatDoor
open Go.RowKit NM
theorem ccall_take (B : Option Addr) (n cap : Nat) (xs : List Ar) (w : World) (h : ArgsIn w B n cap xs) (h1 : 1 ≤ n) (h2 : n ≤ 3) : Calls Tryz.prog 15 #[.string ⟨#[84, 65, 75, 69]⟩, .slice B n cap] w (CallG w (takeO xs)) := by
  have hc := pcall_take B n cap _ w h.toG
  rw [arsOf_toG, callX_in _ (by rw [h.len]; exact h1) (by rw [h.len]; exact h2) (fun a ha => (h.all a ha).right)] at hc
  exact hc
theorem ccall_drop (B : Option Addr) (n cap : Nat) (xs : List Ar) (w : World) (h : ArgsIn w B n cap xs) (h1 : 1 ≤ n) (h2 : n ≤ 3) : Calls Tryz.prog 15 #[.string ⟨#[68, 82, 79, 80]⟩, .slice B n cap] w (CallG w (dropO xs)) := by
  have hc := pcall_drop B n cap _ w h.toG
  rw [arsOf_toG, callX_in _ (by rw [h.len]; exact h1) (by rw [h.len]; exact h2) (fun a ha => (h.all a ha).right)] at hc
  exact hc
theorem ccall_vstack (B : Option Addr) (n cap : Nat) (xs : List Ar) (w : World) (h : ArgsIn w B n cap xs) (h1 : 1 ≤ n) (h2 : n ≤ 32) : Calls Tryz.prog 15 #[.string ⟨#[86, 83, 84, 65, 67, 75]⟩, .slice B n cap] w (CallG w (stackN belowO xs)) := by
  have hc := pcall_vstack B n cap _ w h.toG
  rw [arsOf_toG, callX_in _ (by rw [h.len]; exact h1) (by rw [h.len]; exact h2) (fun a ha => (h.all a ha).right)] at hc
  exact hc
theorem ccall_hstack (B : Option Addr) (n cap : Nat) (xs : List Ar) (w : World) (h : ArgsIn w B n cap xs) (h1 : 1 ≤ n) (h2 : n ≤ 32) : Calls Tryz.prog 15 #[.string ⟨#[72, 83, 84, 65, 67, 75]⟩, .slice B n cap] w (CallG w (stackN besideO xs)) := by
  have hc := pcall_hstack B n cap _ w h.toG
  rw [arsOf_toG, callX_in _ (by rw [h.len]; exact h1) (by rw [h.len]; exact h2) (fun a ha => (h.all a ha).right)] at hc
  exact hc
section
variable (a : NA) (A D E : Option Addr) (n cap m c m' c' : Nat) {k : Int} (hk : k.natAbs < T 15)
include hk
theorem num_at2 (left : Int) : numO [arAt a A n cap, arAt (oneA (cntV k)) D m c] 1 left = (k, 0) := by
  obtain ⟨g1, a1⟩ := given_one (y := cntV k) rfl D m c [arAt a A n cap, arAt (oneA (cntV k)) D m c] 1 rfl
  unfold numO
  rw [if_pos g1, a1, whole_cnt hk]
theorem num_at3 (left : Int) : numO [arAt a A n cap, arAt (oneA Val.zero) E m' c', arAt (oneA (cntV k)) D m c] 2 left = (k, 0) := by
  obtain ⟨g1, a1⟩ := given_one (y := cntV k) rfl D m c [arAt a A n cap, arAt (oneA Val.zero) E m' c', arAt (oneA (cntV k)) D m c] 2 rfl
  unfold numO
  rw [if_pos g1, a1, whole_cnt hk]
theorem take2 : takeO [arAt a A n cap, arAt (oneA (cntV k)) D m c] = takeT a (k, 0) (a.C, 0) := by
  unfold takeO
  rw [num_at2 a A D n cap m c hk, numO_out (show givenB [arAt a A n cap, arAt (oneA (cntV k)) D m c] 2 = false from rfl)]
  rfl
theorem drop2 : dropO [arAt a A n cap, arAt (oneA (cntV k)) D m c] = dropT a (k, 0) (0, 0) := by
  unfold dropO
  rw [num_at2 a A D n cap m c hk, numO_out (show givenB [arAt a A n cap, arAt (oneA (cntV k)) D m c] 2 = false from rfl)]
  rfl
theorem take3 : takeO [arAt a A n cap, arAt (oneA Val.zero) E m' c', arAt (oneA (cntV k)) D m c] = takeT a (a.R, 0) (k, 0) := by
  unfold takeO
  rw [num_at3 a A D E n cap m c m' c' hk, numO_out (show givenB [arAt a A n cap, arAt (oneA Val.zero) E m' c', arAt (oneA (cntV k)) D m c] 1 = false from rfl)]
  rfl
theorem drop3 : dropO [arAt a A n cap, arAt (oneA Val.zero) E m' c', arAt (oneA (cntV k)) D m c] = dropT a (0, 0) (k, 0) := by
  unfold dropO
  rw [num_at3 a A D E n cap m c m' c' hk, numO_out (show givenB [arAt a A n cap, arAt (oneA Val.zero) E m' c', arAt (oneA (cntV k)) D m c] 1 = false from rfl)]
  rfl
end
theorem stack_two {J : NA → NA → Option NA} {x y z : NA} (h : J x y = some z) (D E : Option Addr) (m c m' c' : Nat) : stackN J [arAt x D m c, arAt y E m' c'] = z := by
  show (stackO J x [y]).getD (aloneO 5) = z
  rw [stackO_some h]; rfl
theorem right_zero : Val.zero.right := rfl
theorem same_self (x : NA) : sameA x.R x.C x.l x.R x.C x.l = true := by simp [sameA]
end Go.Proofs.YtlfbdodokldkhaaGreatDoor
namespace Go.Proofs.YtlfbdodokldkhaaGreatDoor
open Go.RowKit NM
theorem gargs_one {w : World} {t : TypeId} {p : Nat} {cs : Array Value} {r c : Int} {A : Option Addr} {n cap : Nat} {l : List Val} (hp : p = w.heap.size) (hc : cs = #[.int .i64 r, .int .i64 c, .slice A n cap]) (h : ArrIn w A n cap l) :
    ArgsG (w.alloc (.cells cs t)) (some ⟨p, 0, none⟩) 1 1 [⟨r, c, A, n, cap, l⟩] :=
  ⟨by subst hp hc; exact Rd.of_row (cs := [.int .i64 r, .int .i64 c, .slice A n cap]) (gheap_new _ _) 0 (Nat.zero_le _), rfl, Nat.le_refl _, by decide, fun g hg => by rw [List.mem_singleton.1 hg]; exact h.ext ((Ext.refl _).alloc _)⟩
theorem arr_zero (w : World) (t : TypeId) : SlV 0 (w.alloc (.cells #[.int .i64 0, .int .i64 0, .int .i64 0, .string ⟨#[]⟩, .bool false, .int .i64 0] t)) (some ⟨w.heap.size, 0, none⟩) [Val.zero] :=
  Rd.of_row (cs := vcells [Val.zero]) (gheap_new _ _) 0 (Nat.zero_le _)
theorem zero_ok : Val.zero.ok := Val.right.ok right_zero
/-- A variable that holds an array. -/
def BoxN (W : World) (p : Nat) (x : NA) (D : Option Addr) (m c : Nat) : Prop := W.heap[p]? = some (.cells #[.int .i64 (x.R : Int), .int .i64 (x.C : Int), .slice D m c] 30) ∧ ArrIn W D m c x.l
theorem BoxN.ext {W W' : World} {p : Nat} {x : NA} {D : Option Addr} {m c : Nat} (h : BoxN W p x D m c) (hx : Ext W W') : BoxN W' p x D m c :=
  ⟨by rw [hx.block (lt_of_block h.1)]; exact h.1, h.2.ext hx⟩
theorem BoxN.cells {W : World} {p : Nat} {x : NA} {D : Option Addr} {m c : Nat} (h : BoxN W p x D m c) : W.cell? ⟨p, 0, none⟩ = some (.int .i64 (x.R : Int)) ∧ W.cell? ⟨p, 1, none⟩ = some (.int .i64 (x.C : Int)) ∧ W.cell? ⟨p, 2, none⟩ = some (.slice D m c) ∧ p < W.heap.size :=
  ⟨cell_of_row _ _ 0 _ _ _ h.1, cell_of_row _ _ 1 _ _ _ h.1, cell_of_row _ _ 2 _ _ _ h.1, lt_of_block h.1⟩
set_option maxHeartbeats 8000000 in
theorem farrayTaken_any (r c : Int) (A : Option Addr) (n cap : Nat) (l : List Val) (nb : Int) (w : World) (htab : Tab w) (h : ArrIn w A n cap l) (hn0 : 0 ≤ nb) (hn1 : nb ≤ 255) :
    Calls Tryz.prog 8 #[AV r c (.slice A n cap), .int .u8 nb] w fun e w' => e = .returned (.bool true) ∧ Ext w w' := by
  have HT := Lib.hid htab
  have HA := Lib.hid h
  have hok := h.ok
  have hra := fun W (hW : ArrIn W A n cap l) => refRightA_any r c A n cap l W hW
  rw [← rightA_eq _ _ _ hok] at hra
  cases hr : rightA r c l with
  | false =>
    rw [hr] at hra
    clear htab h hok hr
    go_enter Tryz.func8, Tryz.ntmps8
    go_wp2_with (first | (go_at_call 11; (with_reducible refine (awake15_any _ (HT.out.ext (by with_reducible repeat (first | exact Ext.refl _ | apply Ext.drew | apply Ext.alloc | apply Ext.more_)))).mono ?_); rintro e w' ⟨rfl, hb⟩; obtain ⟨osw, dw, rfl⟩ := hb.more; clear hb) | (go_at_call 12; (refine (small15_any _ 1 1 _ _ (gargs_one (by simp) rfl (HA.out.ext (by with_reducible repeat (first | exact Ext.refl _ | apply Ext.drew | apply Ext.alloc | apply Ext.more_))))).mono ?_); rintro e w' ⟨s, rfl, hs, hb⟩; obtain ⟨oss, ds, rfl⟩ := hb.more; clear hb; rcases hs with rfl | rfl) | (go_at_call 14; refine (hra _ (HA.out.ext (by with_reducible repeat (first | exact Ext.refl _ | apply Ext.drew | apply Ext.alloc | apply Ext.more_)))).mono ?_; rintro e w' ⟨rfl, hb⟩; obtain ⟨osr, dr, rfl⟩ := hb.more; clear hb))
    all_goals
      go_ret
      exact ⟨rfl, by with_reducible repeat (first | exact Ext.refl _ | apply Ext.drew | apply Ext.alloc | apply Ext.more_)⟩
  | true =>
    obtain ⟨R, C, rfl, rfl⟩ := rightA_shape hr
    rw [hr] at hra
    have har : NA.right ⟨R, C, l⟩ := hr
    obtain ⟨r1, r2, r3, r4, r5⟩ := rightA_nat.1 har
    simp only at r1 r2 r3
    have hR4 : R ≤ 4096 := Nat.le_trans (Nat.le_mul_of_pos_right R r2) r3
    have hC4 : C ≤ 4096 := Nat.le_trans (Nat.le_mul_of_pos_left C r1) r3
    obtain ⟨N, rfl⟩ : ∃ N : Nat, nb = N := ⟨nb.toNat, by omega⟩
    clear htab h hok hr r4 r5
    go_enter Tryz.func8, Tryz.ntmps8
    go_upto_region 5 with (first | (go_at_call 11; (with_reducible refine (awake15_any _ (HT.out.ext (by with_reducible repeat (first | exact Ext.refl _ | apply Ext.drew | apply Ext.alloc | apply Ext.more_)))).mono ?_); rintro e w' ⟨rfl, hb⟩; obtain ⟨osw, dw, rfl⟩ := hb.more; clear hb) | (go_at_call 12; (refine (small15_any _ 1 1 _ _ (gargs_one (by simp) rfl (HA.out.ext (by with_reducible repeat (first | exact Ext.refl _ | apply Ext.drew | apply Ext.alloc | apply Ext.more_))))).mono ?_); rintro e w' ⟨s, rfl, hs, hb⟩; obtain ⟨oss, ds, rfl⟩ := hb.more; clear hb; rcases hs with rfl | rfl) | (go_at_call 14; refine (hra _ (HA.out.ext (by with_reducible repeat (first | exact Ext.refl _ | apply Ext.drew | apply Ext.alloc | apply Ext.more_)))).mono ?_; rintro e w' ⟨rfl, hb⟩; obtain ⟨osr, dr, rfl⟩ := hb.more; clear hb))
    · go_ret
      exact ⟨rfl, by with_reducible repeat (first | exact Ext.refl _ | apply Ext.drew | apply Ext.alloc | apply Ext.more_)⟩
    · refine wp_world fun U hU => ?_
      have hx : Ext w U := by rw [hU]; exact (by with_reducible repeat (first | exact Ext.refl _ | apply Ext.drew | apply Ext.alloc | apply Ext.more_))
      have ba : BoxN U w.heap.size ⟨R, C, l⟩ A n cap := ⟨((show Ext (w.alloc (Obj.cells #[.int .i64 (R : Int), .int .i64 (C : Int), .slice A n cap] 30)) U by rw [hU]; exact (by with_reducible repeat (first | exact Ext.refl _ | apply Ext.drew | apply Ext.alloc | apply Ext.more_))).block (by simp)).trans (gheap_new _ _), HA.out.ext hx⟩
      clear hU
      obtain ⟨c0, c1, c2, la⟩ := ba.cells
      simp only at c0 c1
      have hR0 : ((R : Int) == 0) = false := by simp; omega
      have hC0 : ((C : Int) == 0) = false := by simp; omega
      go_upto_if 39 with fail
      have hkr : (N : Int) % (R : Int) = ((N % R : Nat) : Int) := (Int.natCast_emod N R).symm
      have hkl : N % R < R := Nat.mod_lt _ r1
      rw [hkr]
      generalize N % R = kk at *
      clear hkr
      go_cut [] (fun wx => Ext U wx)
      case first =>
        by_cases hk0 : 0 < kk
        · have hk0' : (0 : Int) < (kk : Int) := by omega
          have hx0 := Ext.refl U
          obtain ⟨ea0, ea1, ea2, ea3⟩ := ba.cells
          simp only at ea0 ea1
          clear c0 c1 c2 la
          have hk15 : ((kk : Int)).natAbs < T 15 := by have : T 15 = 1000000000000000 := (by decide); omega
          have hnum := fun W => num15_any ((kk : Int)) W hk15
          have hyr := one_right_ (cnt_right15 hk15)
          obtain ⟨ZX, hZX⟩ : ∃ Z, partA ⟨R, C, l⟩ 0 0 kk C = Z := ⟨_, rfl⟩
          obtain ⟨ZY, hZY⟩ : ∃ Z, partA ⟨R, C, l⟩ kk 0 (R - kk) C = Z := ⟨_, rfl⟩
          have hZXr : ZX.right := by rw [← hZX]; exact gpart_right har (by omega) r2 (by show 0 + kk ≤ R; omega) (by show 0 + C ≤ C; omega)
          have hZYr : ZY.right := by rw [← hZY]; exact gpart_right har (by omega) r2 (by show kk + (R - kk) ≤ R; omega) (by show 0 + C ≤ C; omega)
          have hst : belowO ZX ZY = some ⟨R, C, l⟩ := by rw [← hZX, ← hZY]; exact below_parts har (by show kk ≤ R; omega)
          have hZR : ((ZX.R : Int) != (kk : Int)) = false := by rw [← hZX]; show (((kk : Nat) : Int) != (kk : Int)) = false; simp
          go_upto_region 7 with fail
          refine wp_float [(8, 6, (.cells #[.int .i64 0, .int .i64 0, .slice none 0 0] 30))] [(0, 0), (1, 0), (2, 1), (3, 1), (4, 1), (5, 0), (6, 0), (7, 2)] [9, 10] [9, 10] [7] (by kernel_rfl) (by kernel_rfl) (by kernel_rfl) (fun _ _ d _ _ h => by cases d <;> exact h) (fun _ _ d _ _ h => by cases d <;> exact h) (fun x hx o ho a w => by (obtain rfl := List.mem_singleton.1 hx); (obtain rfl := Option.some.inj ho); (first | rfl | (simp [go_sem, ptrB]; done) | (go_simp; rfl))) ?_
          iterate 2 ((refine wpFp_read (v := ?_) rfl ?_ (fun w1 h1 => ?_) ?_; rotate_left 1; rfl; (obtain ⟨os1, d1, rfl⟩ := h1.more; go_simp; first | done | rfl)); try simp only [Act.put, zqA, zqB, zqC])
          (refine wpFp_eff rfl ?_ (fun wf hXf hE K hK => ?_); rfl; obtain ⟨osf, df, rfl⟩ := hXf.more; go_simp; refine (hnum _).mono ?_; rintro e w' ⟨D1, m1, c1, rfl, hD1, hb⟩; refine hK _ _ (fun W => ArrIn W D1 m1 c1 (oneA (cntV (kk : Int))).l) (by (try simp only [more_drew, more_more, Array.append_assoc]); exact hb) (fun _ _ hx h => h.ext hx) hD1.arr ?_)
          try simp only [Act.put, zqA, zqB, zqC]
          (refine wpFp_eff rfl ?_ (fun wf hXf hE K hK => ?_); rfl; obtain ⟨osf, df, rfl⟩ := hXf.more; go_simp; have hA2 : ArgsIn ((more U osf df).alloc (.cells #[.int .i64 (R : Int), .int .i64 (C : Int), .slice A n cap, .int .i64 1, .int .i64 1, .slice D1 m1 c1] 30)) (some ⟨U.heap.size + osf.size, 0, none⟩) 2 2 [arAt ⟨R, C, l⟩ A n cap, arAt (oneA (cntV (kk : Int))) D1 m1 c1] := argsG_new [arAt ⟨R, C, l⟩ A n cap, arAt (oneA (cntV (kk : Int))) D1 m1 c1] (by simp) rfl rfl (by decide) (by intro a ha; simp only [List.mem_cons, List.not_mem_nil, or_false] at ha; rcases ha with rfl | rfl; exact ⟨ba.2.ext (ext_more _ _ _), har⟩; exact ⟨hE, hyr⟩); refine hK _ _ (fun W => ArgsIn W (some ⟨U.heap.size + osf.size, 0, none⟩) 2 2 [arAt ⟨R, C, l⟩ A n cap, arAt (oneA (cntV (kk : Int))) D1 m1 c1]) ((Ext.refl _).alloc _) (fun _ _ hx h => h.ext hx) hA2 ?_)
          try simp only [Act.put, zqA, zqB, zqC]
          (refine wpFp_eff rfl ?_ (fun wf hXf hE K hK => ?_); rfl; obtain ⟨osf, df, rfl⟩ := hXf.more; go_simp; have hq := ccall_take _ _ _ _ _ hE (by decide) (by decide); rw [take2 ⟨R, C, l⟩ A D1 n cap m1 c1 hk15, take_rows har hk0 hkl, hZX] at hq; refine hq.mono ?_; clear hq; rintro e w' ⟨D2, m2, c2, rfl, hD2, hb⟩; refine hK _ _ (fun W => ArrIn W D2 m2 c2 ZX.l) (by (try simp only [more_drew, more_more, Array.append_assoc]); exact hb) (fun _ _ hx h => h.ext hx) hD2.arr ?_)
          try simp only [Act.put, zqA, zqB, zqC]
          iterate 2 ((refine wpFp_read (v := ?_) rfl ?_ (fun w1 h1 => ?_) ?_; rotate_left 1; rfl; (obtain ⟨os1, d1, rfl⟩ := h1.more; go_simp; first | done | rfl)); try simp only [Act.put, zqA, zqB, zqC])
          (refine wpFp_pure (v := ?_) rfl ?_ (fun w1 => ?_) ?_; rotate_left 1; rfl; (go_simp; first | done | rfl))
          try simp only [Act.put, zqA, zqB, zqC]
          refine wpFp_one fun osa da osb db hE => ?_
          try simp only [Act.put, zqA, zqB, zqC]
          iterate 2 ((refine wpTl_op rfl ?_ (fun K hK => ?_); rfl; go_simp; refine hK _ _ ?_); try simp only [Act.put, zqA, zqB, zqC])
          refine wpTl_nil ?_
          simp only [drew_more] at hE
          have hbx : BoxN (more ((more U osa da).alloc (.cells #[.int .i64 (ZX.R : Int), .int .i64 (ZX.C : Int), .slice D2 m2 c2] 30)) osb db) (U.heap.size + osa.size) ZX D2 m2 c2 := ⟨gvar_at U _ osa osb da db, ⟨rd_var (.int .i64 ZX.R) (.int .i64 ZX.C) (.slice D2 m2 c2) hE.rd, hE.len, hE.cap, hE.small, hE.ok⟩⟩
          obtain ⟨V1, hV⟩ : ∃ V, more ((more U osa da).alloc (.cells #[.int .i64 (ZX.R : Int), .int .i64 (ZX.C : Int), .slice D2 m2 c2] 30)) osb db = V := ⟨_, rfl⟩
          rw [hV] at hbx ⊢
          have hxV : Ext U V1 := by rw [← hV]; exact (by with_reducible repeat (first | exact Ext.refl _ | apply Ext.drew | apply Ext.alloc | apply Ext.more_))
          generalize U.heap.size + osa.size = px at *
          obtain ⟨Dx, mx, cx, bx⟩ : ∃ D m c, BoxN V1 px ZX D m c := ⟨D2, m2, c2, hbx⟩
          clear hV hbx hE
          replace ba := ba.ext hxV
          replace hx0 := hx0.trans hxV
          clear hxV
          clear ea0 ea1 ea2 ea3
          obtain ⟨ea0, ea1, ea2, ea3⟩ := ba.cells
          try simp only at ea0 ea1
          obtain ⟨ex0, ex1, ex2, ex3⟩ := bx.cells
          try simp only at ex0 ex1
          go_upto_region 8 with fail
          refine wp_float [(8, 8, (.cells #[.int .i64 0, .int .i64 0, .slice none 0 0] 30))] [(0, 0), (1, 0), (2, 1), (3, 1), (4, 1), (5, 0), (6, 0), (7, 2)] [9, 10] [9, 10] [7] (by kernel_rfl) (by kernel_rfl) (by kernel_rfl) (fun _ _ d _ _ h => by cases d <;> exact h) (fun _ _ d _ _ h => by cases d <;> exact h) (fun x hx o ho a w => by (obtain rfl := List.mem_singleton.1 hx); (obtain rfl := Option.some.inj ho); (first | rfl | (simp [go_sem, ptrB]; done) | (go_simp; rfl))) ?_
          iterate 2 ((refine wpFp_read (v := ?_) rfl ?_ (fun w1 h1 => ?_) ?_; rotate_left 1; rfl; (obtain ⟨os1, d1, rfl⟩ := h1.more; go_simp; first | done | rfl)); try simp only [Act.put, zqA, zqB, zqC])
          (refine wpFp_eff rfl ?_ (fun wf hXf hE K hK => ?_); rfl; obtain ⟨osf, df, rfl⟩ := hXf.more; go_simp; refine (hnum _).mono ?_; rintro e w' ⟨D1, m1, c1, rfl, hD1, hb⟩; refine hK _ _ (fun W => ArrIn W D1 m1 c1 (oneA (cntV (kk : Int))).l) (by (try simp only [more_drew, more_more, Array.append_assoc]); exact hb) (fun _ _ hx h => h.ext hx) hD1.arr ?_)
          try simp only [Act.put, zqA, zqB, zqC]
          (refine wpFp_eff rfl ?_ (fun wf hXf hE K hK => ?_); rfl; obtain ⟨osf, df, rfl⟩ := hXf.more; go_simp; have hA2 : ArgsIn ((more V1 osf df).alloc (.cells #[.int .i64 (R : Int), .int .i64 (C : Int), .slice A n cap, .int .i64 1, .int .i64 1, .slice D1 m1 c1] 30)) (some ⟨V1.heap.size + osf.size, 0, none⟩) 2 2 [arAt ⟨R, C, l⟩ A n cap, arAt (oneA (cntV (kk : Int))) D1 m1 c1] := argsG_new [arAt ⟨R, C, l⟩ A n cap, arAt (oneA (cntV (kk : Int))) D1 m1 c1] (by simp) rfl rfl (by decide) (by intro a ha; simp only [List.mem_cons, List.not_mem_nil, or_false] at ha; rcases ha with rfl | rfl; exact ⟨ba.2.ext (ext_more _ _ _), har⟩; exact ⟨hE, hyr⟩); refine hK _ _ (fun W => ArgsIn W (some ⟨V1.heap.size + osf.size, 0, none⟩) 2 2 [arAt ⟨R, C, l⟩ A n cap, arAt (oneA (cntV (kk : Int))) D1 m1 c1]) ((Ext.refl _).alloc _) (fun _ _ hx h => h.ext hx) hA2 ?_)
          try simp only [Act.put, zqA, zqB, zqC]
          (refine wpFp_eff rfl ?_ (fun wf hXf hE K hK => ?_); rfl; obtain ⟨osf, df, rfl⟩ := hXf.more; go_simp; have hq := ccall_drop _ _ _ _ _ hE (by decide) (by decide); rw [drop2 ⟨R, C, l⟩ A D1 n cap m1 c1 hk15, drop_rows har hk0 hkl, hZY] at hq; refine hq.mono ?_; clear hq; rintro e w' ⟨D2, m2, c2, rfl, hD2, hb⟩; refine hK _ _ (fun W => ArrIn W D2 m2 c2 ZY.l) (by (try simp only [more_drew, more_more, Array.append_assoc]); exact hb) (fun _ _ hx h => h.ext hx) hD2.arr ?_)
          try simp only [Act.put, zqA, zqB, zqC]
          iterate 2 ((refine wpFp_read (v := ?_) rfl ?_ (fun w1 h1 => ?_) ?_; rotate_left 1; rfl; (obtain ⟨os1, d1, rfl⟩ := h1.more; go_simp; first | done | rfl)); try simp only [Act.put, zqA, zqB, zqC])
          (refine wpFp_pure (v := ?_) rfl ?_ (fun w1 => ?_) ?_; rotate_left 1; rfl; (go_simp; first | done | rfl))
          try simp only [Act.put, zqA, zqB, zqC]
          refine wpFp_one fun osa da osb db hE => ?_
          try simp only [Act.put, zqA, zqB, zqC]
          iterate 2 ((refine wpTl_op rfl ?_ (fun K hK => ?_); rfl; go_simp; refine hK _ _ ?_); try simp only [Act.put, zqA, zqB, zqC])
          refine wpTl_nil ?_
          simp only [drew_more] at hE
          have hbx : BoxN (more ((more V1 osa da).alloc (.cells #[.int .i64 (ZY.R : Int), .int .i64 (ZY.C : Int), .slice D2 m2 c2] 30)) osb db) (V1.heap.size + osa.size) ZY D2 m2 c2 := ⟨gvar_at V1 _ osa osb da db, ⟨rd_var (.int .i64 ZY.R) (.int .i64 ZY.C) (.slice D2 m2 c2) hE.rd, hE.len, hE.cap, hE.small, hE.ok⟩⟩
          obtain ⟨V2, hV⟩ : ∃ V, more ((more V1 osa da).alloc (.cells #[.int .i64 (ZY.R : Int), .int .i64 (ZY.C : Int), .slice D2 m2 c2] 30)) osb db = V := ⟨_, rfl⟩
          rw [hV] at hbx ⊢
          have hxV : Ext V1 V2 := by rw [← hV]; exact (by with_reducible repeat (first | exact Ext.refl _ | apply Ext.drew | apply Ext.alloc | apply Ext.more_))
          generalize V1.heap.size + osa.size = py at *
          obtain ⟨Dy, my, cy, bY⟩ : ∃ D m c, BoxN V2 py ZY D m c := ⟨D2, m2, c2, hbx⟩
          clear hV hbx hE
          replace ba := ba.ext hxV
          replace bx := bx.ext hxV
          replace hx0 := hx0.trans hxV
          clear hxV
          clear ea0 ea1 ea2 ea3
          clear ex0 ex1 ex2 ex3
          obtain ⟨ea0, ea1, ea2, ea3⟩ := ba.cells
          try simp only at ea0 ea1
          obtain ⟨ex0, ex1, ex2, ex3⟩ := bx.cells
          try simp only at ex0 ex1
          obtain ⟨ey0, ey1, ey2, ey3⟩ := bY.cells
          try simp only at ey0 ey1
          go_upto_region 10 with (go_at_call 15; have hA2 : ArgsIn (V2.alloc (.cells #[.int .i64 (ZX.R : Int), .int .i64 (ZX.C : Int), .slice Dx mx cx, .int .i64 (ZY.R : Int), .int .i64 (ZY.C : Int), .slice Dy my cy] 30)) (some ⟨V2.heap.size, 0, none⟩) 2 2 [arAt ZX Dx mx cx, arAt ZY Dy my cy] := argsG_new [arAt ZX Dx mx cx, arAt ZY Dy my cy] rfl rfl rfl (by decide) (by intro a ha; simp only [List.mem_cons, List.not_mem_nil, or_false] at ha; rcases ha with rfl | rfl; exact ⟨bx.2, hZXr⟩; exact ⟨bY.2, hZYr⟩); have hq := ccall_vstack _ _ _ _ _ hA2 (by decide) (by decide); rw [stack_two hst Dx Dy mx cx my cy] at hq; refine hq.mono ?_; clear hq; rintro e w' ⟨D2, m2, c2, rfl, hD2, hb⟩; have a2 := hD2.arr; obtain ⟨osq, dq, rfl⟩ := hb.more; clear hb hD2 hA2)
          have hbx : BoxN ((more (V2.alloc (.cells #[.int .i64 (ZX.R : Int), .int .i64 (ZX.C : Int), .slice Dx mx cx, .int .i64 (ZY.R : Int), .int .i64 (ZY.C : Int), .slice Dy my cy] 30)) osq dq).alloc (.cells #[.int .i64 ((⟨R, C, l⟩ : NA).R : Int), .int .i64 ((⟨R, C, l⟩ : NA).C : Int), .slice D2 m2 c2] 30)) (V2.heap.size + 1 + osq.size) (⟨R, C, l⟩ : NA) D2 m2 c2 := ⟨by have := gheap_new (more (V2.alloc (.cells #[.int .i64 (ZX.R : Int), .int .i64 (ZX.C : Int), .slice Dx mx cx, .int .i64 (ZY.R : Int), .int .i64 (ZY.C : Int), .slice Dy my cy] 30)) osq dq) (.cells #[.int .i64 ((⟨R, C, l⟩ : NA).R : Int), .int .i64 ((⟨R, C, l⟩ : NA).C : Int), .slice D2 m2 c2] 30); simpa using this, a2.ext ((Ext.refl _).alloc _)⟩
          refine wp_world fun V3 hV => ?_
          have hxV : Ext V2 V3 := by rw [hV]; exact (by with_reducible repeat (first | exact Ext.refl _ | apply Ext.drew | apply Ext.alloc | apply Ext.more_))
          rw [← hV] at hbx
          generalize V2.heap.size + 1 + osq.size = pz at *
          obtain ⟨Dz, mz, cz, bz⟩ : ∃ D m c, BoxN V3 pz (⟨R, C, l⟩ : NA) D m c := ⟨D2, m2, c2, hbx⟩
          clear hV hbx a2
          replace ba := ba.ext hxV
          replace bx := bx.ext hxV
          replace bY := bY.ext hxV
          replace hx0 := hx0.trans hxV
          clear hxV
          clear ea0 ea1 ea2 ea3
          clear ex0 ex1 ex2 ex3
          clear ey0 ey1 ey2 ey3
          obtain ⟨ea0, ea1, ea2, ea3⟩ := ba.cells
          try simp only at ea0 ea1
          obtain ⟨ex0, ex1, ex2, ex3⟩ := bx.cells
          try simp only at ex0 ex1
          obtain ⟨ey0, ey1, ey2, ey3⟩ := bY.cells
          try simp only at ey0 ey1
          obtain ⟨ez0, ez1, ez2, ez3⟩ := bz.cells
          try simp only at ez0 ez1
          clear hnum hyr
          have hj15 : ((kk : Int) - (R : Int)).natAbs < T 15 := by have : T 15 = 1000000000000000 := (by decide); omega
          have hnum := fun W => num15_any ((kk : Int) - (R : Int)) W hj15
          have hyr := one_right_ (cnt_right15 hj15)
          have hw : IntKind.i64.wrap ((kk : Int) - (R : Int)) = (kk : Int) - (R : Int) := by rw [IntKind.wrap_i64]; omega
          go_upto_region 10 with fail
          refine wp_float [(11, 12, (.cells #[.int .i64 0, .int .i64 0, .slice none 0 0] 30))] [(0, 0), (1, 0), (2, 0), (3, 0), (4, 0), (5, 1), (6, 1), (7, 1), (8, 0), (9, 0), (10, 2)] [12, 13] [12, 13] [10] (by kernel_rfl) (by kernel_rfl) (by kernel_rfl) (fun _ _ d _ _ h => by cases d <;> exact h) (fun _ _ d _ _ h => by cases d <;> exact h) (fun x hx o ho a w => by (obtain rfl := List.mem_singleton.1 hx); (obtain rfl := Option.some.inj ho); (first | rfl | (simp [go_sem, ptrB]; done) | (go_simp; rfl))) ?_
          iterate 5 ((refine wpFp_read (v := ?_) rfl ?_ (fun w1 h1 => ?_) ?_; rotate_left 1; rfl; (obtain ⟨os1, d1, rfl⟩ := h1.more; go_simp; first | done | rfl)); try simp only [Act.put, zqA, zqB, zqC])
          (refine wpFp_eff rfl ?_ (fun wf hXf hE K hK => ?_); rfl; obtain ⟨osf, df, rfl⟩ := hXf.more; go_simp; refine (hnum _).mono ?_; rintro e w' ⟨D1, m1, c1, rfl, hD1, hb⟩; refine hK _ _ (fun W => ArrIn W D1 m1 c1 (oneA (cntV ((kk : Int) - (R : Int)))).l) (by (try simp only [more_drew, more_more, Array.append_assoc]); exact hb) (fun _ _ hx h => h.ext hx) hD1.arr ?_)
          try simp only [Act.put, zqA, zqB, zqC]
          (refine wpFp_eff rfl ?_ (fun wf hXf hE K hK => ?_); rfl; obtain ⟨osf, df, rfl⟩ := hXf.more; go_simp; have hA2 : ArgsIn ((more V3 osf df).alloc (.cells #[.int .i64 (R : Int), .int .i64 (C : Int), .slice A n cap, .int .i64 1, .int .i64 1, .slice D1 m1 c1] 30)) (some ⟨V3.heap.size + osf.size, 0, none⟩) 2 2 [arAt ⟨R, C, l⟩ A n cap, arAt (oneA (cntV ((kk : Int) - (R : Int)))) D1 m1 c1] := argsG_new [arAt ⟨R, C, l⟩ A n cap, arAt (oneA (cntV ((kk : Int) - (R : Int)))) D1 m1 c1] (by simp) rfl rfl (by decide) (by intro a ha; simp only [List.mem_cons, List.not_mem_nil, or_false] at ha; rcases ha with rfl | rfl; exact ⟨ba.2.ext (ext_more _ _ _), har⟩; exact ⟨hE, hyr⟩); refine hK _ _ (fun W => ArgsIn W (some ⟨V3.heap.size + osf.size, 0, none⟩) 2 2 [arAt ⟨R, C, l⟩ A n cap, arAt (oneA (cntV ((kk : Int) - (R : Int)))) D1 m1 c1]) ((Ext.refl _).alloc _) (fun _ _ hx h => h.ext hx) hA2 ?_)
          try simp only [Act.put, zqA, zqB, zqC]
          (refine wpFp_eff rfl ?_ (fun wf hXf hE K hK => ?_); rfl; obtain ⟨osf, df, rfl⟩ := hXf.more; go_simp; have hq := ccall_take _ _ _ _ _ hE (by decide) (by decide); rw [take2 ⟨R, C, l⟩ A D1 n cap m1 c1 hj15, take_last har hk0 hkl, hZY] at hq; refine hq.mono ?_; clear hq; rintro e w' ⟨D2, m2, c2, rfl, hD2, hb⟩; refine hK _ _ (fun W => ArrIn W D2 m2 c2 ZY.l) (by (try simp only [more_drew, more_more, Array.append_assoc]); exact hb) (fun _ _ hx h => h.ext hx) hD2.arr ?_)
          try simp only [Act.put, zqA, zqB, zqC]
          iterate 2 ((refine wpFp_read (v := ?_) rfl ?_ (fun w1 h1 => ?_) ?_; rotate_left 1; rfl; (obtain ⟨os1, d1, rfl⟩ := h1.more; go_simp; first | done | rfl)); try simp only [Act.put, zqA, zqB, zqC])
          (refine wpFp_pure (v := ?_) rfl ?_ (fun w1 => ?_) ?_; rotate_left 1; rfl; (go_simp; first | done | rfl))
          try simp only [Act.put, zqA, zqB, zqC]
          refine wpFp_one fun osa da osb db hE => ?_
          try simp only [Act.put, zqA, zqB, zqC]
          iterate 2 ((refine wpTl_op rfl ?_ (fun K hK => ?_); rfl; go_simp; refine hK _ _ ?_); try simp only [Act.put, zqA, zqB, zqC])
          refine wpTl_nil ?_
          simp only [drew_more] at hE
          have hbx : BoxN (more ((more V3 osa da).alloc (.cells #[.int .i64 (ZY.R : Int), .int .i64 (ZY.C : Int), .slice D2 m2 c2] 30)) osb db) (V3.heap.size + osa.size) ZY D2 m2 c2 := ⟨gvar_at V3 _ osa osb da db, ⟨rd_var (.int .i64 ZY.R) (.int .i64 ZY.C) (.slice D2 m2 c2) hE.rd, hE.len, hE.cap, hE.small, hE.ok⟩⟩
          obtain ⟨V4, hV⟩ : ∃ V, more ((more V3 osa da).alloc (.cells #[.int .i64 (ZY.R : Int), .int .i64 (ZY.C : Int), .slice D2 m2 c2] 30)) osb db = V := ⟨_, rfl⟩
          rw [hV] at hbx ⊢
          have hxV : Ext V3 V4 := by rw [← hV]; exact (by with_reducible repeat (first | exact Ext.refl _ | apply Ext.drew | apply Ext.alloc | apply Ext.more_))
          generalize V3.heap.size + osa.size = pu at *
          obtain ⟨Du, mu, cu, bu⟩ : ∃ D m c, BoxN V4 pu ZY D m c := ⟨D2, m2, c2, hbx⟩
          clear hV hbx hE
          replace ba := ba.ext hxV
          replace bx := bx.ext hxV
          replace bY := bY.ext hxV
          replace bz := bz.ext hxV
          replace hx0 := hx0.trans hxV
          clear hxV
          clear ea0 ea1 ea2 ea3
          clear ex0 ex1 ex2 ex3
          clear ey0 ey1 ey2 ey3
          clear ez0 ez1 ez2 ez3
          obtain ⟨ea0, ea1, ea2, ea3⟩ := ba.cells
          try simp only at ea0 ea1
          obtain ⟨ex0, ex1, ex2, ex3⟩ := bx.cells
          try simp only at ex0 ex1
          obtain ⟨ey0, ey1, ey2, ey3⟩ := bY.cells
          try simp only at ey0 ey1
          obtain ⟨ez0, ez1, ez2, ez3⟩ := bz.cells
          try simp only at ez0 ez1
          obtain ⟨eu0, eu1, eu2, eu3⟩ := bu.cells
          try simp only at eu0 eu1
          have hs1 := fun W (h1 : ArrIn W Dz mz cz l) (h2 : ArrIn W A n cap l) => by have := refSame_any R C R C Dz A mz cz n cap l l W h1 h2; rw [same_self ⟨R, C, l⟩] at this; exact this
          have hs2 := fun W (h1 : ArrIn W Du mu cu ZY.l) (h2 : ArrIn W Dy my cy ZY.l) => by have := refSame_any ZY.R ZY.C ZY.R ZY.C Du Dy mu cu my cy ZY.l ZY.l W h1 h2; rw [same_self ZY] at this; exact this
          have qz : ArrIn V4 Dz mz cz l := bz.2
          have qa : ArrIn V4 A n cap l := ba.2
          have qu : ArrIn V4 Du mu cu ZY.l := bu.2
          have qy : ArrIn V4 Dy my cy ZY.l := bY.2
          go_wp2_with (first | (go_at_call 17; with_reducible refine (hs1 _ (qz.ext (by with_reducible repeat (first | exact Ext.refl _ | exact ext_d _ _ _ _ | exact ext_app _ _ _ _ _ | exact ext_app2 _ _ _ _ _ _ | exact ext_app3 _ _ _ _ _ _ _ | apply Ext.drew | apply Ext.alloc | apply Ext.more_))) (qa.ext (by with_reducible repeat (first | exact Ext.refl _ | exact ext_d _ _ _ _ | exact ext_app _ _ _ _ _ | exact ext_app2 _ _ _ _ _ _ | exact ext_app3 _ _ _ _ _ _ _ | apply Ext.drew | apply Ext.alloc | apply Ext.more_)))).mono ?_; rintro e w' ⟨rfl, hb⟩; obtain ⟨oss, ds, rfl⟩ := hb.more; clear hb) | (go_at_call 17; with_reducible refine (hs2 _ (qu.ext (by with_reducible repeat (first | exact Ext.refl _ | exact ext_d _ _ _ _ | exact ext_app _ _ _ _ _ | exact ext_app2 _ _ _ _ _ _ | exact ext_app3 _ _ _ _ _ _ _ | apply Ext.drew | apply Ext.alloc | apply Ext.more_))) (qy.ext (by with_reducible repeat (first | exact Ext.refl _ | exact ext_d _ _ _ _ | exact ext_app _ _ _ _ _ | exact ext_app2 _ _ _ _ _ _ | exact ext_app3 _ _ _ _ _ _ _ | apply Ext.drew | apply Ext.alloc | apply Ext.more_)))).mono ?_; rintro e w' ⟨rfl, hb⟩; obtain ⟨ost, dt, rfl⟩ := hb.more; clear hb))
          go_meet
          exact hx0.trans (by with_reducible repeat (first | exact Ext.refl _ | apply Ext.drew | apply Ext.alloc | apply Ext.more_))
        · obtain rfl : kk = 0 := by omega
          go_wp2_with fail
          go_meet
          exact Ext.refl _
      case rest =>
      have hxc : Ext U wc := hcut
      replace ba := ba.ext hxc
      replace hx := hx.trans hxc
      clear c0 c1 c2 la hxc hcut hkl
      obtain ⟨c0, c1, c2, la⟩ := ba.cells
      simp only at c0 c1
      go_upto_if 96 with fail
      have hkr : (N : Int) % (C : Int) = ((N % C : Nat) : Int) := (Int.natCast_emod N C).symm
      have hkl : N % C < C := Nat.mod_lt _ r2
      rw [hkr]
      generalize N % C = kj at *
      clear hkr
      by_cases hk0 : 0 < kj
      · have hk0' : (0 : Int) < (kj : Int) := by omega
        have hx0 := hx
        obtain ⟨ea0, ea1, ea2, ea3⟩ := ba.cells
        simp only at ea0 ea1
        clear c0 c1 c2 la
        have hk15 : ((kj : Int)).natAbs < T 15 := by have : T 15 = 1000000000000000 := (by decide); omega
        have hnum := fun W => num15_any ((kj : Int)) W hk15
        have hyr := one_right_ (cnt_right15 hk15)
        obtain ⟨ZX, hZX⟩ : ∃ Z, partA ⟨R, C, l⟩ 0 0 R kj = Z := ⟨_, rfl⟩
        obtain ⟨ZY, hZY⟩ : ∃ Z, partA ⟨R, C, l⟩ 0 kj R (C - kj) = Z := ⟨_, rfl⟩
        have hZXr : ZX.right := by rw [← hZX]; exact gpart_right har r1 (by omega) (by show 0 + R ≤ R; omega) (by show 0 + kj ≤ C; omega)
        have hZYr : ZY.right := by rw [← hZY]; exact gpart_right har r1 (by omega) (by show 0 + R ≤ R; omega) (by show kj + (C - kj) ≤ C; omega)
        have hst : besideO ZX ZY = some ⟨R, C, l⟩ := by rw [← hZX, ← hZY]; exact beside_parts har (by show kj ≤ C; omega)
        have hZR : ((ZX.C : Int) != (kj : Int)) = false := by rw [← hZX]; show (((kj : Nat) : Int) != (kj : Int)) = false; simp
        go_upto_region 16 with fail
        have hbx : BoxN ((wc.alloc (.cells #[.int .i64 0, .int .i64 0, .int .i64 0, .string ⟨#[]⟩, .bool false, .int .i64 0] 39)).alloc (.cells #[.int .i64 1, .int .i64 1, .slice (some ⟨wc.heap.size, 0, none⟩) 1 1] 30)) (wc.heap.size + 1) (oneA Val.zero) (some ⟨wc.heap.size, 0, none⟩) 1 1 := ⟨by have := gheap_new (wc.alloc (.cells #[.int .i64 0, .int .i64 0, .int .i64 0, .string ⟨#[]⟩, .bool false, .int .i64 0] 39)) (.cells #[.int .i64 1, .int .i64 1, .slice (some ⟨wc.heap.size, 0, none⟩) 1 1] 30); simpa [oneA] using this, (show ArrIn (wc.alloc (.cells #[.int .i64 0, .int .i64 0, .int .i64 0, .string ⟨#[]⟩, .bool false, .int .i64 0] 39)) (some ⟨wc.heap.size, 0, none⟩) 1 1 [Val.zero] from ⟨arr_zero _ _, rfl, Nat.le_refl _, by decide, fun x hx => by rw [List.mem_singleton.1 hx]; exact zero_ok⟩).ext ((Ext.refl _).alloc _)⟩
        refine wp_world fun V1 hV => ?_
        have hxV : Ext wc V1 := by rw [hV]; exact (by with_reducible repeat (first | exact Ext.refl _ | apply Ext.drew | apply Ext.alloc | apply Ext.more_))
        rw [← hV] at hbx
        generalize wc.heap.size + 1 = pn at *
        obtain ⟨Dn, mn, cn, bn⟩ : ∃ D m c, BoxN V1 pn (oneA Val.zero) D m c := ⟨_, _, _, hbx⟩
        clear hV hbx
        replace ba := ba.ext hxV
        replace hx0 := hx0.trans hxV
        clear hxV
        clear ea0 ea1 ea2 ea3
        obtain ⟨ea0, ea1, ea2, ea3⟩ := ba.cells
        try simp only at ea0 ea1
        obtain ⟨en0, en1, en2, en3⟩ := bn.cells
        simp only [oneA, show ((1 : Nat) : Int) = 1 from rfl] at en0 en1
        go_upto_region 16 with fail
        refine wp_float [(9, 16, (.cells #[.int .i64 0, .int .i64 0, .slice none 0 0] 30))] [(0, 0), (1, 0), (2, 0), (3, 1), (4, 1), (5, 1), (6, 0), (7, 0), (8, 2)] [10, 11] [10, 11] [8] (by kernel_rfl) (by kernel_rfl) (by kernel_rfl) (fun _ _ d _ _ h => by cases d <;> exact h) (fun _ _ d _ _ h => by cases d <;> exact h) (fun x hx o ho a w => by (obtain rfl := List.mem_singleton.1 hx); (obtain rfl := Option.some.inj ho); (first | rfl | (simp [go_sem, ptrB]; done) | (go_simp; rfl))) ?_
        iterate 3 ((refine wpFp_read (v := ?_) rfl ?_ (fun w1 h1 => ?_) ?_; rotate_left 1; rfl; (obtain ⟨os1, d1, rfl⟩ := h1.more; go_simp; first | done | rfl)); try simp only [Act.put, zqA, zqB, zqC])
        (refine wpFp_eff rfl ?_ (fun wf hXf hE K hK => ?_); rfl; obtain ⟨osf, df, rfl⟩ := hXf.more; go_simp; refine (hnum _).mono ?_; rintro e w' ⟨D1, m1, c1, rfl, hD1, hb⟩; refine hK _ _ (fun W => ArrIn W D1 m1 c1 (oneA (cntV (kj : Int))).l) (by (try simp only [more_drew, more_more, Array.append_assoc]); exact hb) (fun _ _ hx h => h.ext hx) hD1.arr ?_)
        try simp only [Act.put, zqA, zqB, zqC]
        (refine wpFp_eff rfl ?_ (fun wf hXf hE K hK => ?_); rfl; obtain ⟨osf, df, rfl⟩ := hXf.more; go_simp; have hA2 : ArgsIn ((more V1 osf df).alloc (.cells #[.int .i64 (R : Int), .int .i64 (C : Int), .slice A n cap, .int .i64 1, .int .i64 1, .slice Dn mn cn, .int .i64 1, .int .i64 1, .slice D1 m1 c1] 30)) (some ⟨V1.heap.size + osf.size, 0, none⟩) 3 3 [arAt ⟨R, C, l⟩ A n cap, arAt (oneA Val.zero) Dn mn cn, arAt (oneA (cntV (kj : Int))) D1 m1 c1] := argsG_new [arAt ⟨R, C, l⟩ A n cap, arAt (oneA Val.zero) Dn mn cn, arAt (oneA (cntV (kj : Int))) D1 m1 c1] (by simp) rfl rfl (by decide) (by intro a ha; simp only [List.mem_cons, List.not_mem_nil, or_false] at ha; rcases ha with rfl | rfl | rfl; exact ⟨ba.2.ext (ext_more _ _ _), har⟩; exact ⟨bn.2.ext (ext_more _ _ _), one_right_ right_zero⟩; exact ⟨hE, hyr⟩); refine hK _ _ (fun W => ArgsIn W (some ⟨V1.heap.size + osf.size, 0, none⟩) 3 3 [arAt ⟨R, C, l⟩ A n cap, arAt (oneA Val.zero) Dn mn cn, arAt (oneA (cntV (kj : Int))) D1 m1 c1]) ((Ext.refl _).alloc _) (fun _ _ hx h => h.ext hx) hA2 ?_)
        try simp only [Act.put, zqA, zqB, zqC]
        (refine wpFp_eff rfl ?_ (fun wf hXf hE K hK => ?_); rfl; obtain ⟨osf, df, rfl⟩ := hXf.more; go_simp; have hq := ccall_take _ _ _ _ _ hE (by decide) (by decide); rw [take3 ⟨R, C, l⟩ A D1 Dn n cap m1 c1 mn cn hk15, take_cols har hk0 hkl, hZX] at hq; refine hq.mono ?_; clear hq; rintro e w' ⟨D2, m2, c2, rfl, hD2, hb⟩; refine hK _ _ (fun W => ArrIn W D2 m2 c2 ZX.l) (by (try simp only [more_drew, more_more, Array.append_assoc]); exact hb) (fun _ _ hx h => h.ext hx) hD2.arr ?_)
        try simp only [Act.put, zqA, zqB, zqC]
        iterate 2 ((refine wpFp_read (v := ?_) rfl ?_ (fun w1 h1 => ?_) ?_; rotate_left 1; rfl; (obtain ⟨os1, d1, rfl⟩ := h1.more; go_simp; first | done | rfl)); try simp only [Act.put, zqA, zqB, zqC])
        (refine wpFp_pure (v := ?_) rfl ?_ (fun w1 => ?_) ?_; rotate_left 1; rfl; (go_simp; first | done | rfl))
        try simp only [Act.put, zqA, zqB, zqC]
        refine wpFp_one fun osa da osb db hE => ?_
        try simp only [Act.put, zqA, zqB, zqC]
        iterate 2 ((refine wpTl_op rfl ?_ (fun K hK => ?_); rfl; go_simp; refine hK _ _ ?_); try simp only [Act.put, zqA, zqB, zqC])
        refine wpTl_nil ?_
        simp only [drew_more] at hE
        have hbx : BoxN (more ((more V1 osa da).alloc (.cells #[.int .i64 (ZX.R : Int), .int .i64 (ZX.C : Int), .slice D2 m2 c2] 30)) osb db) (V1.heap.size + osa.size) ZX D2 m2 c2 := ⟨gvar_at V1 _ osa osb da db, ⟨rd_var (.int .i64 ZX.R) (.int .i64 ZX.C) (.slice D2 m2 c2) hE.rd, hE.len, hE.cap, hE.small, hE.ok⟩⟩
        obtain ⟨V2, hV⟩ : ∃ V, more ((more V1 osa da).alloc (.cells #[.int .i64 (ZX.R : Int), .int .i64 (ZX.C : Int), .slice D2 m2 c2] 30)) osb db = V := ⟨_, rfl⟩
        rw [hV] at hbx ⊢
        have hxV : Ext V1 V2 := by rw [← hV]; exact (by with_reducible repeat (first | exact Ext.refl _ | apply Ext.drew | apply Ext.alloc | apply Ext.more_))
        generalize V1.heap.size + osa.size = px at *
        obtain ⟨Dx, mx, cx, bx⟩ : ∃ D m c, BoxN V2 px ZX D m c := ⟨D2, m2, c2, hbx⟩
        clear hV hbx hE
        replace ba := ba.ext hxV
        replace bn := bn.ext hxV
        replace hx0 := hx0.trans hxV
        clear hxV
        clear ea0 ea1 ea2 ea3
        clear en0 en1 en2 en3
        obtain ⟨ea0, ea1, ea2, ea3⟩ := ba.cells
        try simp only at ea0 ea1
        obtain ⟨en0, en1, en2, en3⟩ := bn.cells
        simp only [oneA, show ((1 : Nat) : Int) = 1 from rfl] at en0 en1
        obtain ⟨ex0, ex1, ex2, ex3⟩ := bx.cells
        try simp only at ex0 ex1
        go_upto_region 17 with fail
        refine wp_float [(9, 18, (.cells #[.int .i64 0, .int .i64 0, .slice none 0 0] 30))] [(0, 0), (1, 0), (2, 0), (3, 1), (4, 1), (5, 1), (6, 0), (7, 0), (8, 2)] [10, 11] [10, 11] [8] (by kernel_rfl) (by kernel_rfl) (by kernel_rfl) (fun _ _ d _ _ h => by cases d <;> exact h) (fun _ _ d _ _ h => by cases d <;> exact h) (fun x hx o ho a w => by (obtain rfl := List.mem_singleton.1 hx); (obtain rfl := Option.some.inj ho); (first | rfl | (simp [go_sem, ptrB]; done) | (go_simp; rfl))) ?_
        iterate 3 ((refine wpFp_read (v := ?_) rfl ?_ (fun w1 h1 => ?_) ?_; rotate_left 1; rfl; (obtain ⟨os1, d1, rfl⟩ := h1.more; go_simp; first | done | rfl)); try simp only [Act.put, zqA, zqB, zqC])
        (refine wpFp_eff rfl ?_ (fun wf hXf hE K hK => ?_); rfl; obtain ⟨osf, df, rfl⟩ := hXf.more; go_simp; refine (hnum _).mono ?_; rintro e w' ⟨D1, m1, c1, rfl, hD1, hb⟩; refine hK _ _ (fun W => ArrIn W D1 m1 c1 (oneA (cntV (kj : Int))).l) (by (try simp only [more_drew, more_more, Array.append_assoc]); exact hb) (fun _ _ hx h => h.ext hx) hD1.arr ?_)
        try simp only [Act.put, zqA, zqB, zqC]
        (refine wpFp_eff rfl ?_ (fun wf hXf hE K hK => ?_); rfl; obtain ⟨osf, df, rfl⟩ := hXf.more; go_simp; have hA2 : ArgsIn ((more V2 osf df).alloc (.cells #[.int .i64 (R : Int), .int .i64 (C : Int), .slice A n cap, .int .i64 1, .int .i64 1, .slice Dn mn cn, .int .i64 1, .int .i64 1, .slice D1 m1 c1] 30)) (some ⟨V2.heap.size + osf.size, 0, none⟩) 3 3 [arAt ⟨R, C, l⟩ A n cap, arAt (oneA Val.zero) Dn mn cn, arAt (oneA (cntV (kj : Int))) D1 m1 c1] := argsG_new [arAt ⟨R, C, l⟩ A n cap, arAt (oneA Val.zero) Dn mn cn, arAt (oneA (cntV (kj : Int))) D1 m1 c1] (by simp) rfl rfl (by decide) (by intro a ha; simp only [List.mem_cons, List.not_mem_nil, or_false] at ha; rcases ha with rfl | rfl | rfl; exact ⟨ba.2.ext (ext_more _ _ _), har⟩; exact ⟨bn.2.ext (ext_more _ _ _), one_right_ right_zero⟩; exact ⟨hE, hyr⟩); refine hK _ _ (fun W => ArgsIn W (some ⟨V2.heap.size + osf.size, 0, none⟩) 3 3 [arAt ⟨R, C, l⟩ A n cap, arAt (oneA Val.zero) Dn mn cn, arAt (oneA (cntV (kj : Int))) D1 m1 c1]) ((Ext.refl _).alloc _) (fun _ _ hx h => h.ext hx) hA2 ?_)
        try simp only [Act.put, zqA, zqB, zqC]
        (refine wpFp_eff rfl ?_ (fun wf hXf hE K hK => ?_); rfl; obtain ⟨osf, df, rfl⟩ := hXf.more; go_simp; have hq := ccall_drop _ _ _ _ _ hE (by decide) (by decide); rw [drop3 ⟨R, C, l⟩ A D1 Dn n cap m1 c1 mn cn hk15, drop_cols har hk0 hkl, hZY] at hq; refine hq.mono ?_; clear hq; rintro e w' ⟨D2, m2, c2, rfl, hD2, hb⟩; refine hK _ _ (fun W => ArrIn W D2 m2 c2 ZY.l) (by (try simp only [more_drew, more_more, Array.append_assoc]); exact hb) (fun _ _ hx h => h.ext hx) hD2.arr ?_)
        try simp only [Act.put, zqA, zqB, zqC]
        iterate 2 ((refine wpFp_read (v := ?_) rfl ?_ (fun w1 h1 => ?_) ?_; rotate_left 1; rfl; (obtain ⟨os1, d1, rfl⟩ := h1.more; go_simp; first | done | rfl)); try simp only [Act.put, zqA, zqB, zqC])
        (refine wpFp_pure (v := ?_) rfl ?_ (fun w1 => ?_) ?_; rotate_left 1; rfl; (go_simp; first | done | rfl))
        try simp only [Act.put, zqA, zqB, zqC]
        refine wpFp_one fun osa da osb db hE => ?_
        try simp only [Act.put, zqA, zqB, zqC]
        iterate 2 ((refine wpTl_op rfl ?_ (fun K hK => ?_); rfl; go_simp; refine hK _ _ ?_); try simp only [Act.put, zqA, zqB, zqC])
        refine wpTl_nil ?_
        simp only [drew_more] at hE
        have hbx : BoxN (more ((more V2 osa da).alloc (.cells #[.int .i64 (ZY.R : Int), .int .i64 (ZY.C : Int), .slice D2 m2 c2] 30)) osb db) (V2.heap.size + osa.size) ZY D2 m2 c2 := ⟨gvar_at V2 _ osa osb da db, ⟨rd_var (.int .i64 ZY.R) (.int .i64 ZY.C) (.slice D2 m2 c2) hE.rd, hE.len, hE.cap, hE.small, hE.ok⟩⟩
        obtain ⟨V3, hV⟩ : ∃ V, more ((more V2 osa da).alloc (.cells #[.int .i64 (ZY.R : Int), .int .i64 (ZY.C : Int), .slice D2 m2 c2] 30)) osb db = V := ⟨_, rfl⟩
        rw [hV] at hbx ⊢
        have hxV : Ext V2 V3 := by rw [← hV]; exact (by with_reducible repeat (first | exact Ext.refl _ | apply Ext.drew | apply Ext.alloc | apply Ext.more_))
        generalize V2.heap.size + osa.size = py at *
        obtain ⟨Dy, my, cy, bY⟩ : ∃ D m c, BoxN V3 py ZY D m c := ⟨D2, m2, c2, hbx⟩
        clear hV hbx hE
        replace ba := ba.ext hxV
        replace bn := bn.ext hxV
        replace bx := bx.ext hxV
        replace hx0 := hx0.trans hxV
        clear hxV
        clear ea0 ea1 ea2 ea3
        clear en0 en1 en2 en3
        clear ex0 ex1 ex2 ex3
        obtain ⟨ea0, ea1, ea2, ea3⟩ := ba.cells
        try simp only at ea0 ea1
        obtain ⟨en0, en1, en2, en3⟩ := bn.cells
        simp only [oneA, show ((1 : Nat) : Int) = 1 from rfl] at en0 en1
        obtain ⟨ex0, ex1, ex2, ex3⟩ := bx.cells
        try simp only at ex0 ex1
        obtain ⟨ey0, ey1, ey2, ey3⟩ := bY.cells
        try simp only at ey0 ey1
        go_upto_region 19 with (go_at_call 15; have hA2 : ArgsIn (V3.alloc (.cells #[.int .i64 (ZX.R : Int), .int .i64 (ZX.C : Int), .slice Dx mx cx, .int .i64 (ZY.R : Int), .int .i64 (ZY.C : Int), .slice Dy my cy] 30)) (some ⟨V3.heap.size, 0, none⟩) 2 2 [arAt ZX Dx mx cx, arAt ZY Dy my cy] := argsG_new [arAt ZX Dx mx cx, arAt ZY Dy my cy] rfl rfl rfl (by decide) (by intro a ha; simp only [List.mem_cons, List.not_mem_nil, or_false] at ha; rcases ha with rfl | rfl; exact ⟨bx.2, hZXr⟩; exact ⟨bY.2, hZYr⟩); have hq := ccall_hstack _ _ _ _ _ hA2 (by decide) (by decide); rw [stack_two hst Dx Dy mx cx my cy] at hq; refine hq.mono ?_; clear hq; rintro e w' ⟨D2, m2, c2, rfl, hD2, hb⟩; have a2 := hD2.arr; obtain ⟨osq, dq, rfl⟩ := hb.more; clear hb hD2 hA2)
        have hbx : BoxN ((more (V3.alloc (.cells #[.int .i64 (ZX.R : Int), .int .i64 (ZX.C : Int), .slice Dx mx cx, .int .i64 (ZY.R : Int), .int .i64 (ZY.C : Int), .slice Dy my cy] 30)) osq dq).alloc (.cells #[.int .i64 ((⟨R, C, l⟩ : NA).R : Int), .int .i64 ((⟨R, C, l⟩ : NA).C : Int), .slice D2 m2 c2] 30)) (V3.heap.size + 1 + osq.size) (⟨R, C, l⟩ : NA) D2 m2 c2 := ⟨by have := gheap_new (more (V3.alloc (.cells #[.int .i64 (ZX.R : Int), .int .i64 (ZX.C : Int), .slice Dx mx cx, .int .i64 (ZY.R : Int), .int .i64 (ZY.C : Int), .slice Dy my cy] 30)) osq dq) (.cells #[.int .i64 ((⟨R, C, l⟩ : NA).R : Int), .int .i64 ((⟨R, C, l⟩ : NA).C : Int), .slice D2 m2 c2] 30); simpa using this, a2.ext ((Ext.refl _).alloc _)⟩
        refine wp_world fun V4 hV => ?_
        have hxV : Ext V3 V4 := by rw [hV]; exact (by with_reducible repeat (first | exact Ext.refl _ | apply Ext.drew | apply Ext.alloc | apply Ext.more_))
        rw [← hV] at hbx
        generalize V3.heap.size + 1 + osq.size = pz at *
        obtain ⟨Dz, mz, cz, bz⟩ : ∃ D m c, BoxN V4 pz (⟨R, C, l⟩ : NA) D m c := ⟨D2, m2, c2, hbx⟩
        clear hV hbx a2
        replace ba := ba.ext hxV
        replace bn := bn.ext hxV
        replace bx := bx.ext hxV
        replace bY := bY.ext hxV
        replace hx0 := hx0.trans hxV
        clear hxV
        clear ea0 ea1 ea2 ea3
        clear en0 en1 en2 en3
        clear ex0 ex1 ex2 ex3
        clear ey0 ey1 ey2 ey3
        obtain ⟨ea0, ea1, ea2, ea3⟩ := ba.cells
        try simp only at ea0 ea1
        obtain ⟨en0, en1, en2, en3⟩ := bn.cells
        simp only [oneA, show ((1 : Nat) : Int) = 1 from rfl] at en0 en1
        obtain ⟨ex0, ex1, ex2, ex3⟩ := bx.cells
        try simp only at ex0 ex1
        obtain ⟨ey0, ey1, ey2, ey3⟩ := bY.cells
        try simp only at ey0 ey1
        obtain ⟨ez0, ez1, ez2, ez3⟩ := bz.cells
        try simp only at ez0 ez1
        have hs1 := fun W (h1 : ArrIn W Dz mz cz l) (h2 : ArrIn W A n cap l) => by have := refSame_any R C R C Dz A mz cz n cap l l W h1 h2; rw [same_self ⟨R, C, l⟩] at this; exact this
        have qz : ArrIn V4 Dz mz cz l := bz.2
        have qa : ArrIn V4 A n cap l := ba.2
        go_wp2_with (go_at_call 17; with_reducible refine (hs1 _ (qz.ext (by with_reducible repeat (first | exact Ext.refl _ | exact ext_d _ _ _ _ | exact ext_app _ _ _ _ _ | exact ext_app2 _ _ _ _ _ _ | exact ext_app3 _ _ _ _ _ _ _ | apply Ext.drew | apply Ext.alloc | apply Ext.more_))) (qa.ext (by with_reducible repeat (first | exact Ext.refl _ | exact ext_d _ _ _ _ | exact ext_app _ _ _ _ _ | exact ext_app2 _ _ _ _ _ _ | exact ext_app3 _ _ _ _ _ _ _ | apply Ext.drew | apply Ext.alloc | apply Ext.more_)))).mono ?_; rintro e w' ⟨rfl, hb⟩; obtain ⟨oss, ds, rfl⟩ := hb.more; clear hb)
        go_ret
        exact ⟨rfl, hx0.trans (by with_reducible repeat (first | exact Ext.refl _ | apply Ext.drew | apply Ext.alloc | apply Ext.more_))⟩
      · obtain rfl : kj = 0 := by omega
        go_wp2_with fail
        go_ret
        exact ⟨rfl, hx.trans (by with_reducible repeat (first | exact Ext.refl _ | apply Ext.drew | apply Ext.alloc | apply Ext.more_))⟩
end Go.Proofs.YtlfbdodokldkhaaGreatDoor
namespace Go.Proofs.YtlfbdodokldkhaaGreatDoor
open Go.ChangeShapes Go.WideShapes Go.ChangeAt Go.RowKit Go.Deep
set_option maxRecDepth 100000
section
variable {H : Type} {enc : TypeId × Value → H} {w : World} {base : Nat} {spare : Nat → Bool} {held : Bool}
theorem open_arr {r : Reach} {b0 : Nat} {v : Value} {d : DataW H} {p : List MemPlace} (hv : Value.okWide Tryz.prog w r b0 30 v) (h : DataW.Trod enc Tryz.prog w base spare held 30 v d p) :
    ∃ (a c : Int) (A : Option Addr) (n cap : Nat) (l : List Val), v = AV a c (.slice A n cap) ∧ I64 a ∧ I64 c ∧ ArrIn w A n cap l := by
  obtain ⟨c0, c1, c2, y0, y1, y2, m, rfl, rfl, rfl, hy0, hy1, hy2⟩ := Joins.open_agg3 Tryz.underlying30 (by kernel_rfl) cells_arr hv h
  obtain ⟨a, e0, _, w0⟩ := DataW.trod_int Tryz.underlying3 hy0
  obtain ⟨c, e1, _, w1⟩ := DataW.trod_int Tryz.underlying3 hy1
  obtain ⟨A, n, cap, e2⟩ := Joins.slice_form Tryz.underlying28 hy2
  simp only [List.cons.injEq, and_true] at e0 e1 e2
  subst e0 e1 e2
  obtain ⟨l, hl⟩ := open_vals hy2
  exact ⟨a, c, A, n, cap, l, rfl, i64_of w0, i64_of w1, hl⟩
theorem open_byte {r : Reach} {b0 : Nat} {v : Value} {d : DataW H} {p : List MemPlace} (hv : Value.okWide Tryz.prog w r b0 5 v) (h : DataW.Trod enc Tryz.prog w base spare held 5 v d p) :
    ∃ b : Int, v = .int .u8 b ∧ 0 ≤ b ∧ b ≤ 255 := by
  obtain ⟨b, rfl⟩ := okWide_int Tryz.underlying5 hv
  obtain ⟨fuel, hf⟩ := h
  obtain ⟨m, e0, _, w0⟩ := DataW.trod_int Tryz.underlying5 hf
  have e1 : b = m := by simpa [Value.cells] using e0
  subst e1
  have : 0 ≤ b ∧ b ≤ 255 := by simpa [Lit.wf, IntKind.min, IntKind.max, IntKind.signed, IntKind.bits] using w0
  exact ⟨b, rfl, this⟩
end
end Go.Proofs.YtlfbdodokldkhaaGreatDoor
