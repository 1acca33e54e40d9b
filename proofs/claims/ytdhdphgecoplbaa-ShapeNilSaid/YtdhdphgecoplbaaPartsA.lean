/- Plain facts: arrays as functions of their places; what is joined and parted, or turned twice, is itself. -/
import Derived.Test.YtdhdphgecoplbaaThreeA
import Derived.Test.YtdhdphgecoplbaaPart
namespace Go.Proofs.Ytdhdphgecoplbaa
open Go.RowKit
theorem getV_lt {l : List Val} {t : Nat} (h : t < l.length) : getV l t = l[t] := by simp [getV, List.getElem?_eq_getElem h]
theorem div_mod_at {C t : Nat} : t / C * C + t % C = t := by rw [Nat.mul_comm]; exact Nat.div_add_mod t C
theorem vals_self (R C : Nat) (l : List Val) (h : l.length = R * C) : vals (fun i j => getV l (i * C + j)) C (R * C) = l := by
  apply List.ext_getElem
  · rw [vals_length, h]
  · intro t h1 h2
    simp only [vals, List.getElem_map, List.getElem_range]
    rw [div_mod_at, getV_lt h2]
theorem orNone_in {R C : Nat} {l : List Val} {i j : Nat} (hi : i < R) (hj : j < C) : orNoneV R C l i j = getV l (i * C + j) := by
  have : hasB R C i j = true := hasB_iff.2 ⟨by omega, by omega, by omega, by omega⟩
  simp [orNoneV, this]
theorem orNone_eq (R C : Nat) (l : List Val) (i j : Nat) : orNoneV R C l i j = if i < R ∧ j < C then getV l (i * C + j) else badV 6 := by
  split
  · rename_i h; exact orNone_in h.1 h.2
  · rename_i h; exact orNone_out (hasB_no (by omega))
theorem turn_at (R C : Nat) (l : List Val) {i j : Nat} (hi : i < C) (hj : j < R) : getV (turnL R C l) (i * R + j) = getV l (j * C + i) := getV_vals _ hi hj
theorem orNone_turn (R C : Nat) (l : List Val) (i j : Nat) : orNoneV C R (turnL R C l) i j = orNoneV R C l j i := by
  rw [orNone_eq, orNone_eq]
  by_cases h : i < C ∧ j < R
  · rw [if_pos h, if_pos ⟨h.2, h.1⟩, turn_at R C l h.1 h.2]
  · rw [if_neg h, if_neg (fun k => h ⟨k.2, k.1⟩)]
theorem turnL_length (R C : Nat) (l : List Val) : (turnL R C l).length = C * R := vals_length _ _ _
theorem partL_length (C row col rows cols : Nat) (l : List Val) : (partL C row col rows cols l).length = rows * cols := vals_length _ _ _
theorem besideL_length (R C : Nat) (l : List Val) (R' C' : Nat) (l' : List Val) : (besideL R C l R' C' l').length = max R R' * (C + C') := vals_length _ _ _
theorem belowL_length (R C : Nat) (l : List Val) (R' C' : Nat) (l' : List Val) : (belowL R C l R' C' l').length = (R + R') * max C C' := vals_length _ _ _
theorem turn_turn (R C : Nat) (l : List Val) (h : l.length = R * C) : turnL C R (turnL R C l) = l := by
  conv => rhs; rw [← vals_self R C l h]
  rw [turnL]
  exact vals_congr fun i j hi hj => turn_at R C l hj hi
theorem beside_get (R C : Nat) (l : List Val) (R' C' : Nat) (l' : List Val) {i j : Nat} (hi : i < max R R') (hj : j < C + C') :
    getV (besideL R C l R' C' l') (i * (C + C') + j) = if j < C then orNoneV R C l i j else orNoneV R' C' l' i ((j : Int) - (C : Int)) := by
  rw [besideL, getV_vals _ hi hj]
theorem below_get (R C : Nat) (l : List Val) (R' C' : Nat) (l' : List Val) {i j : Nat} (hi : i < R + R') (hj : j < max C C') :
    getV (belowL R C l R' C' l') (i * max C C' + j) = if i < R then orNoneV R C l i j else orNoneV R' C' l' ((i : Int) - (R : Int)) j := by
  rw [belowL, getV_vals _ hi hj]
theorem part_left (R C : Nat) (l : List Val) (R' C' : Nat) (l' : List Val) (h : l.length = R * C) : partL (C + C') 0 0 R C (besideL R C l R' C' l') = l := by
  conv => rhs; rw [← vals_self R C l h]
  rw [partL]
  refine vals_congr fun i j hi hj => ?_
  rw [show (0 + i) * (C + C') + 0 + j = i * (C + C') + j by simp, beside_get R C l R' C' l' (by omega) (by omega), if_pos hj, orNone_in hi hj]
theorem part_right (R C : Nat) (l : List Val) (R' C' : Nat) (l' : List Val) (h : l'.length = R' * C') : partL (C + C') 0 C R' C' (besideL R C l R' C' l') = l' := by
  conv => rhs; rw [← vals_self R' C' l' h]
  rw [partL]
  refine vals_congr fun i j hi hj => ?_
  rw [show (0 + i) * (C + C') + C + j = i * (C + C') + (C + j) by rw [Nat.zero_add, Nat.add_assoc], beside_get R C l R' C' l' (by omega) (by omega), if_neg (by omega)]
  rw [show (((C + j : Nat) : Int) - (C : Int)) = (j : Int) by omega, orNone_in hi hj]
theorem turn_below (R C : Nat) (l : List Val) (R' C' : Nat) (l' : List Val) : turnL (C + C') (max R R') (belowL C R (turnL R C l) C' R' (turnL R' C' l')) = besideL R C l R' C' l' := by
  rw [turnL, besideL]
  refine vals_congr fun i j hi hj => ?_
  rw [below_get C R _ C' R' _ hj hi]
  by_cases q : j < C
  · rw [if_pos q, if_pos q, orNone_turn]
  · rw [if_neg q, if_neg q]
    obtain ⟨k, rfl⟩ : ∃ k, j = C + k := ⟨j - C, by omega⟩
    rw [show (((C + k : Nat) : Int) - (C : Int)) = (k : Int) by omega, orNone_turn]
theorem part_whole (R C : Nat) (l : List Val) (h : l.length = R * C) : partL C 0 0 R C l = l := by
  conv => rhs; rw [← vals_self R C l h]
  rw [partL]
  refine vals_congr fun i j hi hj => ?_
  rw [Nat.zero_add, Nat.add_zero]
theorem getV_all {P : Val → Prop} {l : List Val} {k : Nat} (h : ∀ x ∈ l, P x) (hk : k < l.length) : P (getV l k) := h _ (getV_mem hk)
theorem turn_all {P : Val → Prop} {R C : Nat} {l : List Val} (hl : l.length = R * C) (h : ∀ x ∈ l, P x) : ∀ x ∈ turnL R C l, P x := by
  intro x hx
  unfold turnL vals at hx
  obtain ⟨t, ht, rfl⟩ := List.mem_map.1 hx
  have ht' : t < C * R := List.mem_range.1 ht
  have hR : 0 < R := by rcases Nat.eq_zero_or_pos R with rfl | h; · simp at ht'
                        · exact h
  refine getV_all h ?_
  rw [hl]
  have h1 : t / R < C := Nat.div_lt_of_lt_mul (by rw [Nat.mul_comm]; exact ht')
  have h2 : t % R < R := Nat.mod_lt _ hR
  calc t % R * C + t / R < t % R * C + C := by omega
    _ = (t % R + 1) * C := by rw [Nat.succ_mul]
    _ ≤ R * C := Nat.mul_le_mul_right _ h2
theorem turn_right {R C : Nat} {l : List Val} (h : rightA R C l = true) : rightA C R (turnL R C l) = true := by
  obtain ⟨a1, a2, a3, a4, a5⟩ := rightA_nat.1 h
  exact rightA_nat.2 ⟨a2, a1, by rw [Nat.mul_comm]; exact a3, turnL_length _ _ _, turn_all a4 a5⟩
theorem part_all {P : Val → Prop} {R C row col rows cols : Nat} {l : List Val} (hl : l.length = R * C) (h1 : row + rows ≤ R) (h2 : col + cols ≤ C) (h : ∀ x ∈ l, P x) : ∀ x ∈ partL C row col rows cols l, P x := by
  intro x hx
  unfold partL vals at hx
  obtain ⟨t, ht, rfl⟩ := List.mem_map.1 hx
  have ht' : t < rows * cols := List.mem_range.1 ht
  have hR : 0 < cols := by rcases Nat.eq_zero_or_pos cols with rfl | h; · simp at ht'
                           · exact h
  refine getV_all h ?_
  rw [hl]
  have h3 : t / cols < rows := Nat.div_lt_of_lt_mul (by rw [Nat.mul_comm]; exact ht')
  have h4 : t % cols < cols := Nat.mod_lt _ hR
  calc (row + t / cols) * C + col + t % cols < (row + t / cols) * C + C := by omega
    _ = (row + t / cols + 1) * C := by rw [Nat.succ_mul]
    _ ≤ R * C := Nat.mul_le_mul_right _ (by omega)
end Go.Proofs.Ytdhdphgecoplbaa
