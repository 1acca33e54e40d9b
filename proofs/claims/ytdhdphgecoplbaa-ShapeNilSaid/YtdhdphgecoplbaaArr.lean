/- Contracts of the small functions on arrays. -/
import Derived.Test.YtdhdphgecoplbaaValD
namespace Go.Proofs.Ytdhdphgecoplbaa
open Go.RowKit

def fitsB (r c : Int) : Bool := decide (1 ≤ r) && decide (1 ≤ c) && decide (r ≤ 4096) && decide (c ≤ 4096 / r)
theorem fits_mul {r c : Int} (h : fitsB r c = true) : 1 ≤ r ∧ 1 ≤ c ∧ r ≤ 4096 ∧ c ≤ 4096 ∧ 1 ≤ r * c ∧ r * c ≤ 4096 := by
  simp only [fitsB, Bool.and_eq_true, decide_eq_true_eq] at h
  obtain ⟨⟨⟨h1, h2⟩, h3⟩, h4⟩ := h
  have h5 : r * (4096 / r) ≤ 4096 := Int.mul_ediv_self_le (by omega)
  have h6 : r * c ≤ r * (4096 / r) := Int.mul_le_mul_of_nonneg_left h4 (by omega)
  have h7 : c ≤ 4096 := by have := Int.ediv_le_self (a := 4096) r (by omega); omega
  have h8 : 1 * 1 ≤ r * c := Int.mul_le_mul h1 h2 (by omega) (by omega)
  exact ⟨h1, h2, h3, h7, by omega, by omega⟩

set_option maxHeartbeats 400000 in
theorem fits_any (r c : Int) (w : World) :
    Calls Try.prog 49 #[.int .i64 r, .int .i64 c] w fun e w' => e = .returned (.bool (fitsB r c)) ∧ w = w' := by
  by_cases h1 : 1 ≤ r
  · by_cases h2 : 1 ≤ c
    · by_cases h3 : r ≤ 4096
      · have e : fitsB r c = decide (c ≤ 4096 / r) := by simp [fitsB, h1, h2, h3]
        rw [e]
        go_enter Try.func49, Try.ntmps49
        go_wp2
        go_ret
        exact ⟨rfl, rfl⟩
      · have e : fitsB r c = false := by simp [fitsB, h3]
        rw [e]
        go_enter Try.func49, Try.ntmps49
        go_wp2
        go_ret
        exact ⟨rfl, rfl⟩
    · have e : fitsB r c = false := by simp [fitsB, h2]
      rw [e]
      go_enter Try.func49, Try.ntmps49
      go_wp2
      go_ret
      exact ⟨rfl, rfl⟩
  · have e : fitsB r c = false := by simp [fitsB, h1]
    rw [e]
    go_enter Try.func49, Try.ntmps49
    go_wp2
    go_ret
    exact ⟨rfl, rfl⟩

/-- An array as it comes in or goes from call to call. -/
structure ArrIn (w : World) (A : Option Addr) (n cap : Nat) (l : List Val) : Prop where
  rd : SlV 0 w A l
  len : l.length = n
  cap : n ≤ cap
  small : n ≤ 9223372036854775807
  ok : ∀ x ∈ l, x.ok
theorem ArrIn.ext {w w' : World} {A : Option Addr} {n cap : Nat} {l : List Val} (h : ArrIn w A n cap l) (hb : Ext w w') : ArrIn w' A n cap l := ⟨h.rd.ext hb, h.len, h.cap, h.small, h.ok⟩
theorem ArrIn.at {w : World} {A : Option Addr} {n cap : Nat} {l : List Val} (h : ArrIn w A n cap l) {k : Nat} (hk : k < n) :
    ∃ x b off, l[k]? = some x ∧ x.ok ∧ A = some ⟨b, off, none⟩ ∧ ValAt w b (off + k * 6) x := by
  have hl : k < l.length := by rw [h.len]; exact hk
  obtain ⟨b, off, hA, _, hv⟩ := h.rd.at (List.getElem?_eq_getElem hl)
  exact ⟨l[k], b, off, List.getElem?_eq_getElem hl, h.ok _ (List.getElem_mem hl), hA, hv⟩

def rightA (r c : Int) (l : List Val) : Bool := fitsB r c && decide ((l.length : Int) = r * c) && l.all valRight

set_option maxHeartbeats 400000 in
theorem right_any (r c : Int) (A : Option Addr) (n cap : Nat) (l : List Val) (w : World) (h : ArrIn w A n cap l) :
    Calls Try.prog 16 #[AV r c (.slice A n cap)] w fun e w' => e = .returned (.bool (rightA r c l)) ∧ Ext w w' := by
  have hsm := h.small
  by_cases hf : fitsB r c = true
  · obtain ⟨f1, f2, f3, f4, f5, f6⟩ := fits_mul hf
    have hw : IntKind.i64.wrap (r * c) = r * c := by rw [IntKind.wrap_i64]; omega
    by_cases hn : (n : Int) = r * c
    · have e : rightA r c l = l.all valRight := by simp [rightA, hf, h.len, hn]
      generalize hR : rightA r c l = R at *
      have HR := Lib.hid e
      clear e hR
      have hn' : ((n : Int) != r * c) = false := by simp [hn]
      have HN := Lib.hid hn
      clear hn
      go_enter Try.func16, Try.ntmps16
      go_wp2_with (go_at_call 49; refine (fits_any _ _ _).mono ?_; rintro e w' ⟨rfl, rfl⟩)
      go_loopw [24] (fun i wr => ∃ (k : Nat) (os : Array Obj) (d : Nat), k ≤ n ∧ i = .int .i64 k ∧ wr = more (w.alloc (Obj.cells #[.int .i64 r, .int .i64 c, .slice A n cap] 25)) os d ∧ Hid (∀ j x, j < k → l[j]? = some x → valRight x = true)) (fun i _ => n - (intOf i).toNat)
      case atStart => exact ⟨0, #[], _, Nat.zero_le _, rfl, (more_none _).symm, fun j x hj => absurd hj (Nat.not_lt_zero _)⟩
      case round =>
        obtain ⟨k, os, d, hk, rfl, rfl, H⟩ := hrel
        by_cases hlt : k < n
        · obtain ⟨x, b, off, hx, hxo, rfl, hv⟩ := h.at hlt
          obtain ⟨v0, v1, v2, v3, v4, v5⟩ := hv
          have hbl : b < w.heap.size := lt_of_cell v0
          by_cases hvr : valRight x = true
          · go_wp2_with (go_at_call 50; refine (valRight_any _ _ _ _ _ _ _ hxo.2.1 hxo.2.2.2.1).mono ?_; rintro e w' ⟨rfl, hb⟩; obtain ⟨os', d', rfl⟩ := hb.more)
            refine ⟨⟨k + 1, _, _, by omega, by go_num, rfl, ?_⟩, by simp [intOf]; omega⟩
            intro j y hj hy
            by_cases hjk : j = k
            · subst hjk
              obtain rfl : x = y := by rw [hx] at hy; simpa using hy
              exact hvr
            · exact H.out j y (by omega) hy
          · have hvr' : valRight x = false := by simpa using hvr
            have hR : R = false := by
              rw [HR.out]
              exact List.all_eq_false.2 ⟨x, List.mem_of_getElem? hx, hvr⟩
            have HR2 := Lib.hid hR
            clear hR hvr
            go_wp2_with (go_at_call 50; refine (valRight_any _ _ _ _ _ _ _ hxo.2.1 hxo.2.2.2.1).mono ?_; rintro e w' ⟨rfl, hb⟩; obtain ⟨os', d', rfl⟩ := hb.more)
            go_ret
            exact ⟨ret_bool HR2.out.symm, by repeat (first | exact Ext.refl _ | apply Ext.drew | apply Ext.alloc | apply Ext.more_)⟩
        · have hR : R = true := by
            rw [HR.out]
            refine List.all_eq_true.2 fun x hx => ?_
            obtain ⟨j, hj, rfl⟩ := List.getElem_of_mem hx
            exact H.out j _ (by have := h.len; omega) (List.getElem?_eq_getElem hj)
          have HR2 := Lib.hid hR
          clear hR
          go_wp2
          go_ret
          exact ⟨ret_bool HR2.out.symm, by repeat (first | exact Ext.refl _ | apply Ext.drew | apply Ext.alloc | apply Ext.more_)⟩
    · have e : rightA r c l = false := by simp [rightA, h.len, hn]
      rw [e]; clear e
      have hn' : ((n : Int) != r * c) = true := by simp [hn]
      clear hn
      go_enter Try.func16, Try.ntmps16
      go_wp2_with (go_at_call 49; refine (fits_any _ _ _).mono ?_; rintro e w' ⟨rfl, rfl⟩)
      go_ret
      exact ⟨rfl, by repeat (first | exact Ext.refl _ | apply Ext.drew | apply Ext.alloc | apply Ext.more_)⟩
  · have e : rightA r c l = false := by simp [rightA, hf]
    have hf' : fitsB r c = false := by simpa using hf
    rw [e]; clear e hf
    go_enter Try.func16, Try.ntmps16
    go_wp2_with (go_at_call 49; refine (fits_any _ _ _).mono ?_; rintro e w' ⟨rfl, rfl⟩)
    go_ret
    exact ⟨rfl, by repeat (first | exact Ext.refl _ | apply Ext.drew | apply Ext.alloc | apply Ext.more_)⟩

/-- counterpaneref09.Right. -/
def refRightA (r c : Int) (l : List Val) : Bool :=
  decide (1 ≤ r) && decide (1 ≤ c) && decide (r ≤ 4096) && decide (c ≤ 4096) && decide (r * c ≤ 4096) && decide ((l.length : Int) = r * c) && l.all refRight

theorem rightA_eq (r c : Int) (l : List Val) (h : ∀ x ∈ l, x.ok) : rightA r c l = refRightA r c l := by
  have h1 : l.all valRight = l.all refRight := by
    rw [Bool.eq_iff_iff]
    simp only [List.all_eq_true]
    exact ⟨fun k x hx => by rw [← right_eq x (h x hx)]; exact k x hx, fun k x hx => by rw [right_eq x (h x hx)]; exact k x hx⟩
  unfold rightA refRightA
  rw [h1]
  by_cases hf : fitsB r c = true
  · obtain ⟨f1, f2, f3, f4, f5, f6⟩ := fits_mul hf
    simp [hf, f1, f2, f3, f4, f6]
  · have hf' : fitsB r c = false := by simpa using hf
    simp only [hf', Bool.false_and]
    by_cases h1 : 1 ≤ r <;> simp [h1]
    by_cases h2 : 1 ≤ c <;> simp [h2]
    by_cases h3 : r ≤ 4096 <;> simp [h3]
    intro h4 h5
    exfalso
    simp [fitsB, h1, h2, h3] at hf'
    have h6 : 4096 / r + 1 ≤ c := by omega
    have h7 : r * (4096 / r + 1) ≤ r * c := Int.mul_le_mul_of_nonneg_left h6 (by omega)
    have h8 := Int.lt_mul_ediv_self_add (x := 4096) (k := r) (by omega)
    rw [Int.mul_add] at h7
    omega
end Go.Proofs.Ytdhdphgecoplbaa
