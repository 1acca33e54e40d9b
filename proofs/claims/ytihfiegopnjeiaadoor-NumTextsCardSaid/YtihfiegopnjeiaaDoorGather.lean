/- num.gather: digits added up, or taken away, place by place. -/
import Derived.Test.YtihfiegopnjeiaaDoorZeros
import Derived.Test.YtihfiegopnjeiaaDoorPlus
namespace Go.Proofs.YtihfiegopnjeiaaDoor
set_option linter.unusedSimpArgs false
set_option linter.unusedVariables false
open Go.RowKit NM

/-- Block b holds these ints, and nothing else. -/
def IRow (w : World) (b : Nat) (l : List Int) : Prop := w.heap[b]? = some (.cells (l.map (Value.int .i64)).toArray 3 (0, 0))
/-- Only block b may have turned. -/
structure Only (b : Nat) (w w' : World) : Prop where
  os : w'.os = w.os
  tape : w'.tape = w.tape
  output : w'.output = w.output
  size : w'.heap.size = w.heap.size
  block : ∀ j, j ≠ b → w'.heap[j]? = w.heap[j]?
theorem Only.refl (b : Nat) (w : World) : Only b w w := ⟨rfl, rfl, rfl, rfl, fun _ _ => rfl⟩
theorem Only.trans {b : Nat} {w w' w'' : World} (h : Only b w w') (k : Only b w' w'') : Only b w w'' := ⟨k.os.trans h.os, k.tape.trans h.tape, k.output.trans h.output, k.size.trans h.size, fun j hj => (k.block j hj).trans (h.block j hj)⟩
theorem Only.set {b : Nat} {w w' : World} (h : Only b w w') (o : Nat) (v : Value) : Only b w (w'.setCell ⟨b, o, none⟩ v) :=
  h.trans ⟨rfl, rfl, rfl, by simp, fun j hj => RowKit.Below.heap_setCell _ _ _ _ hj⟩
theorem Only.cell {b : Nat} {w w' : World} (h : Only b w w') {p : Addr} (hp : p.block ≠ b) : w'.cell? p = w.cell? p := World.cell?_of_block (h.block _ hp)
theorem Only.ext {b : Nat} {W w w' : World} (h : Only b w w') (hx : Ext W w) (hb : W.heap.size ≤ b) : Ext W w' :=
  ⟨h.os.trans hx.os, h.tape.trans hx.tape, h.output.trans hx.output, by rw [h.size]; exact hx.size, fun j hj => (h.block j (by omega)).trans (hx.block hj)⟩
theorem IRow.at {w : World} {b : Nat} {l : List Int} (h : IRow w b l) {j : Nat} {x : Int} (hx : l[j]? = some x) : w.cell? ⟨b, j, none⟩ = some (.int .i64 x) ∧ w.frozen? ⟨b, j, none⟩ = false := by
  refine ⟨?_, frozen_of_row w b j _ _ h⟩
  rw [cell_of_row w b j _ _ (0, 0) h]
  simp [hx]
theorem IRow.set {w : World} {b : Nat} {l : List Int} (h : IRow w b l) (j : Nat) (x : Int) : IRow (w.setCell ⟨b, j, none⟩ (.int .i64 x)) b (l.set j x) := by
  unfold IRow at *
  rw [heap_setCell_same w b j _ _ _ h]
  congr 2
  apply Array.ext'
  simp
/-- Digits with their sign at the end of a list of n. -/
def pad (neg : Bool) (n i : Nat) (D : List Nat) : List Int := List.replicate (n - D.length) 0 ++ ((D.take i).map (fun d => sg neg d) ++ List.replicate (D.length - i) 0)
theorem pad_length {neg : Bool} {n i : Nat} {D : List Nat} (h : D.length ≤ n) (hi : i ≤ D.length) : (pad neg n i D).length = n := by unfold pad; simp; omega
theorem zip_at {a b : List Int} {j : Nat} {x y : Int} (hx : a[j]? = some x) (hy : b[j]? = some y) : (List.zipWith (· + ·) a b)[j]? = some (x + y) := by
  rw [List.getElem?_zipWith, hx, hy]
theorem pad_at {neg : Bool} {n i : Nat} {D : List Nat} (h : D.length ≤ n) (hi : i < D.length) : (pad neg n i D)[n - D.length + i]? = some 0 := by
  unfold pad
  rw [List.getElem?_append_right (by simp), List.getElem?_append_right (by simp; omega), List.getElem?_replicate, if_pos (by simp; omega)]
theorem pad_step {neg : Bool} {n i d : Nat} {D : List Nat} (h : D.length ≤ n) (hd : D[i]? = some d) : (pad neg n i D).set (n - D.length + i) (sg neg d) = pad neg n (i + 1) D := by
  have hi := lt_at hd
  unfold pad
  rw [List.set_append_right _ _ (by simp)]
  congr 1
  rw [List.set_append_right _ _ (by simp; omega), take_at hd, List.map_append, List.append_assoc]
  congr 1
  rw [show D.length - i = D.length - (i + 1) + 1 by omega, List.replicate_succ]
  have : n - D.length + i - (List.replicate (n - D.length) (0 : Int)).length - ((D.take i).map fun d => sg neg d).length = 0 := by simp; omega
  rw [this]; rfl
theorem zip_set {a b : List Int} {j : Nat} {x y : Int} (hx : a[j]? = some x) (hj : j < b.length) : (List.zipWith (· + ·) a b).set j (x + y) = List.zipWith (· + ·) a (b.set j y) := by
  apply List.ext_getElem?
  intro k
  by_cases hk : j = k
  · subst hk
    rw [List.getElem?_set_self (by rw [List.length_zipWith]; have := lt_at hx; omega), List.getElem?_zipWith, hx, List.getElem?_set_self hj]
  · rw [List.getElem?_set_ne hk, List.getElem?_zipWith, List.getElem?_zipWith, List.getElem?_set_ne hk]
theorem pad_all {neg : Bool} {n i : Nat} {D : List Nat} (hD : AllD D) : ∀ x ∈ pad neg n i D, -9 ≤ x ∧ x ≤ 9 := by
  intro x hx
  unfold pad at hx
  rcases List.mem_append.1 hx with h | h
  · rw [List.eq_of_mem_replicate h]; omega
  · rcases List.mem_append.1 h with h | h
    · obtain ⟨d, hd, rfl⟩ := List.mem_map.1 h
      have := hD d (List.mem_of_mem_take hd)
      unfold sg; split <;> omega
    · rw [List.eq_of_mem_replicate h]; omega
set_option maxRecDepth 100000 in
set_option maxHeartbeats 2000000 in
theorem gather_any (b n : Nat) (l : List Int) (A : Option Addr) (c : Nat) (D : List Nat) (neg : Bool) (w : World) (hl : l.length = n) (h : IRow w b l) (hD : Rd 0 w A (b8 D)) (hne : ∀ p, A = some p → D ≠ [] → p.block ≠ b) (hn : D.length ≤ n) (hbig : n ≤ 1000000) (hall : AllD D) (hlb : ∀ x ∈ l, -1000 ≤ x ∧ x ≤ 1000) :
    Calls Tryd.prog 67 #[.slice (some ⟨b, 0, none⟩) n n, .slice A D.length c, .bool neg] w fun e w' => e = .returned (.tuple #[]) ∧ IRow w' b (List.zipWith (· + ·) l (pad neg n D.length D)) ∧ Only b w w' := by
  generalize hR : List.zipWith (· + ·) l (pad neg n D.length D) = R
  have HR := Lib.hid hR
  clear hR
  have HH : Hid (IRow w b (List.zipWith (· + ·) l (pad neg n 0 D))) := by
    show IRow _ _ _
    have : List.zipWith (· + ·) l (pad neg n 0 D) = l := by
      apply List.ext_getElem?
      intro k
      unfold pad
      rw [List.getElem?_zipWith]
      simp
      rw [show n - D.length + D.length = n by omega, List.getElem?_replicate]
      by_cases hk : k < n
      · rw [if_pos hk]
        cases hlk : l[k]? <;> simp
      · rw [if_neg hk, List.getElem?_eq_none (by omega)]
    rw [this]; exact h
  have HD := Lib.hid hD
  have HL := Lib.hid hl
  have HLB := Lib.hid hlb
  have HNE := Lib.hid hne
  have hsub : (n : Int) - (D.length : Int) = ((n - D.length : Nat) : Int) := by omega
  clear h hD hl hlb hne
  go_enter Tryd.func67, Tryd.ntmps67
  go_wp2
  go_loopw [16] (fun i wr => ∃ j : Nat, j ≤ D.length ∧ i = .int .i64 (j : Int) ∧ Hid (IRow wr b (List.zipWith (· + ·) l (pad neg n j D))) ∧ Hid (Only b w wr)) (fun i _ => D.length - (intOf i).toNat)
  case atStart => exact ⟨0, Nat.zero_le _, rfl, HH, Only.refl _ _⟩
  case round =>
    obtain ⟨j, hj, rfl, HI, HO⟩ := hrel
    by_cases hlt : j < D.length
    · obtain ⟨d, hd⟩ : ∃ d, D[j]? = some d := ⟨D[j], by rw [List.getElem?_eq_getElem]⟩
      obtain ⟨ba, oa, rfl, _, hcd⟩ := HD.out j (.int .u8 (d : Int)) (by unfold b8; rw [List.getElem?_map, hd]; rfl)
      have hcd' := (HO.out.cell (p := ⟨ba, oa + j, none⟩) (by show ba ≠ b; exact HNE.out ⟨ba, oa, none⟩ rfl (fun h0 => by rw [h0] at hd; simp at hd))).trans hcd
      obtain ⟨x, hx⟩ : ∃ x, l[n - D.length + j]? = some x := ⟨l[n - D.length + j]'(by have := HL.out; omega), by rw [List.getElem?_eq_getElem]⟩
      have hxb := HLB.out x (List.mem_of_getElem? hx)
      have hd10 := hall.at hd
      have hz := zip_at hx (pad_at (neg := neg) hn hlt)
      rw [Int.add_zero] at hz
      obtain ⟨hc1, hc2⟩ := HI.out.at hz
      have HN : Hid (IRow (wr.setCell ⟨b, n - D.length + j, none⟩ (.int .i64 (x + sg neg d))) b (List.zipWith (· + ·) l (pad neg n (j + 1) D))) := by
        show IRow _ _ _
        have := HI.out.set (n - D.length + j) (x + sg neg d)
        rw [zip_set hx (by rw [pad_length hn hj]; omega), pad_step hn hd] at this
        exact this
      have hidx : ((n - D.length : Nat) : Int) + (j : Int) = ((n - D.length + j : Nat) : Int) := by omega
      have hin : n - D.length + j < n := by omega
      generalize n - D.length + j = q at *
      clear hx hd hz hcd
      cases neg with
      | true =>
        have e1 : x + sg true d = x - (d : Int) := by simp [sg]; omega
        rw [e1] at HN
        go_wp2
        exact ⟨⟨j + 1, by omega, by go_num, HN, HO.out.set _ _⟩, by simp [intOf]; omega⟩
      | false =>
        have e1 : x + sg false d = x + (d : Int) := by simp [sg]
        rw [e1] at HN
        go_wp2
        exact ⟨⟨j + 1, by omega, by go_num, HN, HO.out.set _ _⟩, by simp [intOf]; omega⟩
    · go_wp2
      refine bodyPost_end (v := .tuple #[]) (by simp [results, Tryd.results67]; done) rfl ⟨rfl, ?_, HO.out⟩
      rw [← HR.out, show D.length = j by omega]
      exact HI.out
end Go.Proofs.YtihfiegopnjeiaaDoor
