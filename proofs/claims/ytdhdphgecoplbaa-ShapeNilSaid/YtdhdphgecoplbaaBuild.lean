/- shape.build: the array of what a function tells of each place, whatever the function keeps beside. -/
import Derived.Test.YtdhdphgecoplbaaArrE
namespace Go.Proofs.Ytdhdphgecoplbaa
open Go.RowKit
/-- Memory but for the blocks of one call of build. -/
structure Keep (s0 : Nat) (W W' : World) : Prop where
  os : W'.os = W.os
  tape : W'.tape = W.tape
  output : W'.output = W.output
  size : W.heap.size ≤ W'.heap.size
  block : ∀ b, b < W.heap.size → b ≠ s0 → b ≠ s0 + 1 → b ≠ s0 + 1 + 1 → W'.heap[b]? = W.heap[b]?
/-- The blocks of one call of build. -/
structure Leaves (s0 : Nat) (W W' : World) : Prop where
  size : W.heap.size ≤ W'.heap.size
  b0 : W'.heap[s0]? = W.heap[s0]?
  b1 : W'.heap[s0 + 1]? = W.heap[s0 + 1]?
  b2 : W'.heap[s0 + 1 + 1]? = W.heap[s0 + 1 + 1]?
theorem Keep.refl (s0 : Nat) (W : World) : Keep s0 W W := ⟨rfl, rfl, rfl, Nat.le_refl _, fun _ _ _ _ _ => rfl⟩
theorem Keep.trans {s0 : Nat} {a b c : World} (h : Keep s0 a b) (k : Keep s0 b c) : Keep s0 a c :=
  ⟨k.os.trans h.os, k.tape.trans h.tape, k.output.trans h.output, Nat.le_trans h.size k.size, fun i hi h0 h1 h2 => (k.block i (Nat.lt_of_lt_of_le hi h.size) h0 h1 h2).trans (h.block i hi h0 h1 h2)⟩
theorem Keep.of_ext {s0 : Nat} {a b : World} (h : Ext a b) : Keep s0 a b := ⟨h.os, h.tape, h.output, h.size, fun _ hi _ _ _ => h.block hi⟩
theorem Keep.of_grown {s0 : Nat} {a b : World} (h : a.grownBy b (some (s0 + 1))) : Keep s0 a b := ⟨h.os, h.tape, h.output, h.size, fun i hi _ h1 _ => h.block i hi (fun e => h1 (by simpa using e))⟩
theorem Keep.of_set {s0 : Nat} (a : World) {p : Addr} (v : Value) (hp : p.block = s0 ∨ p.block = s0 + 1 ∨ p.block = s0 + 1 + 1) : Keep s0 a (a.setCell p v) :=
  ⟨rfl, rfl, rfl, by simp [World.setCell], fun i hi h0 h1 h2 => Below.heap_setCell _ _ _ _ (by omega)⟩
theorem Keep.drew {s0 : Nat} {a b : World} (h : Keep s0 a b) : Keep s0 a b.drew := ⟨h.os, h.tape, h.output, h.size, h.block⟩
theorem Leaves.of_ext {s0 : Nat} {a b : World} (h : Ext a b) (hs : s0 + 3 ≤ a.heap.size) : Leaves s0 a b := ⟨h.size, h.block (by omega), h.block (by omega), h.block (by omega)⟩

/-- What stands in memory behind k calls. -/
structure BSt (s0 R C N k : Nat) (l : List Val) (wr : World) : Prop where
  size : s0 + 3 ≤ wr.heap.size
  b0 : wr.heap[s0]? = some (.cells #[.int .i64 0, .int .i64 0, .slice none 0 0] 25)
  b2 : wr.heap[s0 + 1 + 1]? = some (.cells #[.int .i64 R, .int .i64 C, .slice (some ⟨s0 + 1, 0, none⟩) k N] 25)
  own : wr.ownsRow (s0 + 1) 34 6 (.slice (some ⟨s0 + 1, 0, none⟩) k N) k (vcells l)

def vals (g : Nat → Nat → Val) (C k : Nat) : List Val := (List.range k).map fun t => g (t / C) (t % C)
theorem vals_succ (g : Nat → Nat → Val) (C i j : Nat) (hj : j < C) : vals g C (i * C + j + 1) = vals g C (i * C + j) ++ [g i j] := by
  unfold vals
  rw [List.range_succ, List.map_append]
  have h1 : (i * C + j) / C = i := by rw [Nat.add_comm, Nat.add_mul_div_right _ _ (by omega), Nat.div_eq_of_lt hj]; omega
  have h2 : (i * C + j) % C = j := by rw [Nat.add_comm, Nat.add_mul_mod_self_right, Nat.mod_eq_of_lt hj]
  simp [h1, h2]
theorem vals_length (g : Nat → Nat → Val) (C k : Nat) : (vals g C k).length = k := by simp [vals]

theorem BSt.cell2 {s0 R C N k : Nat} {l : List Val} {wr : World} (h : BSt s0 R C N k l wr) : wr.cell? ⟨s0 + 1 + 1, 2, none⟩ = some (.slice (some ⟨s0 + 1, 0, none⟩) k N) := by
  rw [cell_of_row _ _ _ _ _ _ h.b2]; rfl
theorem BSt.step {s0 R C N k : Nat} {l : List Val} {x : Val} {wr w1 w3 : World} {ty : TypeId} (h : BSt s0 R C N k l wr) (hl : Leaves s0 wr w1) (hg : (w1.alloc (.cells x.cells.toArray ty)).grownBy w3 (some (s0 + 1)))
    (ho : w3.ownsRow (s0 + 1) 34 6 (.slice (some ⟨s0 + 1, 0, none⟩) (k + 1) N) (k + 1) (vcells l ++ x.cells)) :
    BSt s0 R C N (k + 1) (l ++ [x]) (w3.setCell ⟨s0 + 1 + 1, 2, none⟩ (.slice (some ⟨s0 + 1, 0, none⟩) (k + 1) N)) := by
  have hs1 := hl.size
  have hs := h.size
  have hz : (w1.alloc (.cells x.cells.toArray ty)).heap.size = w1.heap.size + 1 := by simp
  have hs3 := hg.size
  have hb : ∀ b, b < w1.heap.size → b ≠ s0 + 1 → w3.heap[b]? = w1.heap[b]? := fun b hb hn => (hg.block b (by omega) (by simpa using hn)).trans (Below.heap_alloc _ _ _ hb)
  refine ⟨by simp [World.setCell]; omega, ?_, ?_, ?_⟩
  · rw [Below.heap_setCell _ _ _ _ (by simp only; omega), hb s0 (by omega) (by omega), hl.b0, h.b0]
  · have h2 : w3.heap[s0 + 1 + 1]? = some (.cells #[.int .i64 R, .int .i64 C, .slice (some ⟨s0 + 1, 0, none⟩) k N] 25) := by rw [hb (s0 + 1 + 1) (by omega) (by omega), hl.b2, h.b2]
    simp [World.setCell, Array.getElem?_modify, h2]
  · have : vcells (l ++ [x]) = vcells l ++ x.cells := by simp [vcells]
    rw [this]
    exact ho.kept (row := some (s0 + 1 + 1)) ⟨rfl, rfl, rfl, by simp [World.setCell], fun b hb hne => Below.heap_setCell _ _ _ _ (fun e => hne (by simp [e]))⟩ (.inr (by simp [Value.ownBlock]))
end Go.Proofs.Ytdhdphgecoplbaa
