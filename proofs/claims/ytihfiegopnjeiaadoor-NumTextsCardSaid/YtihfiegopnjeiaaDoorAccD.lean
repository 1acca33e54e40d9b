/- An exact value (Dec) in a variable whose digits are put together by append. -/
import Derived.Test.YtihfiegopnjeiaaDoorRPower
import Derived.Test.YtihfiegopnjeiaaDoorMul
import Derived.Test.YtihfiegopnjeiaaDoorNear
namespace Go.Proofs.YtihfiegopnjeiaaDoor
set_option linter.unusedSimpArgs false
set_option linter.unusedVariables false
open Go.RowKit NM
theorem wp_append_own {P : Program} (w : World) {o : Oper} {a : Act} {K : Act → World → Prop} {Q : Exit → Act → World → Prop} (s x : Operand) (t : TypeId)
    (ho : o.op = .call { callee := .builtin .append, args := #[s, x], argTypes := #[t, t] })
    (base : Nat) (e : TypeId) (i : TypeInfo) (z : Value) (size bytes : Nat) (ht : P.underlying t = some (.slice e)) (hi : P.info? e = some i) (hz : i.zero = some z)
    (hsize : i.size = size) (hby : i.bytes = bytes) (hzs : z.cells.size = size) (hsz : 0 < size)
    (v : Value) (n : Nat) (xs : List Value) (hs : a.eval s = v) (hown : w.ownsRow base e size v n xs)
    (ad : Addr) (m c : Nat) (news : List Value) (hx : a.eval x = .slice (some ad) m c) (hl : news.length = m * size) (hnews : ∀ j u, news[j]? = some u → w.cell? (ad.add j) = some u) (h1 : ∀ u ∈ news, u.oneCell' = true)
    (b1 : n + m ≤ maxLen) (b2 : (n + m) * bytes ≤ 140737488355328) (hbase : base ≤ w.heap.size)
    (h : ∀ v' w', w'.ownsRow base e size v' (n + m) (xs ++ news) → w.grownBy w' v.ownBlock → K (a.put o.dst v') w') : o.wp P a w K Q := by
  obtain ⟨v', w', hr, h2, h3, _⟩ := run_append_own (P := P) w base t o.type e i z size bytes ht hi hz hsize hby hzs hsz v n xs hown ad m c news hl hnews h1 b1 b2 hbase
  unfold Oper.wp execOp
  simp only [ho, resolve, invoke, builtin, Sem.run_bind, Sem.run_pure, Result.andThen_ok, List.map_toArray, List.map_cons, List.map_nil, hs, hx, hr]
  exact h v' w' h2 h3
theorem one_i64 (n : Int) : ∀ u ∈ [Value.int .i64 n], u.oneCell' = true := by
  intro u hu
  obtain rfl := List.mem_singleton.1 hu
  rfl
theorem own_sl {w : World} {base : Nat} {e : TypeId} {v : Value} {n : Nat} {xs : List Value} (h : w.ownsRow base e 1 v n xs) : ∃ A c, v = .slice A n c := by
  rcases h.2 with ⟨rfl, rfl⟩ | ⟨g, cap, cur, rfl, _⟩
  · exact ⟨_, _, rfl⟩
  · exact ⟨_, _, rfl⟩
/-- A variable of type Dec (block s0) whose digits have been put together by append: k so far. -/
structure AccD (w0 : World) (s0 : Nat) (neg : Bool) (A : Option Addr) (cap k : Nat) (ex : Int) (l : List Nat) (wr : World) : Prop where
  ext : Ext w0 wr
  hi : w0.heap.size ≤ s0
  row : wr.heap[s0]? = some (.cells #[.bool neg, .slice A k cap, .int .i64 ex] 45)
  own : wr.ownsRow (s0 + 1) 3 1 (.slice A k cap) k (i6 l)
/-- What reads need of it. -/
def AccDS (w0 : World) (s0 : Nat) (neg : Bool) (A : Option Addr) (cap k : Nat) (ex : Int) (W : World) : Prop := Ext w0 W ∧ W.heap[s0]? = some (.cells #[.bool neg, .slice A k cap, .int .i64 ex] 45)
section
variable {w0 : World} {s0 : Nat} {neg : Bool} {A : Option Addr} {cap k : Nat} {ex : Int} {l : List Nat} {wr : World}
theorem AccD.lt (h : AccD w0 s0 neg A cap k ex l wr) : s0 < wr.heap.size := lt_block h.row
theorem AccD.of_ext (h : AccD w0 s0 neg A cap k ex l wr) {w1 : World} (hx : Ext wr w1) : AccD w0 s0 neg A cap k ex l w1 :=
  ⟨h.ext.trans hx, h.hi, by rw [hx.block h.lt]; exact h.row, own_ext_ h.own hx⟩
theorem AccD.rd (h : AccD w0 s0 neg A cap k ex l wr) : Rd (s0 + 1) wr A (i6 l) ∧ k ≤ cap := by
  obtain ⟨A', c', e, hr, hc⟩ := Rd.of_own h.own
  simp only [Value.slice.injEq, true_and] at e
  obtain ⟨rfl, rfl⟩ := e
  exact ⟨hr, hc⟩
theorem AccD.len (h : AccD w0 s0 neg A cap k ex l wr) : l.length = k := by
  have := h.own.1
  simp [i6] at this
  omega
theorem AccD.cells (h : AccD w0 s0 neg A cap k ex l wr) : wr.cell? ⟨s0, 0, none⟩ = some (.bool neg) ∧ wr.cell? ⟨s0, 1, none⟩ = some (.slice A k cap) ∧ wr.cell? ⟨s0, 2, none⟩ = some (.int .i64 ex) := by
  refine ⟨?_, ?_, ?_⟩ <;> rw [cell_of_row wr s0 _ _ _ (0, 0) h.row] <;> rfl
theorem AccD.fz (h : AccD w0 s0 neg A cap k ex l wr) (o : Nat) : wr.frozen? ⟨s0, o, none⟩ = false := frozen_of_row wr s0 o _ _ h.row
theorem AccD.own_set (h : AccD w0 s0 neg A cap k ex l wr) (o : Nat) (x : Value) : (wr.setCell ⟨s0, o, none⟩ x).ownsRow (s0 + 1) 3 1 (.slice A k cap) k (i6 l) :=
  own_keep h.own fun g cur hg => RowKit.Below.heap_setCell _ _ _ _ (fun he => by subst he; rw [h.row] at hg; cases hg)
theorem AccD.set0 (h : AccD w0 s0 neg A cap k ex l wr) (n' : Bool) : AccD w0 s0 n' A cap k ex l (wr.setCell ⟨s0, 0, none⟩ (.bool n')) := ⟨h.ext.set _ h.hi, h.hi, heap_setCell_same wr s0 0 _ _ _ h.row, h.own_set _ _⟩
theorem AccD.set2 (h : AccD w0 s0 neg A cap k ex l wr) (e' : Int) : AccD w0 s0 neg A cap k e' l (wr.setCell ⟨s0, 2, none⟩ (.int .i64 e')) := ⟨h.ext.set _ h.hi, h.hi, heap_setCell_same wr s0 2 _ _ _ h.row, h.own_set _ _⟩
theorem AccD.step (h : AccD w0 s0 neg A cap k ex l wr) {x : Nat} {v' : Value} {w1 w3 : World} (hx : Ext wr w1)
    (hg : w1.grownBy w3 (Value.slice A k cap).ownBlock) (ho : w3.ownsRow (s0 + 1) 3 1 v' (k + 1) (i6 l ++ [.int .i64 (x : Int)])) :
    ∃ A' cap', v' = .slice A' (k + 1) cap' ∧ w3.heap[s0]? = some (.cells #[.bool neg, .slice A k cap, .int .i64 ex] 45) ∧ Ext w0 w3 ∧ AccD w0 s0 neg A' cap' (k + 1) ex (l ++ [x]) (w3.setCell ⟨s0, 1, none⟩ v') := by
  obtain ⟨A', cap', rfl⟩ := own_sl ho
  have h1 := h.of_ext hx
  have hlt := h1.lt
  have hnb : ∀ b, b ≤ s0 → some b ≠ (Value.slice A k cap).ownBlock := fun b hb e => by have := (own_block h.own _ e.symm).1; omega
  have hrow : w3.heap[s0]? = some (.cells #[.bool neg, .slice A k cap, .int .i64 ex] 45) := by
    rw [hg.block _ hlt (hnb _ (Nat.le_refl _))]; exact h1.row
  have hex : Ext w0 w3 := by
    have h2 : Ext w0 w1 := h1.ext
    exact ⟨hg.os.trans h2.os, hg.tape.trans h2.tape, hg.output.trans h2.output, Nat.le_trans h2.size hg.size, fun b hb => (hg.block b (Nat.lt_of_lt_of_le hb h2.size) (hnb b (by have := h.hi; omega))).trans (h2.block hb)⟩
  refine ⟨A', cap', rfl, hrow, hex, Ext.set hex _ h.hi, h.hi, ?_, ?_⟩
  · exact heap_setCell_same w3 s0 1 _ _ _ hrow
  · have : i6 (l ++ [x]) = i6 l ++ [.int .i64 (x : Int)] := by simp [i6]
    rw [this]
    exact own_keep ho fun g cur hg => RowKit.Below.heap_setCell _ _ _ _ (fun he => by subst he; rw [hrow] at hg; cases hg)
end
end Go.Proofs.YtihfiegopnjeiaaDoor
