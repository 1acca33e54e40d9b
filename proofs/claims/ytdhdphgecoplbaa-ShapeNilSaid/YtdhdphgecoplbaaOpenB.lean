/- The law's arguments, read as arrays, pairs and bytes. -/
import Derived.Test.YtdhdphgecoplbaaOpen
namespace Go.Proofs.Ytdhdphgecoplbaa
open Go.ChangeShapes Go.WideShapes Go.ChangeAt Go.RowKit Go.Deep
section
variable {H : Type} {enc : TypeId × Value → H} {w : World} {base : Nat} {spare : Nat → Bool} {held : Bool}
theorem cells_arr : Try.prog.cellsOf 25 = 3 := by kernel_rfl
theorem open_arr {r : Reach} {b0 : Nat} {v : Value} {d : DataW H} {p : List MemPlace} (hv : Value.okWide Try.prog w r b0 25 v) (h : DataW.Trod enc Try.prog w base spare held 25 v d p) :
    ∃ (a c : Int) (A : Option Addr) (n cap : Nat) (l : List Val), v = AV a c (.slice A n cap) ∧ I64 a ∧ I64 c ∧ ArrIn w A n cap l := by
  obtain ⟨c0, c1, c2, y0, y1, y2, m, rfl, rfl, rfl, hy0, hy1, hy2⟩ := Joins.open_agg3 Try.underlying25 (by kernel_rfl) cells_arr hv h
  obtain ⟨a, e0, _, w0⟩ := DataW.trod_int Try.underlying3 hy0
  obtain ⟨c, e1, _, w1⟩ := DataW.trod_int Try.underlying3 hy1
  obtain ⟨A, n, cap, e2⟩ := Joins.slice_form Try.underlying22 hy2
  simp only [List.cons.injEq, and_true] at e0 e1 e2
  subst e0 e1 e2
  obtain ⟨l, hl⟩ := open_vals hy2
  exact ⟨a, c, A, n, cap, l, rfl, i64_of w0, i64_of w1, hl⟩
theorem trod_blocks {t : TypeId} {v : Value} {d : DataW H} {p : List MemPlace} (h : DataW.Trod enc Try.prog w base spare held t v d p) : ∀ x ∈ p, x.block < w.heap.size := by
  obtain ⟨m, hm⟩ := h
  exact DataW.trod_lt m _ _ _ hm
end
end Go.Proofs.Ytdhdphgecoplbaa
