/- The law's arguments, read as pairs and bytes. -/
import Derived.Test.YtdhdphgecoplbaaOpenB
namespace Go.Proofs.Ytdhdphgecoplbaa
open Go.ChangeShapes Go.WideShapes Go.ChangeAt Go.RowKit Go.Deep
section
variable {H : Type} {enc : TypeId × Value → H} {w : World} {base : Nat} {spare : Nat → Bool} {held : Bool}
theorem cells_pair : Try.prog.cellsOf 42 = 2 := by kernel_rfl
theorem open_pair {r : Reach} {b0 : Nat} {v : Value} {d : DataW H} {p : List MemPlace} (hv : Value.okWide Try.prog w r b0 42 v) (h : DataW.Trod enc Try.prog w base spare held 42 v d p) :
    ∃ i j : Int, v = .agg #[.int .i64 i, .int .i64 j] ∧ I64 i ∧ I64 j := by
  obtain ⟨cs, rfl, hsz⟩ : ∃ cs, v = .agg cs ∧ cs.size = Try.prog.cellsOf 42 := by
    simp only [Value.okWide, Try.underlying42] at hv
    obtain ⟨cs, h1, h2, _⟩ := hv
    exact ⟨cs, h1, h2⟩
  rw [cells_pair] at hsz
  obtain ⟨fuel, hf⟩ := h
  obtain ⟨xs, n, rfl, _, hl, hxs, hg⟩ := DataW.trod_array Try.underlying42 hf
  obtain ⟨cl⟩ := cs
  match cl, hsz with
  | [c0, c1], _ =>
    obtain ⟨y0, hy0⟩ : ∃ y, xs[0]? = some y := ⟨_, List.getElem?_eq_getElem (by rw [hxs]; decide)⟩
    have g0' := hg 0 (by decide)
    rw [hy0] at g0'
    obtain ⟨y1, hy1⟩ : ∃ y, xs[1]? = some y := ⟨_, List.getElem?_eq_getElem (by rw [hxs]; decide)⟩
    have g1' := hg 1 (by decide)
    rw [hy1] at g1'
    have g0 : DataW.trod enc Try.prog w base spare held n 3 [c0] = some y0 := by simpa [cells_int, Value.cells] using g0'
    have g1 : DataW.trod enc Try.prog w base spare held n 3 [c1] = some y1 := by simpa [cells_int, Value.cells] using g1'
    obtain ⟨m, e0, _, w0⟩ := DataW.trod_int Try.underlying3 g0
    obtain ⟨e, e1, _, w1⟩ := DataW.trod_int Try.underlying3 g1
    simp only [List.cons.injEq, and_true] at e0 e1
    subst e0 e1
    exact ⟨m, e, rfl, i64_of w0, i64_of w1⟩
theorem open_byte {r : Reach} {b0 : Nat} {v : Value} {d : DataW H} {p : List MemPlace} (hv : Value.okWide Try.prog w r b0 5 v) (h : DataW.Trod enc Try.prog w base spare held 5 v d p) :
    ∃ b : Int, v = .int .u8 b ∧ 0 ≤ b ∧ b ≤ 255 := by
  obtain ⟨b, rfl⟩ := okWide_int Try.underlying5 hv
  obtain ⟨fuel, hf⟩ := h
  obtain ⟨m, e0, _, w0⟩ := DataW.trod_int Try.underlying5 hf
  have e1 : b = m := by simpa [Value.cells] using e0
  subst e1
  have : 0 ≤ b ∧ b ≤ 255 := by simpa [Lit.wf, IntKind.min, IntKind.max, IntKind.signed, IntKind.bits] using w0
  exact ⟨b, rfl, this⟩
end
end Go.Proofs.Ytdhdphgecoplbaa
