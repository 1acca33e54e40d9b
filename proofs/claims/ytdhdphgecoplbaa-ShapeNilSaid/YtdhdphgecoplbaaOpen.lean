/- The law's arguments, read as values. -/
import Derived.Test.YtdhdphgecoplbaaRows
import Derived.Test.YtdhdphgecoplbaaArrB
import Derived.ProofKit
import Derived.OpenShut
import Derived.ShutString
import Derived.ChangeOld
import Derived.Below
import Derived.Deep.Slices
import Derived.Lib.SmallJoins
namespace Go.Proofs.Ytdhdphgecoplbaa
open Go.ChangeShapes Go.WideShapes Go.ChangeAt Go.RowKit Go.Deep

theorem own : ownKnob Try.prog.godebug = none := by kernel_rfl
theorem laidOut : laidOutB Try.prog = true := by kernel_rfl
theorem cells_num : Try.prog.cellsOf 32 = 2 := by kernel_rfl
theorem cells_val : Try.prog.cellsOf 34 = 6 := by kernel_rfl
theorem cells_int : Try.prog.cellsOf 3 = 1 := by kernel_rfl
theorem cells_string : Try.prog.cellsOf 9 = 1 := by kernel_rfl
theorem cells_bool : Try.prog.cellsOf 4 = 1 := by kernel_rfl

section
variable {H : Type} {enc : TypeId × Value → H} {w : World} {base : Nat} {spare : Nat → Bool} {held : Bool}
theorem i64_of {n : Int} (h : (Lit.int .i64 n).wf = true) : I64 n := by
  simpa [Lit.wf, IntKind.min, IntKind.max, IntKind.signed, IntKind.bits, I64] using h

theorem open_num {fuel : Nat} {c1 c2 : Value} {x : DataW H × List MemPlace} (h : DataW.trod enc Try.prog w base spare held fuel 32 [c1, c2] = some x) : ∃ m e : Int, [c1, c2] = [.int .i64 m, .int .i64 e] ∧ I64 m ∧ I64 e := by
  obtain ⟨xs, n, rfl, _, hl, hxs, hf⟩ := DataW.trod_struct Try.underlying32 h
  obtain ⟨y0, hy0⟩ : ∃ y, xs[0]? = some y := ⟨_, List.getElem?_eq_getElem (by rw [hxs]; decide)⟩
  have g0 : DataW.trod enc Try.prog w base spare held n 3 [c1] = some y0 := by rw [← hy0]; have := hf 0 _ rfl; simpa [cells_int] using this
  obtain ⟨y1, hy1⟩ : ∃ y, xs[1]? = some y := ⟨_, List.getElem?_eq_getElem (by rw [hxs]; decide)⟩
  have g1 : DataW.trod enc Try.prog w base spare held n 3 [c2] = some y1 := by rw [← hy1]; have := hf 1 _ rfl; simpa [cells_int] using this
  obtain ⟨m, e0, _, w0⟩ := DataW.trod_int Try.underlying3 g0
  obtain ⟨e, e1, _, w1⟩ := DataW.trod_int Try.underlying3 g1
  simp only [List.cons.injEq, and_true] at e0 e1
  subst e0 e1
  exact ⟨m, e, rfl, i64_of w0, i64_of w1⟩

set_option maxHeartbeats 800000 in
theorem open_val {fuel : Nat} {cs : List Value} {x : DataW H × List MemPlace} (h : DataW.trod enc Try.prog w base spare held fuel 34 cs = some x) : ∃ y : Val, cs = y.cells ∧ y.ok := by
  obtain ⟨xs, n, rfl, _, hl, hxs, hf⟩ := DataW.trod_struct Try.underlying34 h
  rw [cells_val] at hl
  match cs, hl with
  | [c0, c1, c2, c3, c4, c5], _ =>
    obtain ⟨y0, hy0⟩ : ∃ y, xs[0]? = some y := ⟨_, List.getElem?_eq_getElem (by rw [hxs]; decide)⟩
    have g0 : DataW.trod enc Try.prog w base spare held n 3 [c0] = some y0 := by rw [← hy0]; have := hf 0 _ rfl; simpa [cells_int] using this
    obtain ⟨y1, hy1⟩ : ∃ y, xs[1]? = some y := ⟨_, List.getElem?_eq_getElem (by rw [hxs]; decide)⟩
    have g1 : DataW.trod enc Try.prog w base spare held n 32 [c1, c2] = some y1 := by rw [← hy1]; have := hf 1 _ rfl; simpa [cells_num] using this
    obtain ⟨y2, hy2⟩ : ∃ y, xs[2]? = some y := ⟨_, List.getElem?_eq_getElem (by rw [hxs]; decide)⟩
    have g2 : DataW.trod enc Try.prog w base spare held n 9 [c3] = some y2 := by rw [← hy2]; have := hf 2 _ rfl; simpa [cells_string] using this
    obtain ⟨y3, hy3⟩ : ∃ y, xs[3]? = some y := ⟨_, List.getElem?_eq_getElem (by rw [hxs]; decide)⟩
    have g3 : DataW.trod enc Try.prog w base spare held n 4 [c4] = some y3 := by rw [← hy3]; have := hf 3 _ rfl; simpa [cells_bool] using this
    obtain ⟨y4, hy4⟩ : ∃ y, xs[4]? = some y := ⟨_, List.getElem?_eq_getElem (by rw [hxs]; decide)⟩
    have g4 : DataW.trod enc Try.prog w base spare held n 3 [c5] = some y4 := by rw [← hy4]; have := hf 4 _ rfl; simpa [cells_int] using this
    obtain ⟨k, e0, _, w0⟩ := DataW.trod_int Try.underlying3 g0
    obtain ⟨m, ex, e1, w1, w2⟩ := open_num g1
    obtain ⟨t, e3, _, w3⟩ := DataW.trod_string Try.underlying9 g2
    obtain ⟨b, e4, _⟩ := DataW.trod_bool Try.underlying4 g3
    obtain ⟨f, e5, _, w5⟩ := DataW.trod_int Try.underlying3 g4
    simp only [List.cons.injEq, and_true] at e0 e1 e3 e4 e5
    obtain ⟨rfl, rfl⟩ := e1
    subst e0 e3 e4 e5
    exact ⟨⟨k, m, ex, t, b, f⟩, rfl, i64_of w0, w1, w2, w3, i64_of w5⟩

/-- A slice of values. -/
theorem open_vals {fuel : Nat} {a : Option Addr} {len cap : Nat} {x : DataW H × List MemPlace} (h : DataW.trod enc Try.prog w base spare held fuel 22 [.slice a len cap] = some x) : ∃ l, ArrIn w a len cap l := by
  rcases open_slice Try.underlying22 h with ⟨hcs, _⟩ | ⟨ad, len', cap', m, n, D, Pl, hcs, hb, hl, hm, hmm, _, hi⟩
  · simp only [List.cons.injEq, Value.slice.injEq, and_true] at hcs
    obtain ⟨rfl, rfl, rfl⟩ := hcs
    exact ⟨[], SlV.nil _ _ _, rfl, Nat.le_refl _, by omega, by simp⟩
  · simp only [List.cons.injEq, Value.slice.injEq, and_true] at hcs
    obtain ⟨rfl, rfl, rfl⟩ := hcs
    have hlm : len ≤ m := by rw [hmm]; split <;> omega
    obtain ⟨X, hX⟩ := choose_lt (α := Val) (n := len) (p := fun i y => w.cells? base (ad.add (i * 6)) 6 = some y.cells ∧ y.ok) (fun i hil => by
      obtain ⟨cs', h1, h2⟩ := hi i (by omega)
      rw [cells_val] at h1
      obtain ⟨y, rfl, hy⟩ := open_val h2
      exact ⟨y, h1, hy⟩)
    refine ⟨(List.range len).map X, ?_, by simp, hl, by simp only [maxLen] at hm; omega, ?_⟩
    · intro j u hu
      have hj : j / 6 < len := by
        have := (List.getElem?_eq_some_iff.1 hu).1
        rw [vcells_length] at this
        simp at this
        omega
      have hat := vcells_at ((List.range len).map X) (j / 6) (X (j / 6)) (by simp [hj]) (j % 6) (by omega)
      rw [show j / 6 * 6 + j % 6 = j by omega, hu] at hat
      obtain ⟨_, _, hc⟩ := World.cells?_some (hX (j / 6) hj).1
      have h6 := hc (j % 6) (by omega)
      rw [← hat, Go.Deep.add_add, show j / 6 * 6 + j % 6 = j by omega] at h6
      obtain ⟨b, off, spot⟩ := ad
      have hsp : spot = none := by
        obtain ⟨_, _, hc0⟩ := World.cells?_some (hX 0 (by omega)).1
        have h0 := hc0 0 (by omega)
        simp [Addr.add, Val.cells] at h0
        exact World.cell?_spot h0
      subst hsp
      rw [Addr.add_mid] at h6
      exact ⟨b, off, rfl, Nat.zero_le _, h6⟩
    · intro y hy
      simp only [List.mem_map, List.mem_range] at hy
      obtain ⟨i, hi', rfl⟩ := hy
      exact (hX i hi').2
end
end Go.Proofs.Ytdhdphgecoplbaa
