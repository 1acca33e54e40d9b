/- Small lemmas for the laws. -/
import Derived.Test.YtdhdphgecoplbaaAwake
namespace Go.Proofs.Ytdhdphgecoplbaa
open Go.RowKit
theorem ext_app (w : World) (os os' : Array Obj) (d d' : Nat) : Ext (more w os d) (more w (os ++ os') d') := by
  rw [← more_more w os os' d d']; exact ext_more _ _ _
theorem ext_app2 (w : World) (os os' os'' : Array Obj) (d d' : Nat) : Ext (more w (os ++ os') d) (more w (os ++ (os' ++ os'')) d') := by
  rw [← Array.append_assoc]; exact ext_app _ _ _ _ _

theorem ArrIn.none_ (w : World) : ArrIn w none 0 0 [] := ⟨SlV.nil _ _ _, rfl, Nat.le_refl _, by omega, by simp⟩

theorem bad9_ok : bad9.ok := ⟨⟨by simp [bad9], by simp [bad9]⟩, ⟨by simp [bad9], by simp [bad9]⟩, ⟨by simp [bad9], by simp [bad9]⟩, by simp [bad9, ByteArray.size], ⟨by simp [bad9], by simp [bad9]⟩⟩
theorem oneV_ok {x : Val} (h : x.ok) : ∀ y ∈ [oneV x], y.ok := by
  intro y hy
  obtain rfl : y = oneV x := by simpa using hy
  unfold oneV; split
  · exact h
  · exact bad9_ok
theorem refOneV_ok {x : Val} (h : x.ok) : ∀ y ∈ [refOneV x], y.ok := by
  intro y hy
  obtain rfl : y = refOneV x := by simpa using hy
  unfold refOneV; split
  · exact h
  · exact bad9_ok
end Go.Proofs.Ytdhdphgecoplbaa
