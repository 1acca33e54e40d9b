/- Worlds that are more of the same; sizes of nested worlds. -/
import Derived.Test.YtihfiegopnjeiaaDoorBase
namespace Go.Proofs.YtihfiegopnjeiaaDoor
set_option linter.unusedSimpArgs false
set_option linter.unusedVariables false
open Go.RowKit
theorem ext_app (w : World) (os os' : Array Obj) (d d' : Nat) : Ext (more w os d) (more w (os ++ os') d') := by
  rw [← more_more w os os' d d']; exact ext_more _ _ _
theorem ext_app2 (w : World) (os os' os'' : Array Obj) (d d' : Nat) : Ext (more w (os ++ os') d) (more w (os ++ (os' ++ os'')) d') := by
  rw [← Array.append_assoc]; exact ext_app _ _ _ _ _
@[go_sem] theorem lt_m6 {x y : Nat} (s0 s1 s2 s3 s4 s5 : Nat) (h : x < y) : (x < y + s0 + s1 + s2 + s3 + s4 + s5) = True := by simp only [eq_iff_iff, iff_true]; omega
@[go_sem] theorem lt_m7 {x y : Nat} (s0 s1 s2 s3 s4 s5 s6 : Nat) (h : x < y) : (x < y + s0 + s1 + s2 + s3 + s4 + s5 + s6) = True := by simp only [eq_iff_iff, iff_true]; omega
@[go_sem] theorem lt_m8 {x y : Nat} (s0 s1 s2 s3 s4 s5 s6 s7 : Nat) (h : x < y) : (x < y + s0 + s1 + s2 + s3 + s4 + s5 + s6 + s7) = True := by simp only [eq_iff_iff, iff_true]; omega
@[go_sem] theorem lt_m9 {x y : Nat} (s0 s1 s2 s3 s4 s5 s6 s7 s8 : Nat) (h : x < y) : (x < y + s0 + s1 + s2 + s3 + s4 + s5 + s6 + s7 + s8) = True := by simp only [eq_iff_iff, iff_true]; omega
@[go_sem] theorem lt_m10 {x y : Nat} (s0 s1 s2 s3 s4 s5 s6 s7 s8 s9 : Nat) (h : x < y) : (x < y + s0 + s1 + s2 + s3 + s4 + s5 + s6 + s7 + s8 + s9) = True := by simp only [eq_iff_iff, iff_true]; omega
@[go_sem] theorem lt_m11 {x y : Nat} (s0 s1 s2 s3 s4 s5 s6 s7 s8 s9 s10 : Nat) (h : x < y) : (x < y + s0 + s1 + s2 + s3 + s4 + s5 + s6 + s7 + s8 + s9 + s10) = True := by simp only [eq_iff_iff, iff_true]; omega
@[go_sem] theorem lt_m12 {x y : Nat} (s0 s1 s2 s3 s4 s5 s6 s7 s8 s9 s10 s11 : Nat) (h : x < y) : (x < y + s0 + s1 + s2 + s3 + s4 + s5 + s6 + s7 + s8 + s9 + s10 + s11) = True := by simp only [eq_iff_iff, iff_true]; omega
theorem ext_d (w : World) (os : Array Obj) (d d' : Nat) : Ext (more w os d) (more w os d') := ⟨rfl, rfl, rfl, Nat.le_refl _, fun _ _ => rfl⟩
theorem ext_app3 (w : World) (a b c t : Array Obj) (d d' : Nat) : Ext (more w (a ++ (b ++ c)) d) (more w (a ++ (b ++ (c ++ t))) d') := by
  have := ext_app w (a ++ (b ++ c)) t d d'
  simpa only [Array.append_assoc] using this
theorem ext_app4 (w : World) (a b c e t : Array Obj) (d d' : Nat) : Ext (more w (a ++ (b ++ (c ++ e))) d) (more w (a ++ (b ++ (c ++ (e ++ t)))) d') := by
  have := ext_app w (a ++ (b ++ (c ++ e))) t d d'
  simpa only [Array.append_assoc] using this
theorem ext_app5 (w : World) (a b c e f t : Array Obj) (d d' : Nat) : Ext (more w (a ++ (b ++ (c ++ (e ++ f)))) d) (more w (a ++ (b ++ (c ++ (e ++ (f ++ t))))) d') := by
  have := ext_app w (a ++ (b ++ (c ++ (e ++ f)))) t d d'
  simpa only [Array.append_assoc] using this
theorem ext_suffix {w : World} {os os' : Array Obj} {d d' : Nat} (h : ∃ t, os' = os ++ t) : Ext (more w os d) (more w os' d') := by
  obtain ⟨t, rfl⟩ := h; exact ext_app _ _ _ _ _
/-- The world under a name. -/
theorem wp_world {P : Program} {c : Code} {Q : Exit → Act → World → Prop} {a : Act} {w : World} (h : ∀ W, W = w → Code.wp P c Q a W) : Code.wp P c Q a w := h w rfl
theorem calls_world {P : Program} {f : FuncId} {args : Array Value} {w : World} {Q : Ending → World → Prop} (h : ∀ W, W = w → Calls P f args W Q) : Calls P f args w Q := h w rfl
end Go.Proofs.YtihfiegopnjeiaaDoor
