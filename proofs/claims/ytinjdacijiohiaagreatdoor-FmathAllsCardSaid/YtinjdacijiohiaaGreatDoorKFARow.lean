/-
  For every input, without conditions beyond the card's own (three tables of the library's start as the program's text lays them), counterpanelaw11.FmathAlls returns true and its arguments read afterwards as they read before.
-/
import Derived.Test.YtinjdacijiohiaaGreatDoorA1
namespace Go.Proofs.YtinjdacijiohiaaGreatDoor.fmathAlls
set_option linter.unusedSimpArgs false
set_option linter.unusedVariables false
open Go.ChangeShapes Go.WideShapes Go.ChangeAt Go.RowKit Go.Deep

set_option maxRecDepth 100000 in
theorem lifted (os : Os) (started : os.Started) (H : Type) (enc : TypeId × Value → H) :
    ReturnsInHanded {} Tryz.checked os 4 .any (fun w args => (Rows.fmathAllsSpec.pre enc Tryz.prog Tryz.f4 [] false w args ∧ laidMetH Tryz.prog zjr w) ∧ sizedMet enc Tryz.prog Tryz.f4 (OpenSpec.ofChange Rows.fmathAllsSpec) false w args) (Rows.fmathAllsSpec.post enc Tryz.prog Tryz.f4 false true false false) := by
  refine returnsInHanded_of_change_and (C := Tryz.checked) (X := fun w _ => laidMetH Tryz.prog zjr w) (fun _ _ _ hh h => h.of_heap hh) own started (by kernel_rfl) Tryz.func4
    (ChangeSpec.witness_shaped (enc := enc) (C := Tryz.checked) (os := os) (X := fun w _ => laidMetH Tryz.prog zjr w) false (World.doorLaid Tryz.prog 400 os) #[.slice none 0 0] 8 rfl (World.shaped_of_RefB (by kernel_rfl) (by kernel_rfl)) (by kernel_rfl) (by kernel_rfl) (by kernel_rfl) (zq4 os _)) ?_
  intro W base args ds gs before hval0 hW _ _ hL _
  have hval : ∀ (j : Nat) t v, Tryz.f4.params[j]? = some t → args[j]? = some v → Value.okWide Tryz.prog W .any base t v := hval0
  have hW' := hW
  obtain ⟨p, q, hA0, hV, rfl, hfz, hnd⟩ := hW
  have hA : DataW.TrodAll enc Tryz.prog W 0 (fun _ => true) true Tryz.f4.params.toList args.toList ds p := hA0
  rw [Tryz.params4] at hA hval
  obtain ⟨v0, vs0, d0, ds0, p0, q0, hargs, rfl, rfl, h0, r0⟩ := trodAll_cons hA
  obtain ⟨rfl, rfl, rfl⟩ := trodAll_nil r0
  obtain rfl : args = #[v0] := by cases args; simp_all
  obtain ⟨rfl, rfl⟩ := trodVars_none hV
  have ⟨htab, hft⟩ := zkQ hL
  have lt0 := zhy h0
  obtain ⟨A0, n0, cap0, gs0, rfl, g0⟩ := zq7 (hval 0 22 v0 rfl rfl) h0
  clear hA0 hval0
  refine (fmathAlls_any A0 n0 cap0 gs0 W htab hft g0).mono fun e W' ⟨he, bel0⟩ => ?_
  have bel : Below W.heap.size W W' := bel0
  subst he
  exact ⟨_, rfl, _, _, _, [], _, [], hW', trodAll_mk1 (shut_bool Tryz.underlying4 _), (trodAll_cons_mk (Below.trod zjU (by kernel_rfl) (of_decide_eq_true (by kernel_rfl)) h0 bel lt0) trodAll_mk0), rfl, bel.frame _, fun h => by cases h⟩
theorem j_inPlace : (Rows.fmathAllsRow.inPlace == Tryz.prog.inPlace 4) = true := by kernel_rfl
theorem j_unf : (Rows.fmathAllsRow.unfollowed == Tryz.prog.unfollowed 4) = true := by kernel_rfl
theorem j_rec : (Rows.fmathAllsRow.recurses == Tryz.prog.recurses 4) = true := by kernel_rfl
theorem j_named : (Rows.fmathAllsRow.named == Tryz.prog.varsNamed 4) = true := by kernel_rfl
theorem j_keys : (Rows.fmathAllsRow.plainKeys == Tryz.prog.plainKeys) = true := by kernel_rfl
theorem j_lifted : (Rows.fmathAllsRow.lifted == Tryz.prog.liftsFinal) = true := by kernel_rfl
theorem j_make : (Tryz.prog.make == some Rows.fmathAllsRow.make) = true := by kernel_rfl
theorem j_goes : false = Rows.fmathAllsRow.goesBy Tryz.prog := by kernel_rfl

theorem over : Rows.FmathAllsSaid :=
  OpenClaim.holds_of_wide 4 Tryz.f4 rfl rfl rfl rfl rfl rfl rfl ⟨rfl, rfl, rfl, rfl, rfl⟩ rfl rfl rfl rfl rfl (by kernel_rfl) Tryz.func4 (zmt zjU zq3 j_inPlace j_unf j_rec j_named j_keys zo7 zst j_lifted j_make (by kernel_rfl))
    (of_decide_eq_true (by kernel_rfl)) (by unfold Func.isWrapper; first | (rw [if_pos (by decide +kernel)]; kernel_rfl) | (rw [if_neg (by decide +kernel)]; exact ⟨rfl, rfl⟩))
    (fun os started H enc _ => lifted os started H enc)

theorem proved : Rows.FmathAllsCardSaid :=
  Claim7.holds_tied_plain_at .later [] [.data, .data, .data, .data] true (Rows.fmathAllsCard.stood.harness) false
    over (fun _ h => by cases h) (by kernel_rfl) (fun _ h => by cases h) fmathAlls_row_tie rfl ⟨rfl, rfl⟩ (by kernel_rfl) rfl
    (fun f fn hf hfn => by
      obtain rfl : f = 4 := Option.some.inj ((show Tryz.prog.funcNamed "counterpane/counterpanelaw11.FmathAlls" = some 4 by kernel_rfl).symm.trans hf) |>.symm
      obtain rfl : fn = Tryz.f4 := (Option.some.inj (Tryz.func4.symm.trans hfn)).symm
      exact ⟨by kernel_rfl, fun j t ht => by
        rw [Tryz.params4] at ht
        have hm : t ∈ [22] := by simpa using Array.mem_of_getElem? ht
        have hall : ([22].all fun u => !Tryz.prog.wantsStandIn u) = true := by kernel_rfl
        exact (show Tryz.prog.wantsStandIn t = false by simpa using List.all_eq_true.1 hall t hm)⟩)
    j_goes
#print axioms proved
end Go.Proofs.YtinjdacijiohiaaGreatDoor.fmathAlls
