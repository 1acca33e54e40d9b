/- The law NumTimes, walked. -/
import Derived.Test.YtihfiegopnjeiaaDoorMul
import Derived.Test.YtihfiegopnjeiaaDoorRMul
namespace Go.Proofs.YtihfiegopnjeiaaDoor
open Go.RowKit NM
set_option maxRecDepth 100000 in
set_option maxHeartbeats 4000000 in
theorem numTimes_any (ma ea mb eb : Int) (w : World) (htab : Tab w) (hma : I64 ma) (hmb : I64 mb) :
    Calls Tryd.prog 6 #[NV ma ea, NV mb eb] w fun e w' => e = .returned (.bool true) ∧ Ext w w' := by
  have h1 := fun W hW => mul_any ma ea mb eb W hW hma hmb
  have h2 := fun W => rmul_any ma ea mb eb W hma hmb
  have h3 := fun W hW => div_any ma ea mb eb W hW hma hmb
  have h4 := fun W => rdiv_any ma ea mb eb W hma hmb
  generalize mulS ma ea mb eb = A at *
  generalize divS ma ea mb eb = B at *
  have HT := Lib.hid htab
  clear htab
  go_enter Tryd.func6, Tryd.ntmps6
  go_wp2_with (first | (go_at_call 14; (with_reducible refine (awake_any _ (HT.out.ext (by repeat (first | with_reducible exact Ext.refl _ | with_reducible apply Ext.drew | with_reducible apply Ext.alloc | with_reducible apply Ext.more_)))).mono ?_); rintro e w' ⟨rfl, hbx⟩; obtain ⟨osx, dx, rfl⟩ := hbx.more) | (go_at_call 29; (with_reducible refine (h1 _ (HT.out.ext (by repeat (first | with_reducible exact Ext.refl _ | with_reducible apply Ext.drew | with_reducible apply Ext.alloc | with_reducible apply Ext.more_)))).mono ?_); rintro e w' ⟨rfl, hbx⟩; obtain ⟨osx, dx, rfl⟩ := hbx.more) | (go_at_call 30; (with_reducible refine (h2 _).mono ?_); rintro e w' ⟨rfl, hbx⟩; obtain ⟨osx, dx, rfl⟩ := hbx.more) | (go_at_call 31; (with_reducible refine (h3 _ (HT.out.ext (by repeat (first | with_reducible exact Ext.refl _ | with_reducible apply Ext.drew | with_reducible apply Ext.alloc | with_reducible apply Ext.more_)))).mono ?_); rintro e w' ⟨rfl, hbx⟩; obtain ⟨osx, dx, rfl⟩ := hbx.more) | (go_at_call 32; (with_reducible refine (h4 _).mono ?_); rintro e w' ⟨rfl, hbx⟩; obtain ⟨osx, dx, rfl⟩ := hbx.more))
  go_ret
  exact ⟨rfl, by repeat (first | with_reducible exact Ext.refl _ | with_reducible apply Ext.drew | with_reducible apply Ext.alloc | with_reducible apply Ext.more_)⟩
end Go.Proofs.YtihfiegopnjeiaaDoor
