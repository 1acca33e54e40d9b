/- counterpanelaw01.NumTexts, walked. -/
import Derived.Test.YtihfiegopnjeiaaDoorRParse
import Derived.Test.YtihfiegopnjeiaaDoorRText
import Derived.Test.YtihfiegopnjeiaaDoorNAwake
namespace Go.Proofs.YtihfiegopnjeiaaDoor
set_option linter.unusedSimpArgs false
set_option linter.unusedVariables false
open Go.RowKit NM

theorem parS_R (s : ByteArray) : (if 255 < s.size then none else parR (bl s)) = parS s := by
  unfold parS
  by_cases h : 255 < s.size
  · rw [if_pos h, if_pos h]
  · rw [if_neg h, if_neg h, parse_law _ (by rw [bl_length]; omega)]
theorem textL_len {m e : Int} (h : Rt m e) : (textL m e).length ≤ 100 := by
  obtain ⟨b1, b2, b3⟩ := Rt_bd h
  have hn : (Lib.decDigits m.natAbs).length ≤ 15 := by
    have := decB_size m.natAbs
    have h1 : (decB m.natAbs).size = (Lib.decDigits m.natAbs).length := rfl
    have hnd : nd m.natAbs ≤ 15 := (nd_le_iff _ _).2 (by have : T 15 = 1000000000000000 := by decide
                                                         omega)
    omega
  unfold textL
  rw [List.length_append]
  have h1 : (if m < 0 then [(45 : UInt8)] else []).length ≤ 1 := by split <;> simp
  generalize (if m < 0 then [(45 : UInt8)] else []) = sg at *
  split
  · simp; omega
  · split
    · simp; omega
    · simp; omega
theorem textS_size {m e : Int} (h : Rt m e) : (textS m e).size ≤ 100 := by
  unfold textS
  rw [if_pos h]
  exact textL_len h
theorem back_textS {m e : Int} (h : Rt m e) : parS (textS m e) = some (m, e) := by
  unfold parS
  rw [if_neg (by have := textS_size h; omega)]
  have : bl (textS m e) = (textL m e).map (·.toNat) := by unfold textS; rw [if_pos h]; rfl
  rw [this]; exact text_back h
set_option maxRecDepth 100000 in
set_option maxHeartbeats 2000000 in
theorem numTexts_any (s : ByteArray) (m ex : Int) (w : World) (htab : Tab w) (hm : I64 m) :
    Calls Tryd.prog 4 #[.string s, NV m ex] w fun e w' => e = .returned (.bool true) ∧ Ext w w' := by
  have haw := fun W hW => awake_any W hW
  have HT := Lib.hid htab
  clear htab
  by_cases hs : 300 < s.size
  · go_enter Tryd.func4, Tryd.ntmps4
    go_wp2_with (go_at_call 14; (with_reducible refine (haw _ (HT.out.ext (by repeat (first | with_reducible exact Ext.refl _ | with_reducible apply Ext.drew | with_reducible apply Ext.alloc | with_reducible apply Ext.more_)))).mono ?_); rintro e w' ⟨rfl, hb⟩; obtain ⟨os, d, rfl⟩ := hb.more; clear hb)
    go_ret
    exact ⟨rfl, by repeat (first | with_reducible exact Ext.refl _ | with_reducible apply Ext.drew | with_reducible apply Ext.alloc | with_reducible apply Ext.more_)⟩
  · have hp1 := fun W => parse_any s W (by omega)
    have hp2 := fun W => rparse_any s W (by omega)
    rw [parS_R] at hp2
    generalize parS s = R at *
    have ht1 := fun W hW => text_any m ex W hW hm
    have ht2 := fun W => rtext_any m ex W hm
    by_cases h : Rt m ex
    · have r1 := rtB_yes h
      have hp3 := fun W => parse_any (textS m ex) W (by have := textS_size h; omega)
      rw [back_textS h] at hp3
      simp only [rnV, rm, re, Option.getD_some, Option.isSome_some] at hp3
      generalize textS m ex = tx at *
      clear h
      go_enter Tryd.func4, Tryd.ntmps4
      go_wp2_with (first | (go_at_call 14; (with_reducible refine (haw _ (HT.out.ext (by repeat (first | with_reducible exact Ext.refl _ | with_reducible apply Ext.drew | with_reducible apply Ext.alloc | with_reducible apply Ext.more_)))).mono ?_); rintro e w' ⟨rfl, hb⟩; obtain ⟨os, d, rfl⟩ := hb.more; clear hb) | (go_at_call 19; (with_reducible refine (hp1 _).mono ?_); rintro e w' ⟨rfl, hb⟩; obtain ⟨os, d, rfl⟩ := hb.more; clear hb) | (go_at_call 20; (with_reducible refine (hp2 _).mono ?_); rintro e w' ⟨rfl, hb⟩; obtain ⟨os, d, rfl⟩ := hb.more; clear hb) | (go_at_call 21; (with_reducible refine (ht1 _ (HT.out.ext (by repeat (first | with_reducible exact Ext.refl _ | with_reducible apply Ext.drew | with_reducible apply Ext.alloc | with_reducible apply Ext.more_)))).mono ?_); rintro e w' ⟨rfl, hb⟩; obtain ⟨os, d, rfl⟩ := hb.more; clear hb) | (go_at_call 22; (with_reducible refine (ht2 _).mono ?_); rintro e w' ⟨rfl, hb⟩; obtain ⟨os, d, rfl⟩ := hb.more; clear hb) | (go_at_call 18; (with_reducible refine (rright_rt _ _ _ (by assumption)).mono ?_); rintro e w' ⟨rfl, hbr⟩; obtain ⟨osr, dr, rfl⟩ := hbr.more; clear hbr) | (go_at_call 19; (with_reducible refine (hp3 _).mono ?_); rintro e w' ⟨rfl, hb⟩; obtain ⟨os, d, rfl⟩ := hb.more; clear hb))
      go_ret
      exact ⟨rfl, by repeat (first | with_reducible exact Ext.refl _ | with_reducible apply Ext.drew | with_reducible apply Ext.alloc | with_reducible apply Ext.more_)⟩
    · have r1 := rtB_no h
      have htx : textS m ex = ⟨#[]⟩ := by unfold textS; rw [if_neg h]
      rw [htx] at ht1 ht2
      clear h
      go_enter Tryd.func4, Tryd.ntmps4
      go_wp2_with (first | (go_at_call 14; (with_reducible refine (haw _ (HT.out.ext (by repeat (first | with_reducible exact Ext.refl _ | with_reducible apply Ext.drew | with_reducible apply Ext.alloc | with_reducible apply Ext.more_)))).mono ?_); rintro e w' ⟨rfl, hb⟩; obtain ⟨os, d, rfl⟩ := hb.more; clear hb) | (go_at_call 19; (with_reducible refine (hp1 _).mono ?_); rintro e w' ⟨rfl, hb⟩; obtain ⟨os, d, rfl⟩ := hb.more; clear hb) | (go_at_call 20; (with_reducible refine (hp2 _).mono ?_); rintro e w' ⟨rfl, hb⟩; obtain ⟨os, d, rfl⟩ := hb.more; clear hb) | (go_at_call 21; (with_reducible refine (ht1 _ (HT.out.ext (by repeat (first | with_reducible exact Ext.refl _ | with_reducible apply Ext.drew | with_reducible apply Ext.alloc | with_reducible apply Ext.more_)))).mono ?_); rintro e w' ⟨rfl, hb⟩; obtain ⟨os, d, rfl⟩ := hb.more; clear hb) | (go_at_call 22; (with_reducible refine (ht2 _).mono ?_); rintro e w' ⟨rfl, hb⟩; obtain ⟨os, d, rfl⟩ := hb.more; clear hb) | (go_at_call 18; (with_reducible refine (rright_rt _ _ _ (by assumption)).mono ?_); rintro e w' ⟨rfl, hbr⟩; obtain ⟨osr, dr, rfl⟩ := hbr.more; clear hbr))
      go_ret
      exact ⟨rfl, by repeat (first | with_reducible exact Ext.refl _ | with_reducible apply Ext.drew | with_reducible apply Ext.alloc | with_reducible apply Ext.more_)⟩
end Go.Proofs.YtihfiegopnjeiaaDoor
