/- Contracts: told, may, and a function that notes what it is asked. -/
import Derived.Test.YtdhdphgecoplbaaDeep
namespace Go.Proofs.Ytdhdphgecoplbaa
open Go.RowKit
abbrev xT : ByteArray := ⟨#[120]⟩
def toldV (x : Val) (by_ : Int) : Val :=
  if by_ % 4 = 0 then x else if by_ % 4 = 1 then numV (wrap64 ((x.text.size : Int) + x.kind)) else if by_ % 4 = 2 then ⟨2, 0, 0, xT, false, 0⟩ else ⟨x.kind, 0, 0, xT, false, 77⟩
theorem I64_wrap (n : Int) : I64 (wrap64 n) := by
  unfold wrap64; constructor <;> omega
theorem xT_size : xT.size = 1 := rfl
theorem toldV_ok {x : Val} (h : x.ok) (by_ : Int) : (toldV x by_).ok := by
  unfold toldV
  split
  · exact h
  · split
    · exact numV_ok _ (I64_wrap _)
    · split
      · exact ⟨⟨by simp, by simp⟩, ⟨by simp, by simp⟩, ⟨by simp, by simp⟩, by simp [xT_size], ⟨by simp, by simp⟩⟩
      · exact ⟨h.1, ⟨by simp, by simp⟩, ⟨by simp, by simp⟩, by simp [xT_size], ⟨by simp, by simp⟩⟩
set_option maxHeartbeats 800000 in
theorem told_any (k m ex f : Int) (t : ByteArray) (b : Bool) (by_ : Int) (w : World) (_ht : t.size ≤ 9223372036854775807) (h0 : 0 ≤ by_) (h1 : by_ ≤ 255) (y : Val) (hy : toldV ⟨k, m, ex, t, b, f⟩ by_ = y) :
    Calls Try.prog 23 #[VV k m ex t b f, .int .u8 by_] w fun e w' => e = .returned (VV y.kind y.mant y.exp y.text y.truth y.fault) ∧ Ext w w' := by
  have hm : by_ % 4 = 0 ∨ by_ % 4 = 1 ∨ by_ % 4 = 2 ∨ by_ % 4 = 3 := by omega
  rcases hm with hm | hm | hm | hm
  · have e : y = ⟨k, m, ex, t, b, f⟩ := by rw [← hy]; simp [toldV, hm]
    subst e
    have q0 : (by_ % 4 == 0) = true := by simp [hm]
    clear hy hm
    go_enter Try.func23, Try.ntmps23
    go_wp2
    exact bodyPost_ret (v := VV k m ex t b f) (by simp [results, Try.results23, go_sem]; done) rfl ⟨rfl, by repeat (first | with_reducible exact Ext.refl _ | with_reducible exact hX | with_reducible exact ext_d _ _ _ _ | with_reducible exact ext_app _ _ _ _ _ | ((with_reducible refine ext_suffix ⟨_, ?_⟩); (try simp only [Array.append_assoc]); rfl) | with_reducible apply Ext.drew | with_reducible apply Ext.alloc | with_reducible apply Ext.more_)⟩
  · have e : y = numV (wrap64 ((t.size : Int) + k)) := by rw [← hy]; simp [toldV, hm]
    subst e
    have q0 : (by_ % 4 == 0) = false := by simp [hm]
    have q1 : (by_ % 4 == 1) = true := by simp [hm]
    clear hy hm
    go_enter Try.func23, Try.ntmps23
    go_wp2_with (go_at_call 46; refine (num_any _ _).mono ?_; rintro e w' ⟨rfl, hb⟩; obtain ⟨os1, d1, rfl⟩ := hb.more; clear hb)
    exact bodyPost_ret (v := VV 1 (wrap64 ((t.size : Int) + k)) 0 ⟨#[]⟩ false 0) (by simp [results, Try.results23, go_sem]; done) rfl ⟨rfl, by repeat (first | with_reducible exact Ext.refl _ | with_reducible exact hX | with_reducible exact ext_d _ _ _ _ | with_reducible exact ext_app _ _ _ _ _ | ((with_reducible refine ext_suffix ⟨_, ?_⟩); (try simp only [Array.append_assoc]); rfl) | with_reducible apply Ext.drew | with_reducible apply Ext.alloc | with_reducible apply Ext.more_)⟩
  · have e : y = ⟨2, 0, 0, xT, false, 0⟩ := by rw [← hy]; simp [toldV, hm]
    subst e
    have q0 : (by_ % 4 == 0) = false := by simp [hm]
    have q1 : (by_ % 4 == 1) = false := by simp [hm]
    have q2 : (by_ % 4 == 2) = true := by simp [hm]
    clear hy hm
    go_enter Try.func23, Try.ntmps23
    go_wp2
    exact bodyPost_ret (v := VV 2 0 0 xT false 0) (by simp [results, Try.results23, go_sem]; done) rfl ⟨rfl, by repeat (first | with_reducible exact Ext.refl _ | with_reducible exact hX | with_reducible exact ext_d _ _ _ _ | with_reducible exact ext_app _ _ _ _ _ | ((with_reducible refine ext_suffix ⟨_, ?_⟩); (try simp only [Array.append_assoc]); rfl) | with_reducible apply Ext.drew | with_reducible apply Ext.alloc | with_reducible apply Ext.more_)⟩
  · have e : y = ⟨k, 0, 0, xT, false, 77⟩ := by rw [← hy]; simp [toldV, hm]
    subst e
    have q0 : (by_ % 4 == 0) = false := by simp [hm]
    have q1 : (by_ % 4 == 1) = false := by simp [hm]
    have q2 : (by_ % 4 == 2) = false := by simp [hm]
    clear hy hm
    go_enter Try.func23, Try.ntmps23
    go_wp2
    exact bodyPost_ret (v := VV k 0 0 xT false 77) (by simp [results, Try.results23, go_sem]; done) rfl ⟨rfl, by repeat (first | with_reducible exact Ext.refl _ | with_reducible exact hX | with_reducible exact ext_d _ _ _ _ | with_reducible exact ext_app _ _ _ _ _ | ((with_reducible refine ext_suffix ⟨_, ?_⟩); (try simp only [Array.append_assoc]); rfl) | with_reducible apply Ext.drew | with_reducible apply Ext.alloc | with_reducible apply Ext.more_)⟩
set_option maxHeartbeats 400000 in
theorem may_any (k m ex f : Int) (t : ByteArray) (b : Bool) (w : World) (hm : I64 m) (ht : t.size ≤ 9223372036854775807) (y : Val) (hy : refOneV ⟨k, m, ex, t, b, f⟩ = y) :
    Calls Try.prog 25 #[VV k m ex t b f] w fun e w' => e = .returned (VV y.kind y.mant y.exp y.text y.truth y.fault) ∧ Ext w w' := by
  by_cases hr : refRight ⟨k, m, ex, t, b, f⟩ = true
  · have e : y = ⟨k, m, ex, t, b, f⟩ := by rw [← hy]; simp [refOneV, hr]
    subst e
    clear hy
    go_enter Try.func25, Try.ntmps25
    go_wp2_with (go_at_call 48; refine (refRight_any _ _ _ _ _ _ _ hm ht).mono ?_; rintro e w' ⟨rfl, hb⟩; obtain ⟨os1, d1, rfl⟩ := hb.more; clear hb)
    exact bodyPost_ret (v := VV k m ex t b f) (by simp [results, Try.results25, go_sem]; done) rfl ⟨rfl, by repeat (first | with_reducible exact Ext.refl _ | with_reducible exact hX | with_reducible exact ext_d _ _ _ _ | with_reducible exact ext_app _ _ _ _ _ | ((with_reducible refine ext_suffix ⟨_, ?_⟩); (try simp only [Array.append_assoc]); rfl) | with_reducible apply Ext.drew | with_reducible apply Ext.alloc | with_reducible apply Ext.more_)⟩
  · have hr' : refRight ⟨k, m, ex, t, b, f⟩ = false := by simpa using hr
    have e : y = bad9 := by rw [← hy]; simp [refOneV, hr']
    subst e
    clear hy hr
    go_enter Try.func25, Try.ntmps25
    go_wp2_with (go_at_call 48; refine (refRight_any _ _ _ _ _ _ _ hm ht).mono ?_; rintro e w' ⟨rfl, hb⟩; obtain ⟨os1, d1, rfl⟩ := hb.more; clear hb)
    exact bodyPost_ret (v := VV 4 0 0 ⟨#[]⟩ false 9) (by simp [results, Try.results25, go_sem]; done) rfl ⟨rfl, by repeat (first | with_reducible exact Ext.refl _ | with_reducible exact hX | with_reducible exact ext_d _ _ _ _ | with_reducible exact ext_app _ _ _ _ _ | ((with_reducible refine ext_suffix ⟨_, ?_⟩); (try simp only [Array.append_assoc]); rfl) | with_reducible apply Ext.drew | with_reducible apply Ext.alloc | with_reducible apply Ext.more_)⟩
end Go.Proofs.Ytdhdphgecoplbaa
