/- A function of two values that counts how often it is asked: its contract. -/
import Derived.Test.YtdhdphgecoplbaaBothC
namespace Go.Proofs.Ytdhdphgecoplbaa
open Go.RowKit
def manyT (by_ : Int) (x y : Val) : Val := toldV (if by_ % 8 < 4 then x else y) by_
theorem manyT_ok (by_ : Int) (x y : Val) (hx : x.ok) (hy : y.ok) : (manyT by_ x y).ok := by
  unfold manyT; split
  · exact toldV_ok hx _
  · exact toldV_ok hy _
set_option maxHeartbeats 800000 in
theorem many1_any (pm pb k : Nat) (by_ : Int) (x y : Val) (W : World) (cm : W.heap[pm]? = some (.cells #[.int .i64 k] 3)) (cb : W.cell? ⟨pb, 0, none⟩ = some (.int .u8 by_)) (hne : pb ≠ pm) (hb0 : 0 ≤ by_) (hb1 : by_ ≤ 255) (hxo : x.ok) (hyo : y.ok) (hk : k < 4096) (z : Val) (hz : manyT by_ x y = z) :
    Calls Try.prog 42 #[VV x.kind x.mant x.exp x.text x.truth x.fault, VV y.kind y.mant y.exp y.text y.truth y.fault, .pointer (some ⟨pm, 0, none⟩), .pointer (some ⟨pb, 0, none⟩)] W fun e W' => e = .returned (VV z.kind z.mant z.exp z.text z.truth z.fault) ∧ Ext (W.setCell ⟨pm, 0, none⟩ (.int .i64 ((k : Int) + 1))) W' := by
  have c0 := cell_of_row _ _ 0 _ _ _ cm
  have f0 := frozen_of_row _ _ 0 _ _ cm
  have z0 := lt_of_block cm
  have z1 : pb < W.heap.size := lt_of_cell cb
  have hne' : pm ≠ pb := fun e => hne e.symm
  have cb2 : (W.setCell ⟨pm, 0, none⟩ (.int .i64 ((k : Int) + 1))).cell? ⟨pb, 0, none⟩ = some (.int .u8 by_) := by
    rw [World.cell?_of_block (a := ⟨pb, 0, none⟩) (Below.heap_setCell _ _ _ _ (by simp only; omega))]; exact cb
  by_cases h4 : by_ % 8 < 4
  · have e : toldV x by_ = z := by rw [← hz]; simp [manyT, h4]
    have HZ := Lib.hid e
    clear hz e
    go_enter Try.func42, Try.ntmps42
    go_wp2_with fail
    refine (told_any _ _ _ _ _ _ _ _ hxo.2.2.2.1 hb0 hb1 z HZ.out).mono ?_; rintro e w' ⟨rfl, hb⟩; obtain ⟨os1, d1, rfl⟩ := hb.more; clear hb
    go_wp2
    exact bodyPost_ret (v := VV z.kind z.mant z.exp z.text z.truth z.fault) (by simp [results, Try.results42, go_sem]; done) rfl ⟨rfl, by repeat (first | with_reducible exact Ext.refl _ | with_reducible exact hX | with_reducible exact ext_d _ _ _ _ | with_reducible exact ext_app _ _ _ _ _ | ((with_reducible refine ext_suffix ⟨_, ?_⟩); (try simp only [Array.append_assoc]); rfl) | with_reducible apply Ext.drew | with_reducible apply Ext.alloc | with_reducible apply Ext.more_)⟩
  · have e : toldV y by_ = z := by rw [← hz]; simp [manyT, h4]
    have HZ := Lib.hid e
    clear hz e
    go_enter Try.func42, Try.ntmps42
    go_wp2_with fail
    refine (told_any _ _ _ _ _ _ _ _ hyo.2.2.2.1 hb0 hb1 z HZ.out).mono ?_; rintro e w' ⟨rfl, hb⟩; obtain ⟨os1, d1, rfl⟩ := hb.more; clear hb
    go_wp2
    exact bodyPost_ret (v := VV z.kind z.mant z.exp z.text z.truth z.fault) (by simp [results, Try.results42, go_sem]; done) rfl ⟨rfl, by repeat (first | with_reducible exact Ext.refl _ | with_reducible exact hX | with_reducible exact ext_d _ _ _ _ | with_reducible exact ext_app _ _ _ _ _ | ((with_reducible refine ext_suffix ⟨_, ?_⟩); (try simp only [Array.append_assoc]); rfl) | with_reducible apply Ext.drew | with_reducible apply Ext.alloc | with_reducible apply Ext.more_)⟩
theorem many_spec (base s0 pm pb : Nat) (by_ : Int) (hbs : base ≤ s0) (hpb : pb < base) (hpm : pm < base) (hne : pb ≠ pm) (hb0 : 0 ≤ by_) (hb1 : by_ ≤ 255) :
    FSpec2 42 #[.pointer (some ⟨pm, 0, none⟩), .pointer (some ⟨pb, 0, none⟩)] (manyT by_) base (s0 + 3) pm (fun k W => W.heap[pm]? = some (.cells #[.int .i64 k] 3) ∧ W.cell? ⟨pb, 0, none⟩ = some (.int .u8 by_)) := by
  refine ⟨?_, ?_, ?_, manyT_ok by_, ?_⟩
  · rintro k W W' hx ⟨h, hc⟩
    exact ⟨by rw [hx.block (lt_of_block h)]; exact h, hx.cell_some hc⟩
  · rintro k W W' hk ⟨h, hc⟩
    rw [Nat.add_sub_cancel] at hk
    refine ⟨by rw [hk.block pm (lt_of_block h) (by omega) (by omega) (by omega)]; exact h, ?_⟩
    rw [World.cell?_of_block (a := ⟨pb, 0, none⟩) (hk.block pb (lt_of_cell hc) (by omega) (by omega) (by omega))]; exact hc
  · rintro k x y W0 W ⟨h, hc⟩ hx hlo hxo hyo hk
    have h1 : W.heap[pm]? = some (.cells #[.int .i64 k] 3) := by rw [hx.block (lt_of_block h)]; exact h
    have hc1 := hx.cell_some hc
    have hl := lt_of_block h1
    have hl0 := lt_of_block h
    have hlb : pb < W0.heap.size := lt_of_cell hc
    have hxs := hx.size
    refine (many1_any pm pb k by_ x y W h1 hc1 hne hb0 hb1 hxo hyo hk _ rfl).mono ?_
    rintro e W' ⟨he, hX⟩
    have hsz : (W.setCell ⟨pm, 0, none⟩ (.int .i64 ((k : Int) + 1))).heap.size = W.heap.size := by simp [World.setCell]
    have hXs := hX.size
    rw [hsz] at hXs
    refine ⟨he, fun W'' hk' => ⟨?_, ?_⟩, ⟨hX.os, hX.tape, hX.output, hXs, fun b hb hcond => ?_⟩⟩
    · rw [hk'.block pm (by omega) (by omega), hX.block (by rw [hsz]; exact hl)]
      simp [World.setCell, Array.getElem?_modify, h1]
    · rw [World.cell?_of_block (a := ⟨pb, 0, none⟩) ((hk'.block pb (by omega) (by omega)).trans ((hX.block (by rw [hsz]; omega)).trans (Below.heap_setCell _ _ _ _ (by simp only; omega))))]; exact hc1
    · rw [hX.block (by rw [hsz]; exact hb)]
      exact Below.heap_setCell _ _ _ _ (by simp only; omega)
  · rintro k W p v h1 h2 ⟨h, hc⟩
    refine ⟨by rw [Below.heap_setCell _ _ _ _ (by omega)]; exact h, ?_⟩
    rw [World.cell?_of_block (a := ⟨pb, 0, none⟩) (Below.heap_setCell _ _ _ _ (by simp only; omega))]; exact hc
end Go.Proofs.Ytdhdphgecoplbaa
