/- Contracts: a copy; Make; awake. -/
import Derived.Test.YtdhdphgecoplbaaArrD
namespace Go.Proofs.Ytdhdphgecoplbaa
open Go.RowKit
theorem info_val : (Try.prog.info? 34).map (fun i => (i.zero, i.size, i.bytes)) = some (some (VV 0 0 0 ⟨#[]⟩ false 0), 6, 56) := by kernel_rfl

set_option maxHeartbeats 400000 in
theorem clone_any (A : Option Addr) (n cap : Nat) (l : List Val) (w : World) (h : ArrIn w A n cap l) (hn : 0 < n) (hn' : n ≤ 65536) :
    Calls Try.prog 47 #[.slice A n cap] w fun e w' => ∃ A' c', e = .returned (.slice A' n c') ∧ SlV w.heap.size w' A' l ∧ n ≤ c' ∧ Ext w w' := by
  obtain ⟨i0, hi, hz0, hz1, hz2⟩ := info_parts info_val
  obtain ⟨x, b, off, hx, hxo, rfl, hv⟩ := h.at hn
  have hnil := fun (w : World) (a : Option Addr) (n c n' c' : Nat) => Lib.run_eql_slice_nil (P := Try.prog) w 22 34 a n c n' c' Try.underlying22
  have hvl : (vcells l).length = n * 6 := by rw [vcells_length, h.len]
  have HV := Lib.hid hvl
  clear hvl
  go_enter Try.func47, Try.ntmps47
  go_wp2_with (at_builtin; refine wpList_append_full _ rfl _ _ _ rfl 34 i0 (VV 0 0 0 ⟨#[]⟩ false 0) 6 56 Try.underlying22 hi hz0 hz1 hz2 rfl (by decide) w.heap.size _ 0 [] rfl (fun _ => rfl) rfl (Rd.nil _ _ _) (by simp) (some ⟨b, off, none⟩) n cap (vcells l) rfl HV.out (Rd.ext h.rd (by repeat (first | exact Ext.refl _ | apply Ext.alloc))) vcells_one (by simp [maxLen]; omega) (by omega) ?_; intro A' c' os d hr _ hc')
  go_ret
  exact ⟨A', c', rfl, (by simp only [List.nil_append] at hr; exact hr), by omega, by repeat (first | exact Ext.refl _ | apply Ext.drew | apply Ext.alloc | apply Ext.more_)⟩

set_option maxHeartbeats 400000 in
theorem make_yes (r c : Int) (A : Option Addr) (n cap : Nat) (l : List Val) (w : World) (h : ArrIn w A n cap l) (hr : rightA r c l = true) :
    Calls Try.prog 14 #[.int .i64 r, .int .i64 c, .slice A n cap] w fun e w' => ∃ A' c', e = .returned (.tuple #[AV r c (.slice A' n c'), .bool true]) ∧ SlV w.heap.size w' A' l ∧ n ≤ c' ∧ Ext w w' := by
  have hX : ∀ o o' : Obj, Ext w ((w.alloc o).alloc o') := fun o o' => by repeat (first | exact Ext.refl _ | apply Ext.drew | apply Ext.alloc | apply Ext.more_)
  have hrr := id hr
  simp only [rightA, Bool.and_eq_true, decide_eq_true_eq] at hrr
  obtain ⟨⟨hf, hn⟩, _⟩ := hrr
  obtain ⟨f1, f2, f3, f4, f5, f6⟩ := fits_mul hf
  have hl := h.len
  have hn1 : 0 < n := by omega
  have hn2 : n ≤ 65536 := by omega
  clear hf hn f1 f2 f3 f4 f5 f6 hl
  go_enter Try.func14, Try.ntmps14
  go_wp2_with (first | (go_at_call 16; refine (right_any _ _ _ _ _ _ _ (h.ext (hX _ _))).mono ?_; rintro e w' ⟨rfl, hb⟩; obtain ⟨os, d, rfl⟩ := hb.more) | (go_at_call 47; refine (clone_any _ _ _ _ _ (h.ext (by repeat (first | exact hX _ _ | apply Ext.more_))) hn1 hn2).mono ?_; rintro e w' ⟨A', c', rfl, hs, hc', hb⟩; obtain ⟨os', d', rfl⟩ := hb.more))
  exact bodyPost_ret (v := .tuple #[AV r c (.slice A' n c'), .bool true]) (by simp [results, Try.results14, go_sem]; done) rfl ⟨A', c', rfl, (by (try simp only [more_more] at hs); (try simp only [drew_more] at hs); (try simp only [more_drew] at hs); exact Rd.swap hs (by first | (simp; done) | (simp; omega) | omega) (by first | (simp; done) | (simp; omega) | omega) (by first | (simp; done) | (simp; omega) | omega)), hc', by repeat (first | exact Ext.refl _ | apply Ext.drew | apply Ext.alloc | apply Ext.more_)⟩

set_option maxHeartbeats 400000 in
theorem make_no (r c : Int) (A : Option Addr) (n cap : Nat) (l : List Val) (w : World) (h : ArrIn w A n cap l) (hr : rightA r c l = false) :
    Calls Try.prog 14 #[.int .i64 r, .int .i64 c, .slice A n cap] w fun e w' => e = .returned (.tuple #[AV 0 0 (.slice none 0 0), .bool false]) ∧ Ext w w' := by
  have hX : ∀ o o' : Obj, Ext w ((w.alloc o).alloc o') := fun o o' => by repeat (first | exact Ext.refl _ | apply Ext.drew | apply Ext.alloc | apply Ext.more_)
  go_enter Try.func14, Try.ntmps14
  go_wp2_with (go_at_call 16; refine (right_any _ _ _ _ _ _ _ (h.ext (hX _ _))).mono ?_; rintro e w' ⟨rfl, hb⟩; obtain ⟨os, d, rfl⟩ := hb.more)
  exact bodyPost_ret (v := .tuple #[AV 0 0 (.slice none 0 0), .bool false]) (by simp [results, Try.results14, go_sem]; done) rfl ⟨rfl, by repeat (first | exact Ext.refl _ | apply Ext.drew | apply Ext.alloc | apply Ext.more_)⟩
end Go.Proofs.Ytdhdphgecoplbaa
