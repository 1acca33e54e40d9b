/- Contracts: arrays of one value; whether two arrays are the same. -/
import Derived.Test.YtdhdphgecoplbaaArrB
namespace Go.Proofs.Ytdhdphgecoplbaa
open Go.RowKit

theorem SlV.one {w : World} {n base : Nat} {k m e : Int} {t : ByteArray} {b : Bool} {f : Int} {ty : TypeId} (hn : n = w.heap.size) (hb : base ≤ n) :
    SlV base (w.alloc (.cells #[.int .i64 k, .int .i64 m, .int .i64 e, .string t, .bool b, .int .i64 f] ty)) (some ⟨n, 0, none⟩) [⟨k, m, e, t, b, f⟩] := fun j u hu => by
  refine ⟨n, 0, rfl, hb, ?_⟩
  rw [World.cell?_alloc_at _ _ _ _ hn, Nat.zero_add, ← hu]
  simp only [vcells, Val.cells, List.flatMap_cons, List.flatMap_nil, List.append_nil]
  simp

/-- What a call hands back: an array in new memory. -/
def ArrO (base : Nat) (w' : World) (e : Ending) (r c : Int) (l : List Val) : Prop :=
  ∃ A cap, e = .returned (AV r c (.slice A l.length cap)) ∧ SlV base w' A l ∧ l.length ≤ cap
def bad9 : Val := ⟨4, 0, 0, ⟨#[]⟩, false, 9⟩
def badV (f : Int) : Val := ⟨4, 0, 0, ⟨#[]⟩, false, f⟩

set_option maxHeartbeats 400000 in
theorem refBad_any (f : Int) (w : World) :
    Calls Try.prog 24 #[.int .i64 f] w fun e w' => ArrO w.heap.size w' e 1 1 [badV f] ∧ Ext w w' := by
  go_enter Try.func24, Try.ntmps24
  go_wp2
  refine bodyPost_ret (v := AV 1 1 (.slice (some ⟨w.heap.size + 1, 0, none⟩) 1 1)) (by simp [results, Try.results24, go_sem]; done) rfl ⟨⟨_, _, rfl, ?_, Nat.le_refl _⟩, by repeat (first | exact Ext.refl _ | apply Ext.drew | apply Ext.alloc | apply Ext.more_)⟩
  exact SlV.one (by simp) (by simp)

set_option maxHeartbeats 400000 in
theorem one_right (k m ex f : Int) (t : ByteArray) (b : Bool) (w : World) (hm : I64 m) (ht : t.size ≤ 9223372036854775807) (hr : valRight ⟨k, m, ex, t, b, f⟩ = true) :
    Calls Try.prog 18 #[VV k m ex t b f] w fun e w' => ArrO w.heap.size w' e 1 1 [⟨k, m, ex, t, b, f⟩] ∧ Ext w w' := by
  go_enter Try.func18, Try.ntmps18
  go_wp2_with (go_at_call 50; refine (valRight_any _ _ _ _ _ _ _ hm ht).mono ?_; rintro e w' ⟨rfl, hb⟩; obtain ⟨os, d, rfl⟩ := hb.more)
  refine bodyPost_ret (v := AV 1 1 (.slice (some ⟨w.heap.size + 1 + 1 + os.size, 0, none⟩) 1 1)) (by simp [results, Try.results18, go_sem]; done) rfl ⟨⟨_, _, rfl, ?_, Nat.le_refl _⟩, by repeat (first | exact Ext.refl _ | apply Ext.drew | apply Ext.alloc | apply Ext.more_)⟩
  exact SlV.one (by simp) (by omega)

set_option maxHeartbeats 400000 in
theorem broken_any (w : World) :
    Calls Try.prog 51 #[] w fun e w' => ArrO w.heap.size w' e 1 1 [bad9] ∧ Ext w w' := by
  have hb9 : badF 9 = 9 := by decide
  have hr : valRight ⟨4, 0, 0, ⟨#[]⟩, false, 9⟩ = true := by decide
  have hm0 : I64 0 := ⟨by omega, by omega⟩
  have ht0 : (⟨#[]⟩ : ByteArray).size ≤ 9223372036854775807 := by decide
  go_enter Try.func51, Try.ntmps51
  go_wp2_with (first | (go_at_call 56; refine (bad_any _ _).mono ?_; rintro e w' ⟨rfl, hb⟩; obtain ⟨os, d, rfl⟩ := hb.more) | (go_at_call 18; refine (one_right 4 0 0 9 ⟨#[]⟩ false _ hm0 ht0 hr).mono ?_; rintro e w' ⟨⟨A, cap, rfl, hs, hcap⟩, hb⟩; obtain ⟨os, d, rfl⟩ := hb.more))
  exact bodyPost_ret (v := AV 1 1 (.slice A 1 cap)) (by simp [results, Try.results51, go_sem]; done) rfl ⟨⟨_, _, rfl, (by (try simp only [more_more] at hs); (try simp only [drew_more] at hs); (try simp only [more_drew] at hs); exact Rd.swap hs (by first | (simp; done) | (simp; omega) | omega) (by first | (simp; done) | (simp; omega) | omega) (by first | (simp; done) | (simp; omega) | omega)), hcap⟩, by repeat (first | exact Ext.refl _ | apply Ext.drew | apply Ext.alloc | apply Ext.more_)⟩

theorem valRight_bad (f : Int) (h : 1 ≤ f ∧ f ≤ 9) : valRight (badV f) = true := by
  have hb : badF f = f := by unfold badF; rw [if_neg (by omega)]
  simp [valRight, badV, hb, eqV]

set_option maxHeartbeats 400000 in
theorem tooGreat_any (w : World) :
    Calls Try.prog 64 #[] w fun e w' => ArrO w.heap.size w' e 1 1 [badV 5] ∧ Ext w w' := by
  have hb9 : badF 5 = 5 := by decide
  have hr : valRight ⟨4, 0, 0, ⟨#[]⟩, false, 5⟩ = true := by decide
  have hm0 : I64 0 := ⟨by omega, by omega⟩
  have ht0 : (⟨#[]⟩ : ByteArray).size ≤ 9223372036854775807 := by decide
  go_enter Try.func64, Try.ntmps64
  go_wp2_with (first | (go_at_call 56; refine (bad_any _ _).mono ?_; rintro e w' ⟨rfl, hb⟩; obtain ⟨os, d, rfl⟩ := hb.more) | (go_at_call 18; refine (one_right 4 0 0 5 ⟨#[]⟩ false _ hm0 ht0 hr).mono ?_; rintro e w' ⟨⟨A, cap, rfl, hs, hcap⟩, hb⟩; obtain ⟨os, d, rfl⟩ := hb.more))
  exact bodyPost_ret (v := AV 1 1 (.slice A 1 cap)) (by simp [results, Try.results64, go_sem]; done) rfl ⟨⟨_, _, rfl, (by (try simp only [more_more] at hs); (try simp only [drew_more] at hs); (try simp only [more_drew] at hs); exact Rd.swap hs (by first | (simp; done) | (simp; omega) | omega) (by first | (simp; done) | (simp; omega) | omega) (by first | (simp; done) | (simp; omega) | omega)), hcap⟩, by repeat (first | exact Ext.refl _ | apply Ext.drew | apply Ext.alloc | apply Ext.more_)⟩

def oneV (x : Val) : Val := if valRight x then x else bad9
set_option maxHeartbeats 400000 in
theorem one_any (k m ex f : Int) (t : ByteArray) (b : Bool) (w : World) (hm : I64 m) (ht : t.size ≤ 9223372036854775807) :
    Calls Try.prog 18 #[VV k m ex t b f] w fun e w' => ArrO w.heap.size w' e 1 1 [oneV ⟨k, m, ex, t, b, f⟩] ∧ Ext w w' := by
  by_cases hr : valRight ⟨k, m, ex, t, b, f⟩ = true
  · simpa [oneV, hr] using one_right k m ex f t b w hm ht hr
  · have e : oneV ⟨k, m, ex, t, b, f⟩ = bad9 := by simp [oneV, hr]
    have hr' : valRight ⟨k, m, ex, t, b, f⟩ = false := by simpa using hr
    rw [e]; clear e hr
    go_enter Try.func18, Try.ntmps18
    go_wp2_with (first | (go_at_call 50; refine (valRight_any _ _ _ _ _ _ _ hm ht).mono ?_; rintro e w' ⟨rfl, hb⟩; obtain ⟨os, d, rfl⟩ := hb.more) | (go_at_call 51; refine (broken_any _).mono ?_; rintro e w' ⟨⟨A, cap, rfl, hs, hcap⟩, hb⟩; obtain ⟨os, d, rfl⟩ := hb.more))
    exact bodyPost_ret (v := AV 1 1 (.slice A 1 cap)) (by simp [results, Try.results18, go_sem]; done) rfl ⟨⟨_, _, rfl, (by (try simp only [more_more] at hs); (try simp only [drew_more] at hs); (try simp only [more_drew] at hs); exact Rd.swap hs (by first | (simp; done) | (simp; omega) | omega) (by first | (simp; done) | (simp; omega) | omega) (by first | (simp; done) | (simp; omega) | omega)), hcap⟩, by repeat (first | exact Ext.refl _ | apply Ext.drew | apply Ext.alloc | apply Ext.more_)⟩

def refOneV (x : Val) : Val := if refRight x then x else bad9
set_option maxHeartbeats 400000 in
theorem refOne_any (k m ex f : Int) (t : ByteArray) (b : Bool) (w : World) (hm : I64 m) (ht : t.size ≤ 9223372036854775807) :
    Calls Try.prog 19 #[VV k m ex t b f] w fun e w' => ArrO w.heap.size w' e 1 1 [refOneV ⟨k, m, ex, t, b, f⟩] ∧ Ext w w' := by
  by_cases hr : refRight ⟨k, m, ex, t, b, f⟩ = true
  · have e : refOneV ⟨k, m, ex, t, b, f⟩ = ⟨k, m, ex, t, b, f⟩ := by simp [refOneV, hr]
    rw [e]; clear e
    go_enter Try.func19, Try.ntmps19
    go_wp2_with (go_at_call 48; refine (refRight_any _ _ _ _ _ _ _ hm ht).mono ?_; rintro e w' ⟨rfl, hb⟩; obtain ⟨os, d, rfl⟩ := hb.more)
    refine bodyPost_ret (v := AV 1 1 (.slice (some ⟨w.heap.size + 1 + 1 + os.size, 0, none⟩) 1 1)) (by simp [results, Try.results19, go_sem]; done) rfl ⟨⟨_, _, rfl, ?_, Nat.le_refl _⟩, by repeat (first | exact Ext.refl _ | apply Ext.drew | apply Ext.alloc | apply Ext.more_)⟩
    exact SlV.one (by simp) (by omega)
  · have e : refOneV ⟨k, m, ex, t, b, f⟩ = bad9 := by simp [refOneV, hr]
    have hr' : refRight ⟨k, m, ex, t, b, f⟩ = false := by simpa using hr
    rw [e]; clear e hr
    go_enter Try.func19, Try.ntmps19
    go_wp2_with (first | (go_at_call 48; refine (refRight_any _ _ _ _ _ _ _ hm ht).mono ?_; rintro e w' ⟨rfl, hb⟩; obtain ⟨os, d, rfl⟩ := hb.more) | (go_at_call 24; refine (refBad_any _ _).mono ?_; rintro e w' ⟨⟨A, cap, rfl, hs, hcap⟩, hb⟩; obtain ⟨os, d, rfl⟩ := hb.more))
    exact bodyPost_ret (v := AV 1 1 (.slice A 1 cap)) (by simp [results, Try.results19, go_sem]; done) rfl ⟨⟨_, _, rfl, (by (try simp only [more_more] at hs); (try simp only [drew_more] at hs); (try simp only [more_drew] at hs); exact Rd.swap hs (by first | (simp; done) | (simp; omega) | omega) (by first | (simp; done) | (simp; omega) | omega) (by first | (simp; done) | (simp; omega) | omega)), hcap⟩, by repeat (first | exact Ext.refl _ | apply Ext.drew | apply Ext.alloc | apply Ext.more_)⟩

def numV (n : Int) : Val := ⟨1, n, 0, ⟨#[]⟩, false, 0⟩
set_option maxHeartbeats 400000 in
theorem num_any (n : Int) (w : World) :
    Calls Try.prog 46 #[.int .i64 n] w fun e w' => e = .returned (VV 1 n 0 ⟨#[]⟩ false 0) ∧ Ext w w' := by
  by_cases h : n = 0
  · subst h
    go_enter Try.func46, Try.ntmps46
    go_wp2
    exact bodyPost_ret (v := VV 1 0 0 ⟨#[]⟩ false 0) (by simp [results, Try.results46, go_sem]; done) rfl ⟨rfl, by repeat (first | exact Ext.refl _ | apply Ext.drew | apply Ext.alloc | apply Ext.more_)⟩
  · have h' : (n == 0) = false := by simp [h]
    clear h
    go_enter Try.func46, Try.ntmps46
    go_wp2
    exact bodyPost_ret (v := VV 1 n 0 ⟨#[]⟩ false 0) (by simp [results, Try.results46, go_sem]; done) rfl ⟨rfl, by repeat (first | exact Ext.refl _ | apply Ext.drew | apply Ext.alloc | apply Ext.more_)⟩

set_option maxHeartbeats 400000 in
theorem sound_any (k m ex f : Int) (t : ByteArray) (b : Bool) (w : World) (hm : I64 m) (ht : t.size ≤ 9223372036854775807) (R : Val) (hR : oneV ⟨k, m, ex, t, b, f⟩ = R) :
    Calls Try.prog 57 #[VV k m ex t b f] w fun e w' => e = .returned (VV R.kind R.mant R.exp R.text R.truth R.fault) ∧ Ext w w' := by
  subst hR
  by_cases hr : valRight ⟨k, m, ex, t, b, f⟩ = true
  · have e : oneV ⟨k, m, ex, t, b, f⟩ = ⟨k, m, ex, t, b, f⟩ := by simp [oneV, hr]
    rw [e]; clear e
    go_enter Try.func57, Try.ntmps57
    go_wp2_with (go_at_call 50; refine (valRight_any _ _ _ _ _ _ _ hm ht).mono ?_; rintro e w' ⟨rfl, hb⟩; obtain ⟨os, d, rfl⟩ := hb.more)
    exact bodyPost_ret (v := VV k m ex t b f) (by simp [results, Try.results57, go_sem]; done) rfl ⟨rfl, by repeat (first | exact Ext.refl _ | apply Ext.drew | apply Ext.alloc | apply Ext.more_)⟩
  · have e : oneV ⟨k, m, ex, t, b, f⟩ = bad9 := by simp [oneV, hr]
    have hr' : valRight ⟨k, m, ex, t, b, f⟩ = false := by simpa using hr
    rw [e]; clear e hr
    have hb9 : badF 9 = 9 := by decide
    go_enter Try.func57, Try.ntmps57
    go_wp2_with (first | (go_at_call 50; refine (valRight_any _ _ _ _ _ _ _ hm ht).mono ?_; rintro e w' ⟨rfl, hb⟩; obtain ⟨os, d, rfl⟩ := hb.more) | (go_at_call 56; refine (bad_any _ _).mono ?_; rintro e w' ⟨rfl, hb⟩; obtain ⟨os, d, rfl⟩ := hb.more))
    exact bodyPost_ret (v := VV 4 0 0 ⟨#[]⟩ false 9) (by simp [results, Try.results57, go_sem]; done) rfl ⟨rfl, by repeat (first | exact Ext.refl _ | apply Ext.drew | apply Ext.alloc | apply Ext.more_)⟩
end Go.Proofs.Ytdhdphgecoplbaa
