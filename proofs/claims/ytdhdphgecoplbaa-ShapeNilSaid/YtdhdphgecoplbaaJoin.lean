/- Contracts: Part, Beside, Below. -/
import Derived.Test.YtdhdphgecoplbaaAid
namespace Go.Proofs.Ytdhdphgecoplbaa
open Go.RowKit
/-- What an array has at a place, or the fault for nothing. -/
def orNoneV (R C : Nat) (l : List Val) (i j : Int) : Val := if hasB R C i j then getV l (i.toNat * C + j.toNat) else badV 6

theorem hasB_nat {R C : Nat} {i j : Int} (h : hasB R C i j = true) : ∃ a b : Nat, i = a ∧ j = b ∧ a < R ∧ b < C := by
  simp only [hasB, Bool.and_eq_true, decide_eq_true_eq] at h
  obtain ⟨⟨⟨h1, h2⟩, h3⟩, h4⟩ := h
  obtain ⟨a, rfl⟩ := Int.eq_ofNat_of_zero_le h1
  obtain ⟨b, rfl⟩ := Int.eq_ofNat_of_zero_le h3
  exact ⟨a, b, rfl, rfl, by omega, by omega⟩

set_option maxHeartbeats 400000 in
theorem orNone_any (R C : Nat) (A : Option Addr) (n cap : Nat) (l : List Val) (i j : Int) (w : World) (h : ArrIn w A n cap l) (hn : n = R * C) (hN : n ≤ 4096) (x : Val) (hx : orNoneV R C l i j = x) :
    Calls Try.prog 62 #[AV R C (.slice A n cap), .int .i64 i, .int .i64 j] w fun e w' => e = .returned (VV x.kind x.mant x.exp x.text x.truth x.fault) ∧ Ext w w' := by
  by_cases hh : hasB R C i j = true
  · obtain ⟨a, b, rfl, rfl, ha, hb⟩ := hasB_nat hh
    obtain ⟨hk, hk2⟩ := cell_prod R ha hb (by omega)
    have hx' : getV l (a * C + b) = x := by rw [← hx]; simp [orNoneV, hh]
    subst hn
    obtain ⟨b', off, rfl, hv, ho⟩ := h.get hk
    rw [hx'] at hv ho
    clear hx hx'
    obtain ⟨v0, v1, v2, v3, v4, v5⟩ := hv
    have hbl : b' < w.heap.size := lt_of_cell v0
    have w1 : IntKind.i64.wrap ((a : Int) * (C : Int)) = ((a * C : Nat) : Int) := by rw [IntKind.wrap_i64, Int.natCast_mul]; omega
    generalize hjc : a * C = jc at *
    generalize hrc : R * C = rc at *
    clear hjc hrc
    go_enter Try.func62, Try.ntmps62
    go_wp2_with (go_at_call 58; refine (has_any _ _ _ _ _ _ rfl).mono ?_; rintro e w' ⟨rfl, hb⟩; obtain ⟨os, d, rfl⟩ := hb.more)
    exact bodyPost_ret (v := VV x.kind x.mant x.exp x.text x.truth x.fault) (by simp [results, Try.results62, go_sem]; done) rfl ⟨rfl, by repeat (first | exact Ext.refl _ | exact ext_app _ _ _ _ _ | exact ext_app2 _ _ _ _ _ _ | apply Ext.drew | apply Ext.alloc | apply Ext.more_)⟩
  · have hh' : hasB R C i j = false := by simpa using hh
    have hx' : x = badV 6 := by rw [← hx]; simp [orNoneV, hh']
    have hb6 : badF 6 = 6 := by decide
    subst hx'
    clear hh hx hn
    go_enter Try.func62, Try.ntmps62
    go_wp2_with (first | (go_at_call 58; refine (has_any _ _ _ _ _ _ rfl).mono ?_; rintro e w' ⟨rfl, hb⟩; obtain ⟨os, d, rfl⟩ := hb.more) | (go_at_call 56; refine (bad_any _ _).mono ?_; rintro e w' ⟨rfl, hb⟩; obtain ⟨os, d, rfl⟩ := hb.more))
    exact bodyPost_ret (v := VV 4 0 0 ⟨#[]⟩ false 6) (by simp [results, Try.results62, go_sem]; done) rfl ⟨rfl, by repeat (first | exact Ext.refl _ | exact ext_app _ _ _ _ _ | exact ext_app2 _ _ _ _ _ _ | apply Ext.drew | apply Ext.alloc | apply Ext.more_)⟩

set_option maxHeartbeats 400000 in
theorem beside1_any (pa pb R C R' C' : Nat) (A B : Option Addr) (n cap n' cap' : Nat) (l l' : List Val) (i j : Nat) (W : World) (ha : ABox pa R C A n cap W) (hb : ABox pb R' C' B n' cap' W) (h : ArrIn W A n cap l) (h' : ArrIn W B n' cap' l')
    (hn : n = R * C) (hn' : n' = R' * C') (hN : n ≤ 4096) (hN' : n' ≤ 4096) (_hi : i ≤ 4096) (hj : j ≤ 10000) (hC : C ≤ 4096) (x : Val) (hx : (if j < C then orNoneV R C l i j else orNoneV R' C' l' i ((j : Int) - (C : Int))) = x) :
    Calls Try.prog 61 #[.int .i64 i, .int .i64 j, .pointer (some ⟨pa, 0, none⟩), .pointer (some ⟨pb, 0, none⟩)] W fun e W' => e = .returned (VV x.kind x.mant x.exp x.text x.truth x.fault) ∧ Ext W W' := by
  obtain ⟨p0, p1, p2, p3⟩ := ha
  obtain ⟨q0, q1, q2, q3⟩ := hb
  by_cases hjc : j < C
  · rw [if_pos hjc] at hx
    have HX := Lib.hid hx
    have HN := Lib.hid hn
    clear hx hn hn'
    go_enter Try.func61, Try.ntmps61
    go_wp2_with fail
    refine (orNone_any R C A n cap l i j _ (h.ext (by repeat (first | exact Ext.refl _ | exact ext_app _ _ _ _ _ | exact ext_app2 _ _ _ _ _ _ | apply Ext.drew | apply Ext.alloc | apply Ext.more_))) HN.out hN x HX.out).mono ?_
    rintro e w' ⟨rfl, hb⟩
    obtain ⟨os, d, rfl⟩ := hb.more
    go_wp2
    exact bodyPost_ret (v := VV x.kind x.mant x.exp x.text x.truth x.fault) (by simp [results, Try.results61, go_sem]; done) rfl ⟨rfl, by repeat (first | exact Ext.refl _ | exact ext_app _ _ _ _ _ | exact ext_app2 _ _ _ _ _ _ | apply Ext.drew | apply Ext.alloc | apply Ext.more_)⟩
  · rw [if_neg hjc] at hx
    have HX := Lib.hid hx
    have HN := Lib.hid hn'
    clear hx hn hn'
    go_enter Try.func61, Try.ntmps61
    go_wp2_with fail
    refine (orNone_any R' C' B n' cap' l' i ((j : Int) - (C : Int)) _ (h'.ext (by repeat (first | exact Ext.refl _ | exact ext_app _ _ _ _ _ | exact ext_app2 _ _ _ _ _ _ | apply Ext.drew | apply Ext.alloc | apply Ext.more_))) HN.out hN' x HX.out).mono ?_
    rintro e w' ⟨rfl, hb⟩
    obtain ⟨os, d, rfl⟩ := hb.more
    go_wp2
    exact bodyPost_ret (v := VV x.kind x.mant x.exp x.text x.truth x.fault) (by simp [results, Try.results61, go_sem]; done) rfl ⟨rfl, by repeat (first | exact Ext.refl _ | exact ext_app _ _ _ _ _ | exact ext_app2 _ _ _ _ _ _ | apply Ext.drew | apply Ext.alloc | apply Ext.more_)⟩

set_option maxHeartbeats 400000 in
theorem below1_any (pa pb R C R' C' : Nat) (A B : Option Addr) (n cap n' cap' : Nat) (l l' : List Val) (i j : Nat) (W : World) (ha : ABox pa R C A n cap W) (hb : ABox pb R' C' B n' cap' W) (h : ArrIn W A n cap l) (h' : ArrIn W B n' cap' l')
    (hn : n = R * C) (hn' : n' = R' * C') (hN : n ≤ 4096) (hN' : n' ≤ 4096) (hi : i ≤ 10000) (_hj : j ≤ 4096) (hR : R ≤ 4096) (x : Val) (hx : (if i < R then orNoneV R C l i j else orNoneV R' C' l' ((i : Int) - (R : Int)) j) = x) :
    Calls Try.prog 63 #[.int .i64 i, .int .i64 j, .pointer (some ⟨pa, 0, none⟩), .pointer (some ⟨pb, 0, none⟩)] W fun e W' => e = .returned (VV x.kind x.mant x.exp x.text x.truth x.fault) ∧ Ext W W' := by
  obtain ⟨p0, p1, p2, p3⟩ := ha
  obtain ⟨q0, q1, q2, q3⟩ := hb
  by_cases hjc : i < R
  · rw [if_pos hjc] at hx
    have HX := Lib.hid hx
    have HN := Lib.hid hn
    clear hx hn hn'
    go_enter Try.func63, Try.ntmps63
    go_wp2_with fail
    refine (orNone_any R C A n cap l i j _ (h.ext (by repeat (first | exact Ext.refl _ | exact ext_app _ _ _ _ _ | exact ext_app2 _ _ _ _ _ _ | apply Ext.drew | apply Ext.alloc | apply Ext.more_))) HN.out hN x HX.out).mono ?_
    rintro e w' ⟨rfl, hb⟩
    obtain ⟨os, d, rfl⟩ := hb.more
    go_wp2
    exact bodyPost_ret (v := VV x.kind x.mant x.exp x.text x.truth x.fault) (by simp [results, Try.results63, go_sem]; done) rfl ⟨rfl, by repeat (first | exact Ext.refl _ | exact ext_app _ _ _ _ _ | exact ext_app2 _ _ _ _ _ _ | apply Ext.drew | apply Ext.alloc | apply Ext.more_)⟩
  · rw [if_neg hjc] at hx
    have HX := Lib.hid hx
    have HN := Lib.hid hn'
    clear hx hn hn'
    go_enter Try.func63, Try.ntmps63
    go_wp2_with fail
    refine (orNone_any R' C' B n' cap' l' ((i : Int) - (R : Int)) j _ (h'.ext (by repeat (first | exact Ext.refl _ | exact ext_app _ _ _ _ _ | exact ext_app2 _ _ _ _ _ _ | apply Ext.drew | apply Ext.alloc | apply Ext.more_))) HN.out hN' x HX.out).mono ?_
    rintro e w' ⟨rfl, hb⟩
    obtain ⟨os, d, rfl⟩ := hb.more
    go_wp2
    exact bodyPost_ret (v := VV x.kind x.mant x.exp x.text x.truth x.fault) (by simp [results, Try.results63, go_sem]; done) rfl ⟨rfl, by repeat (first | exact Ext.refl _ | exact ext_app _ _ _ _ _ | exact ext_app2 _ _ _ _ _ _ | apply Ext.drew | apply Ext.alloc | apply Ext.more_)⟩
end Go.Proofs.Ytdhdphgecoplbaa
