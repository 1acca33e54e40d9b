/- Contracts: what an array has at a place of a common shape. -/
import Derived.Test.YtdhdphgecoplbaaRefD
namespace Go.Proofs.Ytdhdphgecoplbaa
open Go.RowKit
def spI (R i : Nat) : Nat := if R = 1 then 0 else i
def spreadO (R C : Nat) (l : List Val) (i j : Nat) : Option Val := if spI R i < R ∧ spI C j < C then some (getV l (spI R i * C + spI C j)) else none
def orZero (o : Option Val) : Val := o.getD Val.zero
/-- The value at a place of the array, by the place that counts there. -/
def atO (R C : Nat) (l : List Val) (si sj : Nat) : Option Val := if si < R ∧ sj < C then some (getV l (si * C + sj)) else none
theorem spread_eq (R C : Nat) (l : List Val) (i j : Nat) : spreadO R C l i j = atO R C l (spI R i) (spI C j) := rfl
set_option maxHeartbeats 800000 in
theorem spread_at (R C i j si sj : Nat) (A : Option Addr) (n cap : Nat) (l : List Val) (w : World) (h : ArrIn w A n cap l) (hn : n = R * C) (hN : n ≤ 4096) (hi : ((R : Int) == 1) = true ∧ si = 0 ∨ ((R : Int) == 1) = false ∧ si = i) (hj : ((C : Int) == 1) = true ∧ sj = 0 ∨ ((C : Int) == 1) = false ∧ sj = j) (x : Val) (k : Bool) (hx0 : orZero (atO R C l si sj) = x) (hk0 : (atO R C l si sj).isSome = k) :
    Calls Try.prog 66 #[AV R C (.slice A n cap), .int .i64 i, .int .i64 j] w fun e w' => e = .returned (.tuple #[VV x.kind x.mant x.exp x.text x.truth x.fault, .bool k]) ∧ Ext w w' := by
  by_cases hh : si < R ∧ sj < C
  · have hx : getV l (si * C + sj) = x := by rw [← hx0]; simp [atO, hh, orZero]
    have hk1 : k = true := by rw [← hk0]; simp [atO, hh]
    subst hk1
    clear hx0 hk0
    obtain ⟨hk, hk2⟩ := cell_prod R hh.1 hh.2 (by omega)
    have hB : hasB R C si sj = true := hasB_iff.2 (by omega)
    subst hn
    obtain ⟨b, off, rfl, hv, ho⟩ := h.get hk
    rw [hx] at hv
    clear hx ho hh
    have w1 : IntKind.i64.wrap ((si : Int) * (C : Int)) = ((si * C : Nat) : Int) := by rw [IntKind.wrap_i64, Int.natCast_mul]; omega
    have hbl : b < w.heap.size := hv.lt
    rcases hi with ⟨hi, rfl⟩ | ⟨hi, rfl⟩ <;> rcases hj with ⟨hj, rfl⟩ | ⟨hj, rfl⟩
    all_goals
      (try simp only [Int.natCast_zero] at hB w1)
      (try simp only [Nat.zero_mul, Nat.zero_add, Nat.add_zero] at hv hk w1)
      obtain ⟨v0, v1, v2, v3, v4, v5⟩ := hv
      generalize hrc : R * C = rc at *
      clear hrc
      (try (generalize hjc : si * C = jc at *; clear hjc))
      go_enter Try.func66, Try.ntmps66
      go_wp2_with (go_at_call 58; refine (has_any _ _ _ _ _ _ rfl).mono ?_; rintro e w' ⟨rfl, hb⟩; obtain ⟨os1, d1, rfl⟩ := hb.more; clear hb)
      exact bodyPost_ret (v := .tuple #[VV x.kind x.mant x.exp x.text x.truth x.fault, .bool true]) (by simp [results, Try.results66, go_sem]; done) rfl ⟨rfl, by repeat (first | with_reducible exact Ext.refl _ | with_reducible exact hX | with_reducible exact ext_d _ _ _ _ | with_reducible exact ext_app _ _ _ _ _ | ((with_reducible refine ext_suffix ⟨_, ?_⟩); (try simp only [Array.append_assoc]); rfl) | with_reducible apply Ext.drew | with_reducible apply Ext.alloc | with_reducible apply Ext.more_)⟩
  · have hB : hasB R C si sj = false := hasB_no (by omega)
    have hx : x = Val.zero := by rw [← hx0]; simp [atO, hh, orZero]
    have hk1 : k = false := by rw [← hk0]; simp [atO, hh]
    subst hk1 hx
    clear hx0 hk0 hh hn
    rcases hi with ⟨hi, rfl⟩ | ⟨hi, rfl⟩ <;> rcases hj with ⟨hj, rfl⟩ | ⟨hj, rfl⟩
    all_goals
      (try simp only [Int.natCast_zero] at hB)
      go_enter Try.func66, Try.ntmps66
      go_wp2_with (go_at_call 58; refine (has_any _ _ _ _ _ _ rfl).mono ?_; rintro e w' ⟨rfl, hb⟩; obtain ⟨os1, d1, rfl⟩ := hb.more; clear hb)
      exact bodyPost_ret (v := .tuple #[VV 0 0 0 ⟨#[]⟩ false 0, .bool false]) (by simp [results, Try.results66, go_sem]; done) rfl ⟨rfl, by repeat (first | with_reducible exact Ext.refl _ | with_reducible exact hX | with_reducible exact ext_d _ _ _ _ | with_reducible exact ext_app _ _ _ _ _ | ((with_reducible refine ext_suffix ⟨_, ?_⟩); (try simp only [Array.append_assoc]); rfl) | with_reducible apply Ext.drew | with_reducible apply Ext.alloc | with_reducible apply Ext.more_)⟩
set_option maxHeartbeats 800000 in
theorem refAt_at (R C i j si sj : Nat) (A : Option Addr) (n cap : Nat) (l : List Val) (w : World) (h : ArrIn w A n cap l) (hn : n = R * C) (hN : n ≤ 4096) (hi : ((R : Int) == 1) = true ∧ si = 0 ∨ ((R : Int) == 1) = false ∧ si = i) (hj : ((C : Int) == 1) = true ∧ sj = 0 ∨ ((C : Int) == 1) = false ∧ sj = j) (x : Val) (k : Bool) (hx0 : orZero (atO R C l si sj) = x) (hk0 : (atO R C l si sj).isSome = k) :
    Calls Try.prog 43 #[AV R C (.slice A n cap), .int .i64 i, .int .i64 j] w fun e w' => e = .returned (.tuple #[VV x.kind x.mant x.exp x.text x.truth x.fault, .bool k]) ∧ Ext w w' := by
  by_cases hh : si < R ∧ sj < C
  · have hx : getV l (si * C + sj) = x := by rw [← hx0]; simp [atO, hh, orZero]
    have hk1 : k = true := by rw [← hk0]; simp [atO, hh]
    subst hk1
    clear hx0 hk0
    obtain ⟨hk, hk2⟩ := cell_prod R hh.1 hh.2 (by omega)
    have hB : hasB R C si sj = true := hasB_iff.2 (by omega)
    have HN := Lib.hid hn
    have HX := Lib.hid hx
    clear hx hk hk2 hn
    rcases hi with ⟨hi, rfl⟩ | ⟨hi, rfl⟩ <;> rcases hj with ⟨hj, rfl⟩ | ⟨hj, rfl⟩
    all_goals
      (try simp only [Int.natCast_zero] at hB)
      go_enter Try.func43, Try.ntmps43
      go_wp2_with fail
      refine (refHas_any _ _ _ _ _ _ rfl).mono ?_; rintro e w' ⟨rfl, hb⟩; obtain ⟨os1, d1, rfl⟩ := hb.more; clear hb
      go_wp2_with fail
      refine (refGet_at R C _ _ A n cap l _ (h.ext (by repeat (first | with_reducible exact Ext.refl _ | with_reducible exact hX | with_reducible exact ext_d _ _ _ _ | with_reducible exact ext_app _ _ _ _ _ | ((with_reducible refine ext_suffix ⟨_, ?_⟩); (try simp only [Array.append_assoc]); rfl) | with_reducible apply Ext.drew | with_reducible apply Ext.alloc | with_reducible apply Ext.more_))) HN.out hN hh.1 hh.2 x HX.out _ _ (by simp) (by simp)).mono ?_
      rintro e w' ⟨rfl, hb⟩
      obtain ⟨os2, d2, rfl⟩ := hb.more
      clear hb
      go_wp2
      exact bodyPost_ret (v := .tuple #[VV x.kind x.mant x.exp x.text x.truth x.fault, .bool true]) (by simp [results, Try.results43, go_sem]; done) rfl ⟨rfl, by repeat (first | with_reducible exact Ext.refl _ | with_reducible exact hX | with_reducible exact ext_d _ _ _ _ | with_reducible exact ext_app _ _ _ _ _ | ((with_reducible refine ext_suffix ⟨_, ?_⟩); (try simp only [Array.append_assoc]); rfl) | with_reducible apply Ext.drew | with_reducible apply Ext.alloc | with_reducible apply Ext.more_)⟩
  · have hB : hasB R C si sj = false := hasB_no (by omega)
    have hx : x = Val.zero := by rw [← hx0]; simp [atO, hh, orZero]
    have hk1 : k = false := by rw [← hk0]; simp [atO, hh]
    subst hk1 hx
    clear hx0 hk0 hh hn
    rcases hi with ⟨hi, rfl⟩ | ⟨hi, rfl⟩ <;> rcases hj with ⟨hj, rfl⟩ | ⟨hj, rfl⟩
    all_goals
      (try simp only [Int.natCast_zero] at hB)
      go_enter Try.func43, Try.ntmps43
      go_wp2_with (go_at_call 30; refine (refHas_any _ _ _ _ _ _ rfl).mono ?_; rintro e w' ⟨rfl, hb⟩; obtain ⟨os1, d1, rfl⟩ := hb.more; clear hb)
      exact bodyPost_ret (v := .tuple #[VV 0 0 0 ⟨#[]⟩ false 0, .bool false]) (by simp [results, Try.results43, go_sem]; done) rfl ⟨rfl, by repeat (first | with_reducible exact Ext.refl _ | with_reducible exact hX | with_reducible exact ext_d _ _ _ _ | with_reducible exact ext_app _ _ _ _ _ | ((with_reducible refine ext_suffix ⟨_, ?_⟩); (try simp only [Array.append_assoc]); rfl) | with_reducible apply Ext.drew | with_reducible apply Ext.alloc | with_reducible apply Ext.more_)⟩
theorem spI_c (R i : Nat) : ((R : Int) == 1) = true ∧ spI R i = 0 ∨ ((R : Int) == 1) = false ∧ spI R i = i := by
  unfold spI
  by_cases h : R = 1
  · left; simp [h]
  · right; simp [h]; omega
theorem spread_c (R C i j : Nat) (A : Option Addr) (n cap : Nat) (l : List Val) (w : World) (h : ArrIn w A n cap l) (hn : n = R * C) (hN : n ≤ 4096) (x : Val) (k : Bool) (hx : orZero (spreadO R C l i j) = x) (hk : (spreadO R C l i j).isSome = k) :
    Calls Try.prog 66 #[AV R C (.slice A n cap), .int .i64 i, .int .i64 j] w fun e w' => e = .returned (.tuple #[VV x.kind x.mant x.exp x.text x.truth x.fault, .bool k]) ∧ Ext w w' :=
  spread_at R C i j _ _ A n cap l w h hn hN (spI_c R i) (spI_c C j) x k hx hk
theorem refAt_c (R C i j : Nat) (A : Option Addr) (n cap : Nat) (l : List Val) (w : World) (h : ArrIn w A n cap l) (hn : n = R * C) (hN : n ≤ 4096) (x : Val) (k : Bool) (hx : orZero (spreadO R C l i j) = x) (hk : (spreadO R C l i j).isSome = k) :
    Calls Try.prog 43 #[AV R C (.slice A n cap), .int .i64 i, .int .i64 j] w fun e w' => e = .returned (.tuple #[VV x.kind x.mant x.exp x.text x.truth x.fault, .bool k]) ∧ Ext w w' :=
  refAt_at R C i j _ _ A n cap l w h hn hN (spI_c R i) (spI_c C j) x k hx hk
theorem spread_ok {R C i j : Nat} {l : List Val} {x : Val} (hl : l.length = R * C) (ho : ∀ y ∈ l, y.ok) (h : spreadO R C l i j = some x) : x.ok := by
  unfold spreadO at h
  split at h
  · rename_i hh
    obtain rfl := Option.some.inj h
    refine getV_all ho ?_
    rw [hl]
    calc spI R i * C + spI C j < spI R i * C + C := by omega
      _ = (spI R i + 1) * C := by rw [Nat.succ_mul]
      _ ≤ R * C := Nat.mul_le_mul_right _ hh.1
  · cases h
end Go.Proofs.Ytdhdphgecoplbaa
