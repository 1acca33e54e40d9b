/- Contracts: Both, of a function that keeps a state. -/
import Derived.Test.YtdhdphgecoplbaaEach
import Derived.Test.YtdhdphgecoplbaaSpread
namespace Go.Proofs.Ytdhdphgecoplbaa
open Go.RowKit
/-- A function of two values that keeps a state: how often it was asked. -/
structure FSpec2 (fid : FuncId) (capt : Array Value) (t : Val → Val → Val) (base lo pa : Nat) (J : Nat → World → Prop) : Prop where
  ext : ∀ k W W', Ext W W' → J k W → J k W'
  keep : ∀ k W W', Keep (lo - 3) W W' → J k W → J k W'
  call : ∀ k x y W0 W, J k W0 → Ext W0 W → lo ≤ W0.heap.size → x.ok → y.ok → k < 4096 →
    Calls Try.prog fid (#[VV x.kind x.mant x.exp x.text x.truth x.fault, VV y.kind y.mant y.exp y.text y.truth y.fault] ++ capt) W fun e W' => e = .returned (VV (t x y).kind (t x y).mant (t x y).exp (t x y).text (t x y).truth (t x y).fault) ∧ (∀ W'', Aside W0.heap.size W.heap.size W' W'' → J (k + 1) W'') ∧ Still lo pa W0 W W'
  ok : ∀ x y, x.ok → y.ok → (t x y).ok
  far : ∀ k W (p : Addr) v, base ≤ p.block → p.block < lo → J k W → J k (W.setCell p v)
def bothV (t : Val → Val → Val) (oa ob : Option Val) : Val := match oa, ob with
  | some x, some y => oneV (t x y)
  | _, _ => badV 6
def bothN (oa ob : Option Val) : Nat := if oa.isSome && ob.isSome then 1 else 0
theorem func_nil2 (fid : FuncId) (capt : Array Value) (W : World) : (binOp .eql 58 (.func (.func fid) #[] capt) .nilFunc).run Try.prog W = .ok (.bool false) W := by
  first
  | kernel_rfl
  | rfl
theorem nil_nil2 (W : World) : (binOp .eql 58 .nilFunc .nilFunc).run Try.prog W = .ok (.bool true) W := by
  first
  | kernel_rfl
  | rfl
set_option maxHeartbeats 1000000 in
theorem both1_none (R C R' C' i j n cap n' cap' pA pB pf : Nat) (A B : Option Addr) (l l' : List Val) (W : World) (hA : ABox pA R C A n cap W) (hB : ABox pB R' C' B n' cap' W) (h : ArrIn W A n cap l) (h' : ArrIn W B n' cap' l') (hn : n = R * C) (hn' : n' = R' * C') (hN : n ≤ 4096) (hN' : n' ≤ 4096) (hno : (spreadO R C l i j = none ∨ spreadO R' C' l' i j = none)) :
    Calls Try.prog 65 #[.int .i64 i, .int .i64 j, .pointer (some ⟨pA, 0, none⟩), .pointer (some ⟨pB, 0, none⟩), .pointer (some ⟨pf, 0, none⟩)] W fun e W' => e = .returned (VV 4 0 0 ⟨#[]⟩ false 6) ∧ Ext W W' := by
  obtain ⟨p0, p1, p2, p3⟩ := hA
  obtain ⟨q0, q1, q2, q3⟩ := hB
  have hb6 : badF 6 = 6 := by decide
  have HN := Lib.hid hn
  have HN' := Lib.hid hn'
  clear hn hn'
  generalize hx : orZero (spreadO R C l i j) = x
  generalize hy : orZero (spreadO R' C' l' i j) = y
  cases hka : (spreadO R C l i j).isSome
  · go_enter Try.func65, Try.ntmps65
    have HX := Lib.hid (And.intro hx hka)
    have HY := Lib.hid hy
    clear hx hy hka
    generalize hkb : (spreadO R' C' l' i j).isSome = kb
    have HK := Lib.hid hkb
    clear hkb hno
    go_wp2_with fail
    refine (spread_c R C i j A n cap l _ (h.ext (by repeat (first | with_reducible exact Ext.refl _ | with_reducible exact hX | with_reducible exact ext_d _ _ _ _ | with_reducible exact ext_app _ _ _ _ _ | ((with_reducible refine ext_suffix ⟨_, ?_⟩); (try simp only [Array.append_assoc]); rfl) | with_reducible apply Ext.drew | with_reducible apply Ext.alloc | with_reducible apply Ext.more_))) HN.out hN x false HX.out.1 HX.out.2).mono ?_; rintro e w' ⟨rfl, hb⟩; obtain ⟨os1, d1, rfl⟩ := hb.more; clear hb
    go_wp2_with fail
    refine (spread_c R' C' i j B n' cap' l' _ (h'.ext (by repeat (first | with_reducible exact Ext.refl _ | with_reducible exact hX | with_reducible exact ext_d _ _ _ _ | with_reducible exact ext_app _ _ _ _ _ | ((with_reducible refine ext_suffix ⟨_, ?_⟩); (try simp only [Array.append_assoc]); rfl) | with_reducible apply Ext.drew | with_reducible apply Ext.alloc | with_reducible apply Ext.more_))) HN'.out hN' y kb HY.out HK.out).mono ?_; rintro e w' ⟨rfl, hb⟩; obtain ⟨os2, d2, rfl⟩ := hb.more; clear hb
    go_wp2_with (go_at_call 56; refine (bad_any _ _).mono ?_; rintro e w' ⟨rfl, hb⟩; obtain ⟨os3, d3, rfl⟩ := hb.more; clear hb)
    exact bodyPost_ret (v := VV 4 0 0 ⟨#[]⟩ false 6) (by simp [results, Try.results65, go_sem]; done) rfl ⟨rfl, by repeat (first | with_reducible exact Ext.refl _ | with_reducible exact hX | with_reducible exact ext_d _ _ _ _ | with_reducible exact ext_app _ _ _ _ _ | ((with_reducible refine ext_suffix ⟨_, ?_⟩); (try simp only [Array.append_assoc]); rfl) | with_reducible apply Ext.drew | with_reducible apply Ext.alloc | with_reducible apply Ext.more_)⟩
  · have hkb : (spreadO R' C' l' i j).isSome = false := by
      rcases hno with e | e
      · rw [e] at hka; cases hka
      · rw [e]; rfl
    go_enter Try.func65, Try.ntmps65
    have HX := Lib.hid (And.intro hx hka)
    have HY := Lib.hid (And.intro hy hkb)
    clear hx hy hka hkb hno
    go_wp2_with fail
    refine (spread_c R C i j A n cap l _ (h.ext (by repeat (first | with_reducible exact Ext.refl _ | with_reducible exact hX | with_reducible exact ext_d _ _ _ _ | with_reducible exact ext_app _ _ _ _ _ | ((with_reducible refine ext_suffix ⟨_, ?_⟩); (try simp only [Array.append_assoc]); rfl) | with_reducible apply Ext.drew | with_reducible apply Ext.alloc | with_reducible apply Ext.more_))) HN.out hN x true HX.out.1 HX.out.2).mono ?_; rintro e w' ⟨rfl, hb⟩; obtain ⟨os1, d1, rfl⟩ := hb.more; clear hb
    go_wp2_with fail
    refine (spread_c R' C' i j B n' cap' l' _ (h'.ext (by repeat (first | with_reducible exact Ext.refl _ | with_reducible exact hX | with_reducible exact ext_d _ _ _ _ | with_reducible exact ext_app _ _ _ _ _ | ((with_reducible refine ext_suffix ⟨_, ?_⟩); (try simp only [Array.append_assoc]); rfl) | with_reducible apply Ext.drew | with_reducible apply Ext.alloc | with_reducible apply Ext.more_))) HN'.out hN' y false HY.out.1 HY.out.2).mono ?_; rintro e w' ⟨rfl, hb⟩; obtain ⟨os2, d2, rfl⟩ := hb.more; clear hb
    go_wp2_with (go_at_call 56; refine (bad_any _ _).mono ?_; rintro e w' ⟨rfl, hb⟩; obtain ⟨os3, d3, rfl⟩ := hb.more; clear hb)
    exact bodyPost_ret (v := VV 4 0 0 ⟨#[]⟩ false 6) (by simp [results, Try.results65, go_sem]; done) rfl ⟨rfl, by repeat (first | with_reducible exact Ext.refl _ | with_reducible exact hX | with_reducible exact ext_d _ _ _ _ | with_reducible exact ext_app _ _ _ _ _ | ((with_reducible refine ext_suffix ⟨_, ?_⟩); (try simp only [Array.append_assoc]); rfl) | with_reducible apply Ext.drew | with_reducible apply Ext.alloc | with_reducible apply Ext.more_)⟩
set_option maxHeartbeats 1000000 in
theorem both1_nil (R C R' C' i j n cap n' cap' pA pB pf : Nat) (A B : Option Addr) (l l' : List Val) (W : World) (hA : ABox pA R C A n cap W) (hB : ABox pB R' C' B n' cap' W) (hf : W.cell? ⟨pf, 0, none⟩ = some .nilFunc) (h : ArrIn W A n cap l) (h' : ArrIn W B n' cap' l') (hn : n = R * C) (hn' : n' = R' * C') (hN : n ≤ 4096) (hN' : n' ≤ 4096) (ha : (spreadO R C l i j).isSome = true) (hb : (spreadO R' C' l' i j).isSome = true) :
    Calls Try.prog 65 #[.int .i64 i, .int .i64 j, .pointer (some ⟨pA, 0, none⟩), .pointer (some ⟨pB, 0, none⟩), .pointer (some ⟨pf, 0, none⟩)] W fun e W' => e = .returned (VV 4 0 0 ⟨#[]⟩ false 9) ∧ Ext W W' := by
  obtain ⟨p0, p1, p2, p3⟩ := hA
  obtain ⟨q0, q1, q2, q3⟩ := hB
  have z0 := lt_of_cell hf
  have hb9 : badF 9 = 9 := by decide
  have hnn := nil_nil2
  have HN := Lib.hid hn
  have HN' := Lib.hid hn'
  clear hn hn'
  generalize hx : orZero (spreadO R C l i j) = x
  generalize hy : orZero (spreadO R' C' l' i j) = y
  have HX := Lib.hid (And.intro hx ha)
  have HY := Lib.hid (And.intro hy hb)
  clear hx hy ha hb
  go_enter Try.func65, Try.ntmps65
  go_wp2_with fail
  refine (spread_c R C i j A n cap l _ (h.ext (by repeat (first | with_reducible exact Ext.refl _ | with_reducible exact hX | with_reducible exact ext_d _ _ _ _ | with_reducible exact ext_app _ _ _ _ _ | ((with_reducible refine ext_suffix ⟨_, ?_⟩); (try simp only [Array.append_assoc]); rfl) | with_reducible apply Ext.drew | with_reducible apply Ext.alloc | with_reducible apply Ext.more_))) HN.out hN x true HX.out.1 HX.out.2).mono ?_; rintro e w' ⟨rfl, hb⟩; obtain ⟨os1, d1, rfl⟩ := hb.more; clear hb
  go_wp2_with fail
  refine (spread_c R' C' i j B n' cap' l' _ (h'.ext (by repeat (first | with_reducible exact Ext.refl _ | with_reducible exact hX | with_reducible exact ext_d _ _ _ _ | with_reducible exact ext_app _ _ _ _ _ | ((with_reducible refine ext_suffix ⟨_, ?_⟩); (try simp only [Array.append_assoc]); rfl) | with_reducible apply Ext.drew | with_reducible apply Ext.alloc | with_reducible apply Ext.more_))) HN'.out hN' y true HY.out.1 HY.out.2).mono ?_; rintro e w' ⟨rfl, hb⟩; obtain ⟨os2, d2, rfl⟩ := hb.more; clear hb
  go_wp2_with (go_at_call 56; refine (bad_any _ _).mono ?_; rintro e w' ⟨rfl, hb⟩; obtain ⟨os3, d3, rfl⟩ := hb.more; clear hb)
  exact bodyPost_ret (v := VV 4 0 0 ⟨#[]⟩ false 9) (by simp [results, Try.results65, go_sem]; done) rfl ⟨rfl, by repeat (first | with_reducible exact Ext.refl _ | with_reducible exact hX | with_reducible exact ext_d _ _ _ _ | with_reducible exact ext_app _ _ _ _ _ | ((with_reducible refine ext_suffix ⟨_, ?_⟩); (try simp only [Array.append_assoc]); rfl) | with_reducible apply Ext.drew | with_reducible apply Ext.alloc | with_reducible apply Ext.more_)⟩
set_option maxHeartbeats 1000000 in
theorem both1_some (fid : FuncId) (capt : Array Value) (t : Val → Val → Val) (base s0 pa : Nat) (J : Nat → World → Prop) (spec : FSpec2 fid capt t base (s0 + 3) pa J) (hent : ∀ (args : Array Value) (W : World), (callFunc fid args).run Try.prog W = .ok (.enter fid args) W)
    (R C R' C' i j n cap n' cap' pA pB pf k : Nat) (A B : Option Addr) (l l' : List Val) (x y : Val) (W : World) (hA : ABox pA R C A n cap W) (hB : ABox pB R' C' B n' cap' W) (hf : W.cell? ⟨pf, 0, none⟩ = some (.func (.func fid) #[] capt)) (h : ArrIn W A n cap l) (h' : ArrIn W B n' cap' l') (hn : n = R * C) (hn' : n' = R' * C') (hN : n ≤ 4096) (hN' : n' ≤ 4096)
    (hJ : J k W) (hs : s0 + 3 ≤ W.heap.size) (hk : k < 4096) (ha : spreadO R C l i j = some x) (hb : spreadO R' C' l' i j = some y) (hxo : x.ok) (hyo : y.ok) :
    Calls Try.prog 65 #[.int .i64 i, .int .i64 j, .pointer (some ⟨pA, 0, none⟩), .pointer (some ⟨pB, 0, none⟩), .pointer (some ⟨pf, 0, none⟩)] W fun e W' => e = .returned (VV (oneV (t x y)).kind (oneV (t x y)).mant (oneV (t x y)).exp (oneV (t x y)).text (oneV (t x y)).truth (oneV (t x y)).fault) ∧ J (k + 1) W' ∧ Still (s0 + 3) pa W W W' := by
  obtain ⟨p0, p1, p2, p3⟩ := hA
  obtain ⟨q0, q1, q2, q3⟩ := hB
  have z0 := lt_of_cell hf
  have hnn := func_nil2 fid capt
  have HN := Lib.hid hn
  have HN' := Lib.hid hn'
  have HX : Hid (orZero (spreadO R C l i j) = x ∧ (spreadO R C l i j).isSome = true) := by rw [ha]; exact ⟨rfl, rfl⟩
  have HY : Hid (orZero (spreadO R' C' l' i j) = y ∧ (spreadO R' C' l' i j).isSome = true) := by rw [hb]; exact ⟨rfl, rfl⟩
  clear hn hn' ha hb
  have HC := Lib.hid (spec.call k x y W)
  have hok := spec.ok x y hxo hyo
  generalize hz : oneV (t x y) = z
  have HZ := Lib.hid hz
  clear hz
  go_enter Try.func65, Try.ntmps65
  go_wp2_with fail
  refine (spread_c R C i j A n cap l _ (h.ext (by repeat (first | with_reducible exact Ext.refl _ | with_reducible exact hX | with_reducible exact ext_d _ _ _ _ | with_reducible exact ext_app _ _ _ _ _ | ((with_reducible refine ext_suffix ⟨_, ?_⟩); (try simp only [Array.append_assoc]); rfl) | with_reducible apply Ext.drew | with_reducible apply Ext.alloc | with_reducible apply Ext.more_))) HN.out hN x true HX.out.1 HX.out.2).mono ?_; rintro e w' ⟨rfl, hb⟩; obtain ⟨os1, d1, rfl⟩ := hb.more; clear hb
  go_wp2_with fail
  refine (spread_c R' C' i j B n' cap' l' _ (h'.ext (by repeat (first | with_reducible exact Ext.refl _ | with_reducible exact hX | with_reducible exact ext_d _ _ _ _ | with_reducible exact ext_app _ _ _ _ _ | ((with_reducible refine ext_suffix ⟨_, ?_⟩); (try simp only [Array.append_assoc]); rfl) | with_reducible apply Ext.drew | with_reducible apply Ext.alloc | with_reducible apply Ext.more_))) HN'.out hN' y true HY.out.1 HY.out.2).mono ?_; rintro e w' ⟨rfl, hb⟩; obtain ⟨os2, d2, rfl⟩ := hb.more; clear hb
  go_wp2_with fail
  refine calls_world fun W5 hW5 => ?_
  have hX : Ext W W5 := by rw [hW5]; exact by repeat (first | with_reducible exact Ext.refl _ | with_reducible exact hX | with_reducible exact ext_d _ _ _ _ | with_reducible exact ext_app _ _ _ _ _ | ((with_reducible refine ext_suffix ⟨_, ?_⟩); (try simp only [Array.append_assoc]); rfl) | with_reducible apply Ext.drew | with_reducible apply Ext.alloc | with_reducible apply Ext.more_)
  have hr5 : W5.heap[W.heap.size]? = some (.cells #[.int .i64 0, .int .i64 0, .int .i64 0, .string ⟨#[]⟩, .bool false, .int .i64 0] 34) := by
    rw [hW5]
    exact ((by repeat (first | with_reducible exact Ext.refl _ | with_reducible exact hX | with_reducible exact ext_d _ _ _ _ | with_reducible exact ext_app _ _ _ _ _ | ((with_reducible refine ext_suffix ⟨_, ?_⟩); (try simp only [Array.append_assoc]); rfl) | with_reducible apply Ext.drew | with_reducible apply Ext.alloc | with_reducible apply Ext.more_) : Ext (W.alloc (.cells #[.int .i64 0, .int .i64 0, .int .i64 0, .string ⟨#[]⟩, .bool false, .int .i64 0] 34)) _).block (by simp)).trans (heap_alloc_new _ _)
  clear hW5
  have hz5 := lt_of_block hr5
  refine (HC.out W5 hJ hX hs hxo hyo hk).mono ?_
  rintro e w1' ⟨rfl, hJ1, hst⟩
  have hr : w1'.heap[W.heap.size]? = some (.cells #[.int .i64 0, .int .i64 0, .int .i64 0, .string ⟨#[]⟩, .bool false, .int .i64 0] 34) := (hst.block W.heap.size hz5 (.inr (Nat.le_refl _))).trans hr5
  have hz : W.heap.size < w1'.heap.size := lt_of_block hr
  have u0 := cell_of_row _ _ 0 _ _ _ hr
  have u1 := cell_of_row _ _ 1 _ _ _ hr
  have u2 := cell_of_row _ _ 2 _ _ _ hr
  have u3 := cell_of_row _ _ 3 _ _ _ hr
  have u4 := cell_of_row _ _ 4 _ _ _ hr
  have u5 := cell_of_row _ _ 5 _ _ _ hr
  have f0 := frozen_of_row _ _ 0 _ _ hr
  have f1 := frozen_of_row _ _ 1 _ _ hr
  have f2 := frozen_of_row _ _ 2 _ _ hr
  have f3 := frozen_of_row _ _ 3 _ _ hr
  have f4 := frozen_of_row _ _ 4 _ _ hr
  have f5 := frozen_of_row _ _ 5 _ _ hr
  clear hr hr5
  go_wp2_with fail
  refine (sound_any _ _ _ _ _ _ _ hok.2.1 hok.2.2.2.1 z HZ.out).mono ?_
  rintro e w' ⟨rfl, hb⟩
  obtain ⟨os5, d5, rfl⟩ := hb.more
  clear hb
  go_wp2
  refine bodyPost_ret (v := VV z.kind z.mant z.exp z.text z.truth z.fault) (by simp [results, Try.results65, go_sem, u0, u1, u2, u3, u4, u5, hz]; done) rfl ⟨rfl, ?_, ?_⟩
  · have h1 : W.heap.size ≤ W.heap.size := Nat.le_refl _
    exact hJ1 _ (((((((Aside.set _ _ h1 hz5).trans (Aside.set _ _ h1 hz5)).trans (Aside.set _ _ h1 hz5)).trans (Aside.set _ _ h1 hz5)).trans (Aside.set _ _ h1 hz5)).trans (Aside.set _ _ h1 hz5)).trans (Aside.of_ext (by repeat (first | with_reducible exact Ext.refl _ | with_reducible exact hX | with_reducible exact ext_d _ _ _ _ | with_reducible exact ext_app _ _ _ _ _ | ((with_reducible refine ext_suffix ⟨_, ?_⟩); (try simp only [Array.append_assoc]); rfl) | with_reducible apply Ext.drew | with_reducible apply Ext.alloc | with_reducible apply Ext.more_))))
  · have hq : W.heap.size ≤ W.heap.size := Nat.le_refl _
    exact (((((((Still.trans (Still.of_ext hX) hst).set _ hq).set _ hq).set _ hq).set _ hq).set _ hq).set _ hq).trans (Still.of_ext (by repeat (first | with_reducible exact Ext.refl _ | with_reducible exact hX | with_reducible exact ext_d _ _ _ _ | with_reducible exact ext_app _ _ _ _ _ | ((with_reducible refine ext_suffix ⟨_, ?_⟩); (try simp only [Array.append_assoc]); rfl) | with_reducible apply Ext.drew | with_reducible apply Ext.alloc | with_reducible apply Ext.more_)))
end Go.Proofs.Ytdhdphgecoplbaa
