/- Contracts: Each, of a function that keeps a state. -/
import Derived.Test.YtdhdphgecoplbaaAsk
namespace Go.Proofs.Ytdhdphgecoplbaa
open Go.RowKit
theorem func_nil (fid : FuncId) (capt : Array Value) (W : World) : (binOp .eql 39 (.func (.func fid) #[] capt) .nilFunc).run Try.prog W = .ok (.bool false) W := by
  first
  | kernel_rfl
  | rfl
/-- What the function at one place reads. -/
def EachS (pf px b off : Nat) (F : Value) (r c : Int) (A : Option Addr) (n cap : Nat) (x : Val) (W : World) : Prop :=
  W.heap[pf]? = some (.cells #[F] 39) ∧ W.heap[px]? = some (.cells #[.int .i64 r, .int .i64 c, .slice A n cap] 25) ∧ ValAt W b off x
theorem ValAt.block {w w' : World} {b o : Nat} {x : Val} (h : ValAt w b o x) (hb : w'.heap[b]? = w.heap[b]?) : ValAt w' b o x := by
  unfold ValAt at *
  rw [World.cell?_of_block (a := ⟨b, o, none⟩) hb, World.cell?_of_block (a := ⟨b, o + 1, none⟩) hb, World.cell?_of_block (a := ⟨b, o + 2, none⟩) hb, World.cell?_of_block (a := ⟨b, o + 3, none⟩) hb, World.cell?_of_block (a := ⟨b, o + 4, none⟩) hb, World.cell?_of_block (a := ⟨b, o + 5, none⟩) hb]
  exact h
theorem EachS.blocks {pf px b off : Nat} {F : Value} {r c : Int} {A : Option Addr} {n cap : Nat} {x : Val} {W W' : World} (h : EachS pf px b off F r c A n cap x W) (h1 : W'.heap[pf]? = W.heap[pf]?) (h2 : W'.heap[px]? = W.heap[px]?) (h3 : W'.heap[b]? = W.heap[b]?) : EachS pf px b off F r c A n cap x W' :=
  ⟨h1.trans h.1, h2.trans h.2.1, h.2.2.block h3⟩
theorem EachS.ext {pf px b off : Nat} {F : Value} {r c : Int} {A : Option Addr} {n cap : Nat} {x : Val} {W W' : World} (h : EachS pf px b off F r c A n cap x W) (hx : Ext W W') : EachS pf px b off F r c A n cap x W' :=
  h.blocks (hx.block (lt_of_block h.1)) (hx.block (lt_of_block h.2.1)) (hx.block h.2.2.lt)
set_option maxHeartbeats 1000000 in
theorem each1_any (fid : FuncId) (capt : Array Value) (t : Val → Val) (base s0 pa : Nat) (J : List Val → World → Prop) (spec : FSpec fid capt t base (s0 + 3) pa J) (hent : ∀ (args : Array Value) (W : World), (callFunc fid args).run Try.prog W = .ok (.enter fid args) W)
    (R C i j n cap pf px b off : Nat) (x : Val) (L : List Val) (W : World) (hJ : J L W) (hs : s0 + 3 ≤ W.heap.size) (hL : L.length < 4096) (hE : EachS pf px b (off + (i * C + j) * 6) (.func (.func fid) #[] capt) R C (some ⟨b, off, none⟩) n cap x W)
    (hpf : pf < s0) (hpx : px < s0) (hb : b < s0) (npf : pf ≠ pa) (npx : px ≠ pa) (nb : b ≠ pa) (hxo : x.ok) (hn : n = R * C) (hN : n ≤ 4096) (hi : i < R) (hj : j < C) :
    Calls Try.prog 55 #[.int .i64 i, .int .i64 j, .pointer (some ⟨pf, 0, none⟩), .pointer (some ⟨px, 0, none⟩)] W fun e W' => e = .returned (VV (oneV (t x)).kind (oneV (t x)).mant (oneV (t x)).exp (oneV (t x)).text (oneV (t x)).truth (oneV (t x)).fault) ∧ J (L ++ [x]) W' ∧ Still (s0 + 3) pa W W W' := by
  obtain ⟨hk, hk2⟩ := cell_prod R hi hj (by omega)
  have hkn : i * C + j < n := by omega
  have w1 : IntKind.i64.wrap ((i : Int) * (C : Int)) = ((i * C : Nat) : Int) := by rw [IntKind.wrap_i64, Int.natCast_mul]; omega
  have w2 : IntKind.i64.wrap (((i * C : Nat) : Int) + (j : Int)) = ((i * C + j : Nat) : Int) := by rw [IntKind.wrap_i64]; omega
  have HE := Lib.hid hE
  have k0 := cell_of_row _ _ 0 _ _ _ hE.1
  have z0 := lt_of_block hE.1
  generalize hjc : i * C = jc at *
  clear hjc hn hk hE
  have e1 : (0 : Int) ≤ (jc : Int) + (j : Int) := by omega
  have e2 : (jc : Int) + (j : Int) < (n : Int) := by omega
  have e3 : ((jc : Int) + (j : Int)).toNat = jc + j := by omega
  have hfn := func_nil fid capt
  have HC := Lib.hid (spec.call L x W)
  have hok := spec.ok x hxo
  generalize hy : oneV (t x) = y
  have HY := Lib.hid hy
  clear hy
  go_enter Try.func55, Try.ntmps55
  go_wp2
  clear k0
  refine wp_plan (S := EachS pf px b (off + (jc + j) * 6) (.func (.func fid) #[] capt) R C (some ⟨b, off, none⟩) n cap x) [(0, 0), (1, 0), (2, 0), (3, 0), (4, 0), (5, 0), (6, 0), (7, 0), (8, 0), (9, 0), (10, 0), (11, 1), (12, 1), (13, 2)] [13] (by kernel_rfl) (by kernel_rfl) (by kernel_rfl) (fun _ _ d _ _ h => by cases d <;> exact h) (HE.out.ext (by repeat (first | with_reducible exact Ext.refl _ | with_reducible exact hX | with_reducible exact ext_d _ _ _ _ | with_reducible exact ext_app _ _ _ _ _ | ((with_reducible refine ext_suffix ⟨_, ?_⟩); (try simp only [Array.append_assoc]); rfl) | with_reducible apply Ext.drew | with_reducible apply Ext.alloc | with_reducible apply Ext.more_))) ?_
  (refine wpPl_read (v := ?_) rfl ?_ (fun w1 h1 => ?_) ?_; rotate_left 1; rfl; (obtain ⟨g1, g2, g3⟩ := h1; have k0 := cell_of_row _ _ 0 _ _ _ g1; have a1 := cell_of_row _ _ 1 _ _ _ g2; have a2 := cell_of_row _ _ 2 _ _ _ g2; obtain ⟨v0, v1, v2, v3, v4, v5⟩ := g3; clear g1 g2; go_simp; first | done | rfl))
  try simp only [Act.put, List.setIfInBounds_toArray, List.set_cons_zero, List.set_cons_succ]
  (refine wpPl_read (v := ?_) rfl ?_ (fun w1 h1 => ?_) ?_; rotate_left 1; rfl; (obtain ⟨g1, g2, g3⟩ := h1; have k0 := cell_of_row _ _ 0 _ _ _ g1; have a1 := cell_of_row _ _ 1 _ _ _ g2; have a2 := cell_of_row _ _ 2 _ _ _ g2; obtain ⟨v0, v1, v2, v3, v4, v5⟩ := g3; clear g1 g2; go_simp; first | done | rfl))
  try simp only [Act.put, List.setIfInBounds_toArray, List.set_cons_zero, List.set_cons_succ]
  (refine wpPl_read (v := ?_) rfl ?_ (fun w1 h1 => ?_) ?_; rotate_left 1; rfl; (obtain ⟨g1, g2, g3⟩ := h1; have k0 := cell_of_row _ _ 0 _ _ _ g1; have a1 := cell_of_row _ _ 1 _ _ _ g2; have a2 := cell_of_row _ _ 2 _ _ _ g2; obtain ⟨v0, v1, v2, v3, v4, v5⟩ := g3; clear g1 g2; go_simp; first | done | rfl))
  try simp only [Act.put, List.setIfInBounds_toArray, List.set_cons_zero, List.set_cons_succ]
  (refine wpPl_read (v := ?_) rfl ?_ (fun w1 h1 => ?_) ?_; rotate_left 1; rfl; (obtain ⟨g1, g2, g3⟩ := h1; have k0 := cell_of_row _ _ 0 _ _ _ g1; have a1 := cell_of_row _ _ 1 _ _ _ g2; have a2 := cell_of_row _ _ 2 _ _ _ g2; obtain ⟨v0, v1, v2, v3, v4, v5⟩ := g3; clear g1 g2; go_simp; first | done | rfl))
  try simp only [Act.put, List.setIfInBounds_toArray, List.set_cons_zero, List.set_cons_succ]
  (refine wpPl_read (v := ?_) rfl ?_ (fun w1 h1 => ?_) ?_; rotate_left 1; rfl; (obtain ⟨g1, g2, g3⟩ := h1; have k0 := cell_of_row _ _ 0 _ _ _ g1; have a1 := cell_of_row _ _ 1 _ _ _ g2; have a2 := cell_of_row _ _ 2 _ _ _ g2; obtain ⟨v0, v1, v2, v3, v4, v5⟩ := g3; clear g1 g2; go_simp; first | done | rfl))
  try simp only [Act.put, List.setIfInBounds_toArray, List.set_cons_zero, List.set_cons_succ]
  (refine wpPl_read (v := ?_) rfl ?_ (fun w1 h1 => ?_) ?_; rotate_left 1; rfl; (obtain ⟨g1, g2, g3⟩ := h1; have k0 := cell_of_row _ _ 0 _ _ _ g1; have a1 := cell_of_row _ _ 1 _ _ _ g2; have a2 := cell_of_row _ _ 2 _ _ _ g2; obtain ⟨v0, v1, v2, v3, v4, v5⟩ := g3; clear g1 g2; go_simp; first | done | rfl))
  try simp only [Act.put, List.setIfInBounds_toArray, List.set_cons_zero, List.set_cons_succ]
  (refine wpPl_read (v := ?_) rfl ?_ (fun w1 h1 => ?_) ?_; rotate_left 1; rfl; (obtain ⟨g1, g2, g3⟩ := h1; have k0 := cell_of_row _ _ 0 _ _ _ g1; have a1 := cell_of_row _ _ 1 _ _ _ g2; have a2 := cell_of_row _ _ 2 _ _ _ g2; obtain ⟨v0, v1, v2, v3, v4, v5⟩ := g3; clear g1 g2; go_simp; first | done | rfl))
  try simp only [Act.put, List.setIfInBounds_toArray, List.set_cons_zero, List.set_cons_succ]
  (refine wpPl_read (v := ?_) rfl ?_ (fun w1 h1 => ?_) ?_; rotate_left 1; rfl; (obtain ⟨g1, g2, g3⟩ := h1; have k0 := cell_of_row _ _ 0 _ _ _ g1; have a1 := cell_of_row _ _ 1 _ _ _ g2; have a2 := cell_of_row _ _ 2 _ _ _ g2; obtain ⟨v0, v1, v2, v3, v4, v5⟩ := g3; clear g1 g2; go_simp; first | done | rfl))
  try simp only [Act.put, List.setIfInBounds_toArray, List.set_cons_zero, List.set_cons_succ]
  (refine wpPl_read (v := ?_) rfl ?_ (fun w1 h1 => ?_) ?_; rotate_left 1; rfl; (obtain ⟨g1, g2, g3⟩ := h1; have k0 := cell_of_row _ _ 0 _ _ _ g1; have a1 := cell_of_row _ _ 1 _ _ _ g2; have a2 := cell_of_row _ _ 2 _ _ _ g2; obtain ⟨v0, v1, v2, v3, v4, v5⟩ := g3; clear g1 g2; go_simp; first | done | rfl))
  try simp only [Act.put, List.setIfInBounds_toArray, List.set_cons_zero, List.set_cons_succ]
  (refine wpPl_read (v := ?_) rfl ?_ (fun w1 h1 => ?_) ?_; rotate_left 1; rfl; (obtain ⟨g1, g2, g3⟩ := h1; have k0 := cell_of_row _ _ 0 _ _ _ g1; have a1 := cell_of_row _ _ 1 _ _ _ g2; have a2 := cell_of_row _ _ 2 _ _ _ g2; obtain ⟨v0, v1, v2, v3, v4, v5⟩ := g3; clear g1 g2; go_simp; first | done | rfl))
  try simp only [Act.put, List.setIfInBounds_toArray, List.set_cons_zero, List.set_cons_succ]
  (refine wpPl_read (v := ?_) rfl ?_ (fun w1 h1 => ?_) ?_; rotate_left 1; rfl; (obtain ⟨g1, g2, g3⟩ := h1; have k0 := cell_of_row _ _ 0 _ _ _ g1; have a1 := cell_of_row _ _ 1 _ _ _ g2; have a2 := cell_of_row _ _ 2 _ _ _ g2; obtain ⟨v0, v1, v2, v3, v4, v5⟩ := g3; clear g1 g2; go_simp; first | done | rfl))
  try simp only [Act.put, List.setIfInBounds_toArray, List.set_cons_zero, List.set_cons_succ]
  (refine wpPl_eff rfl ?_ (fun K hK => ?_); rfl; go_simp)
  refine (HC.out _ hJ (by repeat (first | with_reducible exact Ext.refl _ | with_reducible exact hX | with_reducible exact ext_d _ _ _ _ | with_reducible exact ext_app _ _ _ _ _ | ((with_reducible refine ext_suffix ⟨_, ?_⟩); (try simp only [Array.append_assoc]); rfl) | with_reducible apply Ext.drew | with_reducible apply Ext.alloc | with_reducible apply Ext.more_)) hs hxo hL).mono ?_
  rintro e w1' ⟨rfl, hJ1, hst⟩
  have hr : w1'.heap[W.heap.size]? = some (.cells #[.int .i64 0, .int .i64 0, .int .i64 0, .string ⟨#[]⟩, .bool false, .int .i64 0] 34) := by
    rw [hst.block W.heap.size (by simp) (.inr (Nat.le_refl _))]
    exact heap_alloc_new _ _
  have HS1 : Hid (EachS pf px b (off + (jc + j) * 6) (.func (.func fid) #[] capt) R C (some ⟨b, off, none⟩) n cap x w1') := by
    refine (HE.out.ext (W' := (W.alloc (.cells #[.int .i64 0, .int .i64 0, .int .i64 0, .string ⟨#[]⟩, .bool false, .int .i64 0] 34)).drew) (by repeat (first | with_reducible exact Ext.refl _ | with_reducible exact hX | with_reducible exact ext_d _ _ _ _ | with_reducible exact ext_app _ _ _ _ _ | ((with_reducible refine ext_suffix ⟨_, ?_⟩); (try simp only [Array.append_assoc]); rfl) | with_reducible apply Ext.drew | with_reducible apply Ext.alloc | with_reducible apply Ext.more_))).blocks ?_ ?_ ?_
    · exact hst.block pf (by simp; omega) (.inl ⟨by omega, npf⟩)
    · exact hst.block px (by simp; omega) (.inl ⟨by omega, npx⟩)
    · exact hst.block b (by simp; omega) (.inl ⟨by omega, nb⟩)
  refine hK _ _ HS1.out ?_
  try simp only [Act.put, List.setIfInBounds_toArray, List.set_cons_zero, List.set_cons_succ]
  (refine wpPl_eff rfl ?_ (fun K hK => ?_); rfl; go_simp)
  refine (sound_any _ _ _ _ _ _ _ hok.2.1 hok.2.2.2.1 y HY.out).mono ?_
  rintro e w' ⟨rfl, hb⟩
  obtain ⟨os5, d5, rfl⟩ := hb.more
  clear hb
  refine hK _ _ (HS1.out.ext (by repeat (first | with_reducible exact Ext.refl _ | with_reducible exact hX | with_reducible exact ext_d _ _ _ _ | with_reducible exact ext_app _ _ _ _ _ | ((with_reducible refine ext_suffix ⟨_, ?_⟩); (try simp only [Array.append_assoc]); rfl) | with_reducible apply Ext.drew | with_reducible apply Ext.alloc | with_reducible apply Ext.more_))) ?_
  try simp only [Act.put, List.setIfInBounds_toArray, List.set_cons_zero, List.set_cons_succ]
  have hsz := hst.size
  have hz : W.heap.size < w1'.heap.size := by simp at hsz; omega
  have q0 := cell_of_row _ _ 0 _ _ _ hr
  have q1 := cell_of_row _ _ 1 _ _ _ hr
  have q2 := cell_of_row _ _ 2 _ _ _ hr
  have q3 := cell_of_row _ _ 3 _ _ _ hr
  have q4 := cell_of_row _ _ 4 _ _ _ hr
  have q5 := cell_of_row _ _ 5 _ _ _ hr
  have f0 := frozen_of_row _ _ 0 _ _ hr
  have f1 := frozen_of_row _ _ 1 _ _ hr
  have f2 := frozen_of_row _ _ 2 _ _ hr
  have f3 := frozen_of_row _ _ 3 _ _ hr
  have f4 := frozen_of_row _ _ 4 _ _ hr
  have f5 := frozen_of_row _ _ 5 _ _ hr
  (refine wpPl_tail rfl ?_ (fun K hK => ?_); rfl; go_simp)
  refine hK _ _ ?_
  try simp only [Act.put, List.setIfInBounds_toArray, List.set_cons_zero, List.set_cons_succ]
  refine wpPl_nil ?_
  go_wp2
  refine bodyPost_ret (v := VV y.kind y.mant y.exp y.text y.truth y.fault) (by simp [results, Try.results55, go_sem, q0, q1, q2, q3, q4, q5, hz]; done) rfl ⟨rfl, ?_, ?_⟩
  · have h1 : W.heap.size ≤ W.heap.size := Nat.le_refl _
    have h2 : W.heap.size < ((W.alloc (.cells #[.int .i64 0, .int .i64 0, .int .i64 0, .string ⟨#[]⟩, .bool false, .int .i64 0] 34)).drew).heap.size := by simp
    exact hJ1 _ (((((((Aside.set _ _ h1 h2).trans (Aside.set _ _ h1 h2)).trans (Aside.set _ _ h1 h2)).trans (Aside.set _ _ h1 h2)).trans (Aside.set _ _ h1 h2)).trans (Aside.set _ _ h1 h2)).trans (Aside.of_ext (by repeat (first | with_reducible exact Ext.refl _ | with_reducible exact hX | with_reducible exact ext_d _ _ _ _ | with_reducible exact ext_app _ _ _ _ _ | ((with_reducible refine ext_suffix ⟨_, ?_⟩); (try simp only [Array.append_assoc]); rfl) | with_reducible apply Ext.drew | with_reducible apply Ext.alloc | with_reducible apply Ext.more_))))
  · have hq : W.heap.size ≤ W.heap.size := Nat.le_refl _
    exact (((((((Still.trans (Still.of_ext (by repeat (first | with_reducible exact Ext.refl _ | with_reducible exact hX | with_reducible exact ext_d _ _ _ _ | with_reducible exact ext_app _ _ _ _ _ | ((with_reducible refine ext_suffix ⟨_, ?_⟩); (try simp only [Array.append_assoc]); rfl) | with_reducible apply Ext.drew | with_reducible apply Ext.alloc | with_reducible apply Ext.more_))) hst).set _ hq).set _ hq).set _ hq).set _ hq).set _ hq).set _ hq).trans (Still.of_ext (by repeat (first | with_reducible exact Ext.refl _ | with_reducible exact hX | with_reducible exact ext_d _ _ _ _ | with_reducible exact ext_app _ _ _ _ _ | ((with_reducible refine ext_suffix ⟨_, ?_⟩); (try simp only [Array.append_assoc]); rfl) | with_reducible apply Ext.drew | with_reducible apply Ext.alloc | with_reducible apply Ext.more_)))
/-- Nothing that was there turned, but the block pa. -/
structure ExtBut (pa : Nat) (W W' : World) : Prop where
  os : W'.os = W.os
  tape : W'.tape = W.tape
  output : W'.output = W.output
  size : W.heap.size ≤ W'.heap.size
  block : ∀ b, b < W.heap.size → b ≠ pa → W'.heap[b]? = W.heap[b]?
theorem ExtBut.of_ext {pa : Nat} {W W' : World} (h : Ext W W') : ExtBut pa W W' := ⟨h.os, h.tape, h.output, h.size, fun _ hb _ => h.block hb⟩
theorem ExtBut.trans {pa : Nat} {a b c : World} (h : ExtBut pa a b) (k : ExtBut pa b c) : ExtBut pa a c :=
  ⟨k.os.trans h.os, k.tape.trans h.tape, k.output.trans h.output, Nat.le_trans h.size k.size, fun i hi hc => (k.block i (Nat.lt_of_lt_of_le hi h.size) hc).trans (h.block i hi hc)⟩
theorem ExtBut.set {pa : Nat} {W W' : World} (h : ExtBut pa W W') {p : Addr} (v : Value) (hp : W.heap.size ≤ p.block) : ExtBut pa W (W'.setCell p v) :=
  ⟨h.os, h.tape, h.output, by simp only [World.setCell, Array.size_modify]; exact h.size, fun b hb hc => (Below.heap_setCell _ _ _ _ (by omega)).trans (h.block b hb hc)⟩
theorem ArrIn.but {pa : Nat} {W W' : World} {A : Option Addr} {n cap : Nat} {l : List Val} (h : ArrIn W A n cap l) (hk : ExtBut pa W W') (hA : ∀ b off, A = some ⟨b, off, none⟩ → b ≠ pa) : ArrIn W' A n cap l := by
  refine ⟨fun j u hu => ?_, h.len, h.cap, h.small, h.ok⟩
  obtain ⟨b, off, e, hb, hc⟩ := h.rd j u hu
  refine ⟨b, off, e, hb, ?_⟩
  rw [World.cell?_of_block (a := ⟨b, off + j, none⟩) (hk.block b (lt_of_cell hc) (hA b off e))]; exact hc
theorem vals_map (f : Val → Val) (R C : Nat) (l : List Val) (h : l.length = R * C) : vals (fun i j => f (getV l (i * C + j))) C (R * C) = l.map f := by
  conv => rhs; rw [← vals_self R C l h]
  unfold vals
  rw [List.map_map]
  rfl
theorem take_getV {l : List Val} {k : Nat} (h : k < l.length) : l.take (k + 1) = l.take k ++ [getV l k] := by
  rw [List.take_succ_eq_append_getElem h, getV_lt h]
set_option maxHeartbeats 1000000 in
theorem each_yes (R C n cap pa : Nat) (A : Option Addr) (l : List Val) (fid : FuncId) (capt : Array Value) (t : Val → Val) (Js : Nat → List Val → World → Prop) (w : World) (h : ArrIn w A n cap l) (hr : rightA R C l = true) (hpa : pa < w.heap.size) (hA : ∀ b off, A = some ⟨b, off, none⟩ → b ≠ pa)
    (hent : ∀ (args : Array Value) (W : World), (callFunc fid args).run Try.prog W = .ok (.enter fid args) W) (spec : ∀ s0, w.heap.size ≤ s0 → FSpec fid capt t w.heap.size (s0 + 3) pa (Js s0)) (hJ0 : ∀ s0, w.heap.size ≤ s0 → Js s0 [] w) :
    Calls Try.prog 21 #[AV R C (.slice A n cap), .func (.func fid) #[] capt] w fun e w' => ∃ D c s0, e = .returned (AV R C (.slice D n c)) ∧ SlV w.heap.size w' D (l.map fun x => oneV (t x)) ∧ n ≤ c ∧ w.heap.size ≤ s0 ∧ Js s0 l w' ∧ ExtBut pa w w' := by
  obtain ⟨r1, r2, r3, r4, r5, r6⟩ := right_bd hr
  have hln := h.len
  have HN := Lib.hid (show n = R * C by omega)
  have HL := Lib.hid r4
  have hN : n ≤ 4096 := by omega
  clear r4 hln
  have HS := Lib.hid spec
  have HJ := Lib.hid hJ0
  have HA := Lib.hid hA
  clear spec hJ0 hA
  go_enter Try.func21, Try.ntmps21
  go_wp2_with fail
  refine (right_any _ _ _ _ _ _ _ (h.ext (by repeat (first | with_reducible exact Ext.refl _ | with_reducible exact hX | with_reducible exact ext_d _ _ _ _ | with_reducible exact ext_app _ _ _ _ _ | ((with_reducible refine ext_suffix ⟨_, ?_⟩); (try simp only [Array.append_assoc]); rfl) | with_reducible apply Ext.drew | with_reducible apply Ext.alloc | with_reducible apply Ext.more_)))).mono ?_; rintro e w' ⟨rfl, hb⟩; obtain ⟨os1, d1, rfl⟩ := hb.more; clear hb
  go_wp2_with fail
  refine calls_world fun W hW => ?_
  have hX : Ext w W := by rw [hW]; exact by repeat (first | with_reducible exact Ext.refl _ | with_reducible exact hX | with_reducible exact ext_d _ _ _ _ | with_reducible exact ext_app _ _ _ _ _ | ((with_reducible refine ext_suffix ⟨_, ?_⟩); (try simp only [Array.append_assoc]); rfl) | with_reducible apply Ext.drew | with_reducible apply Ext.alloc | with_reducible apply Ext.more_)
  have hbx : W.heap[w.heap.size]? = some (.cells #[.int .i64 R, .int .i64 C, .slice A n cap] 25) := by
    rw [hW, (ext_more _ _ _).block (by simp; omega), Below.heap_alloc _ _ _ (by simp; omega), Below.heap_alloc _ _ _ (by simp)]
    exact heap_alloc_new _ _
  have hfx : W.heap[w.heap.size + 1]? = some (.cells #[.func (.func fid) #[] capt] 39) := by
    rw [hW, (ext_more _ _ _).block (by simp), Below.heap_alloc _ _ _ (by simp)]
    have := heap_alloc_new (w.alloc (.cells #[.int .i64 R, .int .i64 C, .slice A n cap] 25)) (.cells #[.func (.func fid) #[] capt] 39)
    simpa using this
  have hrx : W.heap[w.heap.size + 1 + 1]? = some (.cells #[.int .i64 0, .int .i64 0, .slice none 0 0] 25) := by
    rw [hW, (ext_more _ _ _).block (by simp)]
    have := heap_alloc_new ((w.alloc (.cells #[.int .i64 R, .int .i64 C, .slice A n cap] 25)).alloc (.cells #[.func (.func fid) #[] capt] 39)) (.cells #[.int .i64 0, .int .i64 0, .slice none 0 0] 25)
    simpa using this
  clear hW
  have hws := hX.size
  have sp := HS.out W.heap.size hws
  have z0 := lt_of_block hrx
  have hl1 : l.length = R * C := HL.out
  refine (build_any R C 55 #[.pointer (some ⟨w.heap.size + 1, 0, none⟩), .pointer (some ⟨w.heap.size, 0, none⟩)] (fun i j => oneV (t (getV l (i * C + j)))) W (fun k V => Js W.heap.size (l.take k) V ∧ ExtBut pa W V) r1 r2 r3 r5 r6 (fun _ _ => by kernel_rfl) ⟨?_, ?_⟩ ?_ ?_).mono ?_
  · rw [List.take_zero]; exact sp.ext _ _ _ hX (HJ.out _ hws)
  · exact ExtBut.of_ext (Ext.refl _)
  · rintro k V V' hk ⟨g1, g2⟩
    refine ⟨sp.keep _ _ _ (by simpa using hk) g1, hk.os.trans g2.os, hk.tape.trans g2.tape, hk.output.trans g2.output, Nat.le_trans g2.size hk.size, fun b hb hne => ?_⟩
    exact (hk.block b (Nat.lt_of_lt_of_le hb g2.size) (by omega) (by omega) (by omega)).trans (g2.block b hb hne)
  · rintro i j V hi hj ⟨g1, g2⟩ hsz
    have hkk := cell_prod R hi hj r3
    obtain ⟨b, off, hAe, hv, hxo⟩ := h.get (k := i * C + j) (by have := HN.out; omega)
    have hbl := hv.lt
    have hba := HA.out b off hAe
    subst hAe
    have hE : EachS (w.heap.size + 1) w.heap.size b (off + (i * C + j) * 6) (.func (.func fid) #[] capt) R C (some ⟨b, off, none⟩) n cap (getV l (i * C + j)) V :=
      ⟨(g2.block _ (by omega) (by omega)).trans hfx, (g2.block _ (by omega) (by omega)).trans hbx, (hv.ext hX).block (g2.block b (by omega) hba)⟩
    refine (each1_any fid capt t w.heap.size W.heap.size pa (Js W.heap.size) sp hent R C i j n cap (w.heap.size + 1) w.heap.size b off (getV l (i * C + j)) (l.take (i * C + j)) V g1 hsz (by rw [List.length_take]; omega) hE (by omega) (by omega) (by omega) (by omega) (by omega) hba hxo HN.out hN hi hj).mono ?_
    rintro e V' ⟨he, hJ1, hst⟩
    refine ⟨he, ⟨by rw [take_getV (by omega)]; exact hJ1, ⟨hst.os.trans g2.os, hst.tape.trans g2.tape, hst.output.trans g2.output, Nat.le_trans g2.size hst.size, fun b' hb' hne => (hst.block b' (Nat.lt_of_lt_of_le hb' g2.size) (.inl ⟨by omega, hne⟩)).trans (g2.block b' hb' hne)⟩⟩, ?_⟩
    exact ⟨hst.size, hst.block _ (by omega) (.inl ⟨by omega, by omega⟩), hst.block _ (by omega) (.inl ⟨by omega, by omega⟩), hst.block _ (by omega) (.inl ⟨by omega, by omega⟩)⟩
  rintro e w' ⟨D, c, he, hs, hc, g1, g2⟩
  rw [vals_map (fun x => oneV (t x)) R C l hl1] at hs
  rw [List.take_of_length_le (by omega)] at g1
  rw [← HN.out] at he hc
  subst he
  have hr' : w'.heap[w.heap.size + 1 + 1]? = some (.cells #[.int .i64 0, .int .i64 0, .slice none 0 0] 25) := (g2.block _ (by omega) (by omega)).trans hrx
  have q0 := cell_of_row _ _ 0 _ _ _ hr'
  have q1 := cell_of_row _ _ 1 _ _ _ hr'
  have q2 := cell_of_row _ _ 2 _ _ _ hr'
  have f0 := frozen_of_row _ _ 0 _ _ hr'
  have f1 := frozen_of_row _ _ 1 _ _ hr'
  have f2 := frozen_of_row _ _ 2 _ _ hr'
  have hg2 := Lib.hid g2
  clear g2 hbx hfx hrx
  go_wp2
  refine bodyPost_ret (v := AV R C (.slice D n c)) (by simp [results, Try.results21, go_sem, q0, q1, q2]; done) rfl ⟨D, c, W.heap.size, rfl, ?_, hc, hws, ?_, ?_⟩
  · exact Rd.mono (((hs.set_far _ (by simp; omega)).set_far _ (by simp; omega)).set_far _ (by simp; omega)) (by omega)
  · exact sp.far _ _ _ _ (by simp only; omega) (by simp only; omega) (sp.far _ _ _ _ (by simp only; omega) (by simp only; omega) (sp.far _ _ _ _ (by simp only; omega) (by simp only; omega) g1))
  · exact ((((ExtBut.of_ext hX).trans hg2.out).set _ (by simp only; omega)).set _ (by simp only; omega)).set _ (by simp only; omega)
end Go.Proofs.Ytdhdphgecoplbaa
