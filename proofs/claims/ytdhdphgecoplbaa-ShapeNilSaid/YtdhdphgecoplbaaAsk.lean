/- A function that notes what it is asked: its state, its contract. -/
import Derived.Test.YtdhdphgecoplbaaTold
namespace Go.Proofs.Ytdhdphgecoplbaa
open Go.RowKit
/-- What was asked so far: a list in a variable (block pa), its row in a block from lo on. -/
structure AskA (lo pa : Nat) (A : Option Addr) (cap : Nat) (L : List Val) (W : World) : Prop where
  lt : pa < lo
  var : W.heap[pa]? = some (.cells #[.slice A L.length cap] 22)
  own : W.ownsRow lo 34 6 (.slice A L.length cap) L.length (vcells L)
theorem AskA.ext {lo pa cap : Nat} {A : Option Addr} {L : List Val} {W W' : World} (h : AskA lo pa A cap L W) (hx : Ext W W') : AskA lo pa A cap L W' :=
  ⟨h.lt, by rw [hx.block (lt_of_block h.var)]; exact h.var, own_ext h.own hx⟩
/-- Blocks below lo but pa, and those from W0 on, are as they were. -/
structure Still (lo pa : Nat) (W0 W W' : World) : Prop where
  os : W'.os = W.os
  tape : W'.tape = W.tape
  output : W'.output = W.output
  size : W.heap.size ≤ W'.heap.size
  block : ∀ b, b < W.heap.size → (b < lo ∧ b ≠ pa) ∨ W0.heap.size ≤ b → W'.heap[b]? = W.heap[b]?
theorem Still.of_ext {lo pa : Nat} {W0 W W' : World} (h : Ext W W') : Still lo pa W0 W W' := ⟨h.os, h.tape, h.output, h.size, fun _ hb _ => h.block hb⟩
theorem Still.trans {lo pa : Nat} {W0 a b c : World} (h : Still lo pa W0 a b) (k : Still lo pa W0 b c) : Still lo pa W0 a c :=
  ⟨k.os.trans h.os, k.tape.trans h.tape, k.output.trans h.output, Nat.le_trans h.size k.size, fun i hi hc => (k.block i (Nat.lt_of_lt_of_le hi h.size) hc).trans (h.block i hi hc)⟩
theorem own_lt {w : World} {base : Nat} {e : TypeId} {size n : Nat} {v : Value} {xs : List Value} (h : w.ownsRow base e size v n xs) : ∀ k, v.ownBlock = some k → k < w.heap.size := by
  intro k hk
  rcases h.2 with ⟨rfl, _⟩ | ⟨g, cap, cur, rfl, hg, hh, _⟩
  · cases hk
  · simp only [Value.ownBlock, Option.some.injEq] at hk; subst hk; exact lt_of_block hh
theorem AskA.step {lo pa cap : Nat} {A : Option Addr} {L : List Val} {W0 W2 w3 : World} {v3 : Value} {x : Val} (h : AskA lo pa A cap L W0) (hx : Ext W0 W2)
    (hg : W2.grownBy w3 (Value.slice A L.length cap).ownBlock) (ho : w3.ownsRow lo 34 6 v3 (L.length + 1) (vcells L ++ x.cells)) (hat : v3.ownBlock = (Value.slice A L.length cap).ownBlock ∨ v3.ownBlock = some W2.heap.size) :
    ∃ A' cap', v3 = .slice A' (L.length + 1) cap' ∧ w3.heap[pa]? = some (.cells #[.slice A L.length cap] 22) ∧ AskA lo pa A' cap' (L ++ [x]) (w3.setCell ⟨pa, 0, none⟩ v3) ∧ Still lo pa W0 W2 (w3.setCell ⟨pa, 0, none⟩ v3) ∧
      (∀ b, W0.heap.size ≤ b → b < W2.heap.size → (Value.slice A' (L.length + 1) cap').ownBlock ≠ some b) := by
  obtain ⟨A', cap', rfl⟩ := own_slice ho
  have h2 := h.ext hx
  have hpl := lt_of_block h2.var
  have hnb : some pa ≠ (Value.slice A L.length cap).ownBlock := fun e => by have := own_block h.own _ e.symm; have := h.lt; omega
  have hrow : w3.heap[pa]? = some (.cells #[.slice A L.length cap] 22) := by rw [hg.block _ hpl hnb]; exact h2.var
  refine ⟨A', cap', rfl, hrow, ⟨h.lt, ?_, ?_⟩, ⟨hg.os, hg.tape, hg.output, by simp only [World.setCell, Array.size_modify]; exact hg.size, fun b hb hc => ?_⟩, fun b h1 h2 e => ?_⟩
  · simp [World.setCell, Array.getElem?_modify, hrow]
  · have e1 : (L ++ [x]).length = L.length + 1 := by simp
    have e2 : vcells (L ++ [x]) = vcells L ++ x.cells := by simp [vcells]
    rw [e1, e2]
    refine ho.kept (row := some pa) ⟨rfl, rfl, rfl, by simp [World.setCell], fun b hb hne => Below.heap_setCell _ _ _ _ (fun e => hne (by simp [e]))⟩ ?_
    right
    intro e
    have := own_block ho pa e
    have := h.lt
    omega
  · have hbp : b ≠ pa := by
      rcases hc with hc | hc
      · exact hc.2
      · have := lt_of_block h.var; omega
    rw [Below.heap_setCell _ _ _ _ (fun e => hbp e)]
    refine hg.block b hb fun e => ?_
    rcases hc with hc | hc
    · have := own_block h.own _ e.symm; omega
    · have := own_lt h.own _ e.symm; omega
  · rcases hat with hat | hat
    · rw [hat] at e
      have := own_lt h.own _ e
      omega
    · rw [hat] at e
      simp only [Option.some.injEq] at e
      omega
theorem wp_world {P : Program} {c : Code} {Q : Exit → Act → World → Prop} {a : Act} {w : World} (h : ∀ W, W = w → c.wp P Q a W) : c.wp P Q a w := h w rfl
/-- A store elsewhere. -/
theorem AskA.set {lo pa cap : Nat} {A : Option Addr} {L : List Val} {W : World} (h : AskA lo pa A cap L W) {p : Addr} (v : Value) (hp : p.block ≠ pa) (hr : (Value.slice A L.length cap).ownBlock ≠ some p.block) : AskA lo pa A cap L (W.setCell p v) := by
  refine ⟨h.lt, by rw [Below.heap_setCell _ _ _ _ (fun e => hp e.symm)]; exact h.var, ?_⟩
  exact h.own.kept (row := some p.block) ⟨rfl, rfl, rfl, by simp [World.setCell], fun b hb hne => Below.heap_setCell _ _ _ _ (fun e => hne (by simp [e]))⟩ (.inr hr)
theorem Still.set {lo pa : Nat} {W0 W W' : World} (h : Still lo pa W0 W W') {p : Addr} (v : Value) (hp : W.heap.size ≤ p.block) : Still lo pa W0 W (W'.setCell p v) :=
  ⟨h.os, h.tape, h.output, by simp only [World.setCell, Array.size_modify]; exact h.size, fun b hb hc => (Below.heap_setCell _ _ _ _ (by omega)).trans (h.block b hb hc)⟩
/-- All is as it was, but in the blocks from lo to hi. -/
structure Aside (lo hi : Nat) (W W' : World) : Prop where
  os : W'.os = W.os
  tape : W'.tape = W.tape
  output : W'.output = W.output
  size : W.heap.size ≤ W'.heap.size
  block : ∀ b, b < W.heap.size → ¬ (lo ≤ b ∧ b < hi) → W'.heap[b]? = W.heap[b]?
theorem Aside.of_ext {lo hi : Nat} {W W' : World} (h : Ext W W') : Aside lo hi W W' := ⟨h.os, h.tape, h.output, h.size, fun _ hb _ => h.block hb⟩
theorem Aside.trans {lo hi : Nat} {a b c : World} (h : Aside lo hi a b) (k : Aside lo hi b c) : Aside lo hi a c :=
  ⟨k.os.trans h.os, k.tape.trans h.tape, k.output.trans h.output, Nat.le_trans h.size k.size, fun i hi' hc => (k.block i (Nat.lt_of_lt_of_le hi' h.size) hc).trans (h.block i hi' hc)⟩
theorem Aside.set {lo hi : Nat} (W : World) {p : Addr} (v : Value) (h1 : lo ≤ p.block) (h2 : p.block < hi) : Aside lo hi W (W.setCell p v) :=
  ⟨rfl, rfl, rfl, by simp [World.setCell], fun b hb hc => Below.heap_setCell _ _ _ _ (by omega)⟩
theorem AskA.aside {lo pa cap l h : Nat} {A : Option Addr} {L : List Val} {W W' : World} (ha : AskA lo pa A cap L W) (hp : pa < l) (hr : ∀ b, l ≤ b → b < h → (Value.slice A L.length cap).ownBlock ≠ some b) (hk : Aside l h W W') : AskA lo pa A cap L W' := by
  refine ⟨ha.lt, by rw [hk.block pa (lt_of_block ha.var) (by omega)]; exact ha.var, ha.own.1, ?_⟩
  rcases ha.own.2 with h2 | ⟨g, cap', cur, hv, hg, hh, r⟩
  · exact .inl h2
  · refine .inr ⟨g, cap', cur, hv, hg, ?_, r⟩
    rw [hk.block g (lt_of_block hh) (fun hc => hr g hc.1 hc.2 (by rw [hv]; rfl))]; exact hh
set_option maxHeartbeats 1000000 in
theorem ask1_any (lo pa pb cap : Nat) (A : Option Addr) (L : List Val) (x : Val) (by_ : Int) (W0 W : World) (h : AskA lo pa A cap L W0) (hx : Ext W0 W) (hlo : lo ≤ W0.heap.size) (hpb : pb < lo) (hne : pb ≠ pa) (cb : W.cell? ⟨pb, 0, none⟩ = some (.int .u8 by_)) (hb0 : 0 ≤ by_) (hb1 : by_ ≤ 255) (hxo : x.ok) (hL : L.length < 4096) :
    Calls Try.prog 22 #[VV x.kind x.mant x.exp x.text x.truth x.fault, .pointer (some ⟨pa, 0, none⟩), .pointer (some ⟨pb, 0, none⟩)] W fun e W' => e = .returned (VV (toldV x by_).kind (toldV x by_).mant (toldV x by_).exp (toldV x by_).text (toldV x by_).truth (toldV x by_).fault) ∧ (∃ A' cap', AskA lo pa A' cap' (L ++ [x]) W' ∧ ∀ b, W0.heap.size ≤ b → b < W.heap.size → (Value.slice A' (L ++ [x]).length cap').ownBlock ≠ some b) ∧ Still lo pa W0 W W' := by
  obtain ⟨i0, hi0, hz0, hz1, hz2⟩ := info_parts info_val
  have hxs := hx.size
  have hW := h.ext hx
  have ca := cell_of_row _ _ 0 _ _ _ hW.var
  have z0 : pa < W.heap.size := lt_of_block hW.var
  have z1 : pb < W.heap.size := by omega
  generalize hy : toldV x by_ = y
  have HY := Lib.hid hy
  clear hy
  go_enter Try.func22, Try.ntmps22
  go_upto_region 2 with (at_builtin; refine wpList_append_own_at _ rfl _ _ _ rfl lo 34 i0 (VV 0 0 0 ⟨#[]⟩ false 0) 6 56 Try.underlying22 hi0 hz0 hz1 hz2 rfl (by decide) _ _ _ rfl (own_ext hW.own (by repeat (first | with_reducible exact Ext.refl _ | with_reducible exact hX | with_reducible exact ext_d _ _ _ _ | with_reducible exact ext_app _ _ _ _ _ | ((with_reducible refine ext_suffix ⟨_, ?_⟩); (try simp only [Array.append_assoc]); rfl) | with_reducible apply Ext.drew | with_reducible apply Ext.alloc | with_reducible apply Ext.more_))) _ 1 1 (Val.cells x) rfl rfl (new_cells_at _ _ _ (by simp) rfl _) (cells_one _) (by simp only [maxLen]; omega) (by omega) (by simp; omega) ?_; intro v3 w3 ho3 hg3 _ hat; obtain ⟨A2, cap2, rfl, hrow3, hask, hst, hrb⟩ := h.step (hx.trans (by repeat (first | with_reducible exact Ext.refl _ | with_reducible exact hX | with_reducible exact ext_d _ _ _ _ | with_reducible exact ext_app _ _ _ _ _ | ((with_reducible refine ext_suffix ⟨_, ?_⟩); (try simp only [Array.append_assoc]); rfl) | with_reducible apply Ext.drew | with_reducible apply Ext.alloc | with_reducible apply Ext.more_))) hg3 ho3 hat; have c2 := cell_of_row _ _ 0 _ _ _ hrow3; have f2 := frozen_of_row _ _ 0 _ _ hrow3)
  refine wp_world fun W4 hW4 => ?_
  have hr2 : (Value.slice A2 (L ++ [x]).length cap2).ownBlock ≠ some (W.heap.size + 1) := by simpa using hrb (W.heap.size + 1) (by omega) (by simp)
  replace hask : AskA lo pa A2 cap2 (L ++ [x]) W4 := by rw [hW4]; exact hask
  replace hst := hW4 ▸ hst
  have hv : W4.heap[W.heap.size]? = some (.cells x.cells.toArray 34) := by
    rw [hst.block _ (by simp; omega) (.inr (by omega)), Below.heap_alloc _ _ _ (by simp; omega), Below.heap_alloc _ _ _ (by simp)]
    exact heap_alloc_new _ _
  have hr : W4.heap[W.heap.size + 1]? = some (.cells #[.int .i64 0, .int .i64 0, .int .i64 0, .string ⟨#[]⟩, .bool false, .int .i64 0] 34) := by
    rw [hst.block _ (by simp) (.inr (by omega)), Below.heap_alloc _ _ _ (by simp)]
    have := heap_alloc_new (W.alloc (Obj.cells #[.int .i64 x.kind, .int .i64 x.mant, .int .i64 x.exp, .string x.text, .bool x.truth, .int .i64 x.fault] 34)) (.cells #[.int .i64 0, .int .i64 0, .int .i64 0, .string ⟨#[]⟩, .bool false, .int .i64 0] 34)
    simpa using this
  have hbc : W4.cell? ⟨pb, 0, none⟩ = some (.int .u8 by_) := by
    rw [World.cell?_of_block (a := ⟨pb, 0, none⟩) (hst.block pb (by simp; omega) (.inl ⟨hpb, hne⟩))]
    exact Ext.cell_some (by repeat (first | with_reducible exact Ext.refl _ | with_reducible exact hX | with_reducible exact ext_d _ _ _ _ | with_reducible exact ext_app _ _ _ _ _ | ((with_reducible refine ext_suffix ⟨_, ?_⟩); (try simp only [Array.append_assoc]); rfl) | with_reducible apply Ext.drew | with_reducible apply Ext.alloc | with_reducible apply Ext.more_)) cb
  have hsz := hst.size
  simp only [World.size_alloc] at hsz
  clear hW4 hrow3 hat ho3 hg3 c2 f2 ca cb
  have v0 := cell_of_row _ _ 0 _ _ _ hv
  have v1 := cell_of_row _ _ 1 _ _ _ hv
  have v2 := cell_of_row _ _ 2 _ _ _ hv
  have v3 := cell_of_row _ _ 3 _ _ _ hv
  have v4 := cell_of_row _ _ 4 _ _ _ hv
  have v5 := cell_of_row _ _ 5 _ _ _ hv
  have q0 := cell_of_row _ _ 0 _ _ _ hr
  have q1 := cell_of_row _ _ 1 _ _ _ hr
  have q2 := cell_of_row _ _ 2 _ _ _ hr
  have q3 := cell_of_row _ _ 3 _ _ _ hr
  have q4 := cell_of_row _ _ 4 _ _ _ hr
  have q5 := cell_of_row _ _ 5 _ _ _ hr
  have f0 := frozen_of_row _ _ 0 _ _ hr
  have f1 := frozen_of_row _ _ 1 _ _ hr
  have f2 := frozen_of_row _ _ 2 _ _ hr
  have f3 := frozen_of_row _ _ 3 _ _ hr
  have f4 := frozen_of_row _ _ 4 _ _ hr
  have f5 := frozen_of_row _ _ 5 _ _ hr
  have hz : W.heap.size + 1 < W4.heap.size := by omega
  simp only [Val.cells, List.getElem?_toArray, List.getElem?_cons_zero, List.getElem?_cons_succ] at v0 v1 v2 v3 v4 v5
  go_wp2_with fail
  refine (told_any _ _ _ _ _ _ _ _ hxo.2.2.2.1 hb0 hb1 y HY.out).mono ?_
  rintro e w' ⟨rfl, hb⟩
  obtain ⟨os5, d5, rfl⟩ := hb.more
  clear hb
  go_wp2
  refine bodyPost_ret (v := VV y.kind y.mant y.exp y.text y.truth y.fault) (by simp [results, Try.results22, go_sem, q0, q1, q2, q3, q4, q5, hz]; done) rfl ⟨rfl, ⟨A2, cap2, ?_, fun b h1 h2 => ?_⟩, ?_⟩
  · have hpn : W.heap.size + 1 ≠ pa := by omega
    exact ((((((hask.set _ hpn hr2).set _ hpn hr2).set _ hpn hr2).set _ hpn hr2).set _ hpn hr2).set _ hpn hr2).ext (by repeat (first | with_reducible exact Ext.refl _ | with_reducible exact hX | with_reducible exact ext_d _ _ _ _ | with_reducible exact ext_app _ _ _ _ _ | ((with_reducible refine ext_suffix ⟨_, ?_⟩); (try simp only [Array.append_assoc]); rfl) | with_reducible apply Ext.drew | with_reducible apply Ext.alloc | with_reducible apply Ext.more_))
  · simpa using hrb b h1 (by simp; omega)
  · have hq : W.heap.size ≤ W.heap.size + 1 := by omega
    exact (((((((Still.trans (Still.of_ext (by repeat (first | with_reducible exact Ext.refl _ | with_reducible exact hX | with_reducible exact ext_d _ _ _ _ | with_reducible exact ext_app _ _ _ _ _ | ((with_reducible refine ext_suffix ⟨_, ?_⟩); (try simp only [Array.append_assoc]); rfl) | with_reducible apply Ext.drew | with_reducible apply Ext.alloc | with_reducible apply Ext.more_))) hst).set _ hq).set _ hq).set _ hq).set _ hq).set _ hq).set _ hq).trans (Still.of_ext (by repeat (first | with_reducible exact Ext.refl _ | with_reducible exact hX | with_reducible exact ext_d _ _ _ _ | with_reducible exact ext_app _ _ _ _ _ | ((with_reducible refine ext_suffix ⟨_, ?_⟩); (try simp only [Array.append_assoc]); rfl) | with_reducible apply Ext.drew | with_reducible apply Ext.alloc | with_reducible apply Ext.more_)))
/-- A function of one value, told by what was asked before: its state lies in the variable pa, and in blocks from lo on. -/
structure FSpec (fid : FuncId) (capt : Array Value) (t : Val → Val) (base lo pa : Nat) (J : List Val → World → Prop) : Prop where
  ext : ∀ L W W', Ext W W' → J L W → J L W'
  keep : ∀ L W W', Keep (lo - 3) W W' → J L W → J L W'
  call : ∀ L x W0 W, J L W0 → Ext W0 W → lo ≤ W0.heap.size → x.ok → L.length < 4096 →
    Calls Try.prog fid (#[VV x.kind x.mant x.exp x.text x.truth x.fault] ++ capt) W fun e W' => e = .returned (VV (t x).kind (t x).mant (t x).exp (t x).text (t x).truth (t x).fault) ∧ (∀ W'', Aside W0.heap.size W.heap.size W' W'' → J (L ++ [x]) W'') ∧ Still lo pa W0 W W'
  ok : ∀ x, x.ok → (t x).ok
  far : ∀ L W (p : Addr) v, base ≤ p.block → p.block < lo → J L W → J L (W.setCell p v)
theorem ask_spec (base s0 pa pb : Nat) (by_ : Int) (hbs : base ≤ s0) (hpb : pb < base) (hpa : pa < base) (hne : pb ≠ pa) (hb0 : 0 ≤ by_) (hb1 : by_ ≤ 255) :
    FSpec 22 #[.pointer (some ⟨pa, 0, none⟩), .pointer (some ⟨pb, 0, none⟩)] (fun x => toldV x by_) base (s0 + 3) pa (fun L W => (∃ A cap, AskA (s0 + 3) pa A cap L W) ∧ W.cell? ⟨pb, 0, none⟩ = some (.int .u8 by_)) := by
  refine ⟨?_, ?_, ?_, fun x hx => toldV_ok hx _, ?_⟩
  · rintro L W W' hx ⟨⟨A, cap, h⟩, hc⟩
    exact ⟨⟨A, cap, h.ext hx⟩, hx.cell_some hc⟩
  · rintro L W W' hk ⟨⟨A, cap, h⟩, hc⟩
    rw [Nat.add_sub_cancel] at hk
    refine ⟨⟨A, cap, h.lt, ?_, ?_⟩, ?_⟩
    · rw [hk.block pa (lt_of_block h.var) (by omega) (by omega) (by omega)]; exact h.var
    · refine ⟨h.own.1, ?_⟩
      rcases h.own.2 with h2 | ⟨g, cap', cur, hv, hg, hh, r⟩
      · exact .inl h2
      · refine .inr ⟨g, cap', cur, hv, hg, ?_, r⟩
        rw [hk.block g (lt_of_block hh) (by omega) (by omega) (by omega)]; exact hh
    · rw [World.cell?_of_block (a := ⟨pb, 0, none⟩) (hk.block pb (lt_of_cell hc) (by omega) (by omega) (by omega))]; exact hc
  · rintro L x W0 W ⟨⟨A, cap, h⟩, hc⟩ hx hlo hxo hL
    refine (ask1_any (s0 + 3) pa pb cap A L x by_ W0 W h hx hlo (by omega) hne (hx.cell_some hc) hb0 hb1 hxo hL).mono ?_
    rintro e W' ⟨he, ⟨A', cap', hask, hrow⟩, hst⟩
    have hc' := hx.cell_some hc
    refine ⟨he, fun W'' hk => ⟨⟨A', cap', hask.aside (by omega) hrow hk⟩, ?_⟩, hst⟩
    have hl := lt_of_cell hc'
    have := hst.size
    rw [World.cell?_of_block (a := ⟨pb, 0, none⟩) ((hk.block pb (by simp only at hl; omega) (by omega)).trans (hst.block pb hl (.inl ⟨by omega, hne⟩)))]; exact hc'
  · rintro L W p v h1 h2 ⟨⟨A, cap, h⟩, hc⟩
    refine ⟨⟨A, cap, h.set v (by omega) (fun e => by have := own_block h.own _ e; omega)⟩, ?_⟩
    rw [World.cell?_of_block (a := ⟨pb, 0, none⟩) (Below.heap_setCell _ _ _ _ (by simp only; omega))]; exact hc
end Go.Proofs.Ytdhdphgecoplbaa
