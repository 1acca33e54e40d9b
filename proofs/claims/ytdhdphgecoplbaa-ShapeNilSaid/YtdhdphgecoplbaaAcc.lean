/- Lists that are put together by append in a variable's field; the document's small functions on arrays. -/
import Derived.Test.YtdhdphgecoplbaaPartsA
namespace Go.Proofs.Ytdhdphgecoplbaa
open Go.RowKit

theorem wp_append_own {P : Program} (w : World) {o : Oper} {a : Act} {K : Act → World → Prop} {Q : Exit → Act → World → Prop} (s x : Operand) (t : TypeId)
    (ho : o.op = .call { callee := .builtin .append, args := #[s, x], argTypes := #[t, t] })
    (base : Nat) (e : TypeId) (i : TypeInfo) (z : Value) (size bytes : Nat) (ht : P.underlying t = some (.slice e)) (hi : P.info? e = some i) (hz : i.zero = some z)
    (hsize : i.size = size) (hby : i.bytes = bytes) (hzs : z.cells.size = size) (hsz : 0 < size)
    (v : Value) (n : Nat) (xs : List Value) (hs : a.eval s = v) (hown : w.ownsRow base e size v n xs)
    (ad : Addr) (m c : Nat) (news : List Value) (hx : a.eval x = .slice (some ad) m c) (hl : news.length = m * size) (hnews : ∀ j u, news[j]? = some u → w.cell? (ad.add j) = some u) (h1 : ∀ u ∈ news, u.oneCell' = true)
    (b1 : n + m ≤ maxLen) (b2 : (n + m) * bytes ≤ 140737488355328) (hbase : base ≤ w.heap.size)
    (h : ∀ v' w', w'.ownsRow base e size v' (n + m) (xs ++ news) → w.grownBy w' v.ownBlock → K (a.put o.dst v') w') : o.wp P a w K Q := by
  obtain ⟨v', w', hr, h2, h3, _⟩ := run_append_own (P := P) w base t o.type e i z size bytes ht hi hz hsize hby hzs hsz v n xs hown ad m c news hl hnews h1 b1 b2 hbase
  unfold Oper.wp execOp
  simp only [ho, resolve, invoke, builtin, Sem.run_bind, Sem.run_pure, Result.andThen_ok, List.map_toArray, List.map_cons, List.map_nil, hs, hx, hr]
  exact h v' w' h2 h3

theorem new_cells_at (w : World) (n : Nat) (cs : List Value) {C : Array Value} (hn : n = w.heap.size) (hC : C = cs.toArray) (ty : TypeId) : ∀ j u, cs[j]? = some u → (w.alloc (.cells C ty)).cell? ((⟨n, 0, none⟩ : Addr).add j) = some u := by
  subst hn hC; exact new_cells w cs ty
theorem own_slice {w : World} {base : Nat} {e : TypeId} {size n : Nat} {v : Value} {xs : List Value} (h : w.ownsRow base e size v n xs) : ∃ A c, v = .slice A n c := by
  rcases h.2 with ⟨rfl, rfl⟩ | ⟨g, cap, cur, rfl, _⟩
  · exact ⟨_, _, rfl⟩
  · exact ⟨_, _, rfl⟩
theorem own_ext {w w1 : World} {base : Nat} {e : TypeId} {size n : Nat} {v : Value} {xs : List Value} (h : w.ownsRow base e size v n xs) (hx : Ext w w1) : w1.ownsRow base e size v n xs := by
  refine ⟨h.1, ?_⟩
  rcases h.2 with h2 | ⟨g, cap, cur, hv, hg, hh, r⟩
  · exact .inl h2
  · refine .inr ⟨g, cap, cur, hv, hg, ?_, r⟩
    rw [hx.block ?_]; exact hh
    rcases Nat.lt_or_ge g w.heap.size with hl | hl
    · exact hl
    · rw [Array.getElem?_eq_none hl] at hh; cases hh
theorem own_block {w : World} {base : Nat} {e : TypeId} {size n : Nat} {v : Value} {xs : List Value} (h : w.ownsRow base e size v n xs) : ∀ k, v.ownBlock = some k → base ≤ k := by
  intro k hk
  rcases h.2 with ⟨rfl, _⟩ | ⟨g, cap, cur, rfl, hg, _⟩
  · cases hk
  · simp only [Value.ownBlock, Option.some.injEq] at hk; omega

/-- An array's variable (block s0) whose list has been put together by append: k values so far. -/
structure Acc (w0 : World) (s0 : Nat) (r c : Int) (A : Option Addr) (cap k : Nat) (l : List Val) (wr : World) : Prop where
  ext : Ext w0 wr
  hi : w0.heap.size ≤ s0
  row : wr.heap[s0]? = some (.cells #[.int .i64 r, .int .i64 c, .slice A k cap] 25)
  own : wr.ownsRow (s0 + 1) 34 6 (.slice A k cap) k (vcells l)
theorem lt_of_block {w : World} {b : Nat} {o : Obj} (h : w.heap[b]? = some o) : b < w.heap.size := by
  rcases Nat.lt_or_ge b w.heap.size with hl | hl
  · exact hl
  · rw [Array.getElem?_eq_none hl] at h; cases h
/-- What reads need of it. -/
def AccS (w0 : World) (s0 : Nat) (r c : Int) (A : Option Addr) (cap k : Nat) (W : World) : Prop := Ext w0 W ∧ W.heap[s0]? = some (.cells #[.int .i64 r, .int .i64 c, .slice A k cap] 25)
section
variable {w0 : World} {s0 : Nat} {r c : Int} {A : Option Addr} {cap k : Nat} {l : List Val} {wr : World}
theorem Acc.lt (h : Acc w0 s0 r c A cap k l wr) : s0 < wr.heap.size := lt_of_block h.row
theorem Acc.of_ext (h : Acc w0 s0 r c A cap k l wr) {w1 : World} (hx : Ext wr w1) : Acc w0 s0 r c A cap k l w1 :=
  ⟨h.ext.trans hx, h.hi, by rw [hx.block h.lt]; exact h.row, own_ext h.own hx⟩
theorem Acc.start (w0 : World) (r c : Int) : Acc w0 w0.heap.size r c none 0 0 [] (w0.alloc (.cells #[.int .i64 r, .int .i64 c, .slice none 0 0] 25)) :=
  ⟨(Ext.refl _).alloc _, Nat.le_refl _, heap_alloc_new _ _, World.ownsRow_nil _ _ _ _⟩
theorem Acc.rd (h : Acc w0 s0 r c A cap k l wr) : SlV (s0 + 1) wr A l ∧ k ≤ cap := by
  obtain ⟨A', c', e, hr, hc⟩ := Rd.of_own h.own
  simp only [Value.slice.injEq, true_and] at e
  obtain ⟨rfl, rfl⟩ := e
  exact ⟨hr, hc⟩
theorem Acc.len (h : Acc w0 s0 r c A cap k l wr) : l.length = k := by
  have := h.own.1
  rw [vcells_length] at this
  omega
theorem Acc.step (h : Acc w0 s0 r c A cap k l wr) {x : Val} {v' : Value} {w1 w3 : World} {ty : TypeId} (hx : Ext wr w1)
    (hg : (w1.alloc (.cells x.cells.toArray ty)).grownBy w3 (Value.slice A k cap).ownBlock) (ho : w3.ownsRow (s0 + 1) 34 6 v' (k + 1) (vcells l ++ x.cells)) :
    ∃ A' cap', v' = .slice A' (k + 1) cap' ∧ w3.heap[s0]? = some (.cells #[.int .i64 r, .int .i64 c, .slice A k cap] 25) ∧ Ext w0 w3 ∧ Acc w0 s0 r c A' cap' (k + 1) (l ++ [x]) (w3.setCell ⟨s0, 2, none⟩ v') := by
  obtain ⟨A', cap', rfl⟩ := own_slice ho
  have h1 := h.of_ext hx
  have hlt := h1.lt
  have hnb : some s0 ≠ (Value.slice A k cap).ownBlock := fun e => by have := own_block h.own _ e.symm; omega
  have hrow : w3.heap[s0]? = some (.cells #[.int .i64 r, .int .i64 c, .slice A k cap] 25) := by
    rw [hg.block _ (by simp; omega) hnb, Below.heap_alloc _ _ _ hlt]; exact h1.row
  have hex : Ext w0 w3 := by
    have h2 : Ext w0 (w1.alloc (.cells x.cells.toArray ty)) := h1.ext.alloc _
    exact ⟨hg.os.trans h2.os, hg.tape.trans h2.tape, hg.output.trans h2.output, Nat.le_trans h2.size hg.size, fun b hb => (hg.block b (Nat.lt_of_lt_of_le hb h2.size) (fun e => by have := own_block h.own _ e.symm; have := h.hi; omega)).trans (h2.block hb)⟩
  refine ⟨A', cap', rfl, hrow, hex, Ext.set hex _ h.hi, h.hi, ?_, ?_⟩
  · simp [World.setCell, Array.getElem?_modify, hrow]
  · have : vcells (l ++ [x]) = vcells l ++ x.cells := by simp [vcells]
    rw [this]
    refine ho.kept (row := some s0) ⟨rfl, rfl, rfl, by simp [World.setCell], fun b hb hne => Below.heap_setCell _ _ _ _ (fun e => hne (by simp [e]))⟩ ?_
    right
    intro e
    have := own_block ho s0 e
    omega
end

set_option maxHeartbeats 400000 in
theorem refGet_any (R C i j : Nat) (A : Option Addr) (n cap : Nat) (l : List Val) (w : World) (h : ArrIn w A n cap l) (hn : n = R * C) (hN : n ≤ 4096) (hi : i < R) (hj : j < C) (x : Val) (hx : getV l (i * C + j) = x) :
    Calls Try.prog 31 #[AV R C (.slice A n cap), .int .i64 i, .int .i64 j] w fun e w' => e = .returned (VV x.kind x.mant x.exp x.text x.truth x.fault) ∧ Ext w w' := by
  subst hn
  obtain ⟨hk, hk2⟩ := cell_prod R hi hj hN
  obtain ⟨b, off, rfl, hv, ho⟩ := h.get hk
  rw [hx] at hv
  clear hx ho
  obtain ⟨v0, v1, v2, v3, v4, v5⟩ := hv
  have hbl : b < w.heap.size := lt_of_cell v0
  have w1 : IntKind.i64.wrap ((i : Int) * (C : Int)) = ((i * C : Nat) : Int) := by rw [IntKind.wrap_i64, Int.natCast_mul]; omega
  generalize hjc : i * C = jc at *
  generalize hrc : R * C = rc at *
  clear hjc hrc
  go_enter Try.func31, Try.ntmps31
  go_wp2
  exact bodyPost_ret (v := VV x.kind x.mant x.exp x.text x.truth x.fault) (by simp [results, Try.results31, go_sem]; done) rfl ⟨rfl, by repeat (first | exact Ext.refl _ | exact ext_app _ _ _ _ _ | exact ext_app2 _ _ _ _ _ _ | apply Ext.drew | apply Ext.alloc | apply Ext.more_)⟩

set_option maxHeartbeats 400000 in
theorem refHas_any (r c i j : Int) (s : Value) (w : World) (_hs : s.oneCell' = true) :
    Calls Try.prog 30 #[AV r c s, .int .i64 i, .int .i64 j] w fun e w' => e = .returned (.bool (hasB r c i j)) ∧ Ext w w' := by
  have e : hasB r c i j = (decide (0 ≤ i) && decide (0 ≤ j) && decide (i < r) && decide (j < c)) := by
    unfold hasB
    cases decide (0 ≤ i) <;> cases decide (i < r) <;> cases decide (0 ≤ j) <;> rfl
  rw [e]
  clear e
  go_enter Try.func30, Try.ntmps30
  go_upto_region 1 with (fail)
  refine wp_region_lit ?_
  (refine wpL_read (v := ?_) rfl ?_ ?_; rotate_left 1; (go_simp; first | done | rfl))
  try simp only [Act.put, List.setIfInBounds_toArray, List.set_cons_zero, List.set_cons_succ]
  (refine wpL_read (v := ?_) rfl ?_ ?_; rotate_left 1; (go_simp; first | done | rfl))
  try simp only [Act.put, List.setIfInBounds_toArray, List.set_cons_zero, List.set_cons_succ]
  (refine wpL_read (v := ?_) rfl ?_ ?_; rotate_left 1; (go_simp; first | done | rfl))
  try simp only [Act.put, List.setIfInBounds_toArray, List.set_cons_zero, List.set_cons_succ]
  (refine wpL_gread (v := ?_) (c := ?_) rfl rfl rfl ?_ (fun hc => ?_) ?_; rotate_left 2; (first | exact gc_t _ | exact gc_f _ | exact gc_gt _ _ | exact gc_gf _ _); ((try simp only [gv_of hc]); (try (have hc1 := and_l hc; (try simp only [gv_of hc1]); (try (have hc2 := and_l hc1; (try simp only [gv_of hc2]))))); go_simp; first | done | rfl))
  try simp only [Act.put, List.setIfInBounds_toArray, List.set_cons_zero, List.set_cons_succ]
  (refine wpL_gread (v := ?_) (c := ?_) rfl rfl rfl ?_ (fun hc => ?_) ?_; rotate_left 2; (first | exact gc_t _ | exact gc_f _ | exact gc_gt _ _ | exact gc_gf _ _); ((try simp only [gv_of hc]); (try (have hc1 := and_l hc; (try simp only [gv_of hc1]); (try (have hc2 := and_l hc1; (try simp only [gv_of hc2]))))); go_simp; first | done | rfl))
  try simp only [Act.put, List.setIfInBounds_toArray, List.set_cons_zero, List.set_cons_succ]
  first | (refine wpL_pick_and rfl rfl rfl rfl rfl ?_) | (refine wpL_pick_or rfl rfl rfl rfl rfl ?_)
  try simp only [Act.put, List.setIfInBounds_toArray, List.set_cons_zero, List.set_cons_succ]
  (refine wpL_read (v := ?_) rfl ?_ ?_; rotate_left 1; (go_simp; first | done | rfl))
  try simp only [Act.put, List.setIfInBounds_toArray, List.set_cons_zero, List.set_cons_succ]
  (refine wpL_gread (v := ?_) (c := ?_) rfl rfl rfl ?_ (fun hc => ?_) ?_; rotate_left 2; (first | exact gc_t _ | exact gc_f _ | exact gc_gt _ _ | exact gc_gf _ _); ((try simp only [gv_of hc]); (try (have hc1 := and_l hc; (try simp only [gv_of hc1]); (try (have hc2 := and_l hc1; (try simp only [gv_of hc2]))))); go_simp; first | done | rfl))
  try simp only [Act.put, List.setIfInBounds_toArray, List.set_cons_zero, List.set_cons_succ]
  (refine wpL_gread (v := ?_) (c := ?_) rfl rfl rfl ?_ (fun hc => ?_) ?_; rotate_left 2; (first | exact gc_t _ | exact gc_f _ | exact gc_gt _ _ | exact gc_gf _ _); ((try simp only [gv_of hc]); (try (have hc1 := and_l hc; (try simp only [gv_of hc1]); (try (have hc2 := and_l hc1; (try simp only [gv_of hc2]))))); go_simp; first | done | rfl))
  try simp only [Act.put, List.setIfInBounds_toArray, List.set_cons_zero, List.set_cons_succ]
  (refine wpL_gread (v := ?_) (c := ?_) rfl rfl rfl ?_ (fun hc => ?_) ?_; rotate_left 2; (first | exact gc_t _ | exact gc_f _ | exact gc_gt _ _ | exact gc_gf _ _); ((try simp only [gv_of hc]); (try (have hc1 := and_l hc; (try simp only [gv_of hc1]); (try (have hc2 := and_l hc1; (try simp only [gv_of hc2]))))); go_simp; first | done | rfl))
  try simp only [Act.put, List.setIfInBounds_toArray, List.set_cons_zero, List.set_cons_succ]
  (refine wpL_gread (v := ?_) (c := ?_) rfl rfl rfl ?_ (fun hc => ?_) ?_; rotate_left 2; (first | exact gc_t _ | exact gc_f _ | exact gc_gt _ _ | exact gc_gf _ _); ((try simp only [gv_of hc]); (try (have hc1 := and_l hc; (try simp only [gv_of hc1]); (try (have hc2 := and_l hc1; (try simp only [gv_of hc2]))))); go_simp; first | done | rfl))
  try simp only [Act.put, List.setIfInBounds_toArray, List.set_cons_zero, List.set_cons_succ]
  first | (refine wpL_pick_and rfl rfl rfl rfl rfl ?_) | (refine wpL_pick_or rfl rfl rfl rfl rfl ?_)
  try simp only [Act.put, List.setIfInBounds_toArray, List.set_cons_zero, List.set_cons_succ]
  (refine wpL_read (v := ?_) rfl ?_ ?_; rotate_left 1; (go_simp; first | done | rfl))
  try simp only [Act.put, List.setIfInBounds_toArray, List.set_cons_zero, List.set_cons_succ]
  (refine wpL_gread (v := ?_) (c := ?_) rfl rfl rfl ?_ (fun hc => ?_) ?_; rotate_left 2; (first | exact gc_t _ | exact gc_f _ | exact gc_gt _ _ | exact gc_gf _ _); ((try simp only [gv_of hc]); (try (have hc1 := and_l hc; (try simp only [gv_of hc1]); (try (have hc2 := and_l hc1; (try simp only [gv_of hc2]))))); go_simp; first | done | rfl))
  try simp only [Act.put, List.setIfInBounds_toArray, List.set_cons_zero, List.set_cons_succ]
  (refine wpL_gread (v := ?_) (c := ?_) rfl rfl rfl ?_ (fun hc => ?_) ?_; rotate_left 2; (first | exact gc_t _ | exact gc_f _ | exact gc_gt _ _ | exact gc_gf _ _); ((try simp only [gv_of hc]); (try (have hc1 := and_l hc; (try simp only [gv_of hc1]); (try (have hc2 := and_l hc1; (try simp only [gv_of hc2]))))); go_simp; first | done | rfl))
  try simp only [Act.put, List.setIfInBounds_toArray, List.set_cons_zero, List.set_cons_succ]
  (refine wpL_gread (v := ?_) (c := ?_) rfl rfl rfl ?_ (fun hc => ?_) ?_; rotate_left 2; (first | exact gc_t _ | exact gc_f _ | exact gc_gt _ _ | exact gc_gf _ _); ((try simp only [gv_of hc]); (try (have hc1 := and_l hc; (try simp only [gv_of hc1]); (try (have hc2 := and_l hc1; (try simp only [gv_of hc2]))))); go_simp; first | done | rfl))
  try simp only [Act.put, List.setIfInBounds_toArray, List.set_cons_zero, List.set_cons_succ]
  (refine wpL_gread (v := ?_) (c := ?_) rfl rfl rfl ?_ (fun hc => ?_) ?_; rotate_left 2; (first | exact gc_t _ | exact gc_f _ | exact gc_gt _ _ | exact gc_gf _ _); ((try simp only [gv_of hc]); (try (have hc1 := and_l hc; (try simp only [gv_of hc1]); (try (have hc2 := and_l hc1; (try simp only [gv_of hc2]))))); go_simp; first | done | rfl))
  try simp only [Act.put, List.setIfInBounds_toArray, List.set_cons_zero, List.set_cons_succ]
  first | (refine wpL_pick_and rfl rfl rfl rfl rfl ?_) | (refine wpL_pick_or rfl rfl rfl rfl rfl ?_)
  try simp only [Act.put, List.setIfInBounds_toArray, List.set_cons_zero, List.set_cons_succ]
  (refine wpL_read (v := ?_) rfl ?_ ?_; rotate_left 1; (go_simp; first | done | rfl))
  try simp only [Act.put, List.setIfInBounds_toArray, List.set_cons_zero, List.set_cons_succ]
  refine wpList_nil ?_
  try go_simp
  go_wp2
  go_ret
  exact ⟨rfl, by repeat (first | exact Ext.refl _ | exact ext_app _ _ _ _ _ | exact ext_app2 _ _ _ _ _ _ | apply Ext.drew | apply Ext.alloc | apply Ext.more_)⟩
end Go.Proofs.Ytdhdphgecoplbaa
