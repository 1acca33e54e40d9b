/- shape.build: the walk. -/
import Derived.Test.YtdhdphgecoplbaaBuild
namespace Go.Proofs.Ytdhdphgecoplbaa
open Go.RowKit
theorem wp_append_fits {P : Program} (w : World) {o : Oper} {a : Act} {K : Act → World → Prop} {Q : Exit → Act → World → Prop} (s x : Operand) (t : TypeId)
    (ho : o.op = .call { callee := .builtin .append, args := #[s, x], argTypes := #[t, t] })
    (base : Nat) (e : TypeId) (i : TypeInfo) (size : Nat) (ht : P.underlying t = some (.slice e)) (hi : P.info? e = some i) (hsize : i.size = size)
    (g n cap : Nat) (xs : List Value) (hs : a.eval s = .slice (some ⟨g, 0, none⟩) n cap) (hown : w.ownsRow base e size (.slice (some ⟨g, 0, none⟩) n cap) n xs)
    (ad : Addr) (m c : Nat) (news : List Value) (hx : a.eval x = .slice (some ad) m c) (hl : news.length = m * size) (hnews : ∀ j u, news[j]? = some u → w.cell? (ad.add j) = some u) (h1 : ∀ u ∈ news, u.oneCell' = true)
    (hroom : n + m ≤ cap)
    (h : ∀ w', w'.ownsRow base e size (.slice (some ⟨g, 0, none⟩) (n + m) cap) (n + m) (xs ++ news) → w.grownBy w' (some g) → K (a.put o.dst (.slice (some ⟨g, 0, none⟩) (n + m) cap)) w') : o.wp P a w K Q := by
  obtain ⟨w', hr, h2, h3⟩ := run_append_fits (P := P) w base t o.type e i size ht hi hsize g n cap xs hown ad m c news hl hnews h1 hroom
  unfold Oper.wp execOp
  simp only [ho, resolve, invoke, builtin, Sem.run_bind, Sem.run_pure, Result.andThen_ok, List.map_toArray, List.map_cons, List.map_nil, hs, hx, hr]
  exact h w' h2 h3

theorem BSt.start {w : World} {R C : Nat} (N : Nat) (hN : N ≤ 4096) :
    BSt w.heap.size R C N 0 [] (((w.alloc (Obj.cells #[.int .i64 0, .int .i64 0, .slice none 0 0] 25)).alloc (Obj.cells (madeCells #[.int .i64 0, .int .i64 0, .int .i64 0, .string ⟨#[]⟩, .bool false, .int .i64 0] (N * 6)) 34)).alloc (Obj.cells #[.int .i64 R, .int .i64 C, .slice (some ⟨w.heap.size + 1, 0, none⟩) 0 N] 25)) := by
  refine ⟨by simp, ?_, ?_, ?_⟩
  · rw [Below.heap_alloc _ _ _ (by simp; omega), Below.heap_alloc _ _ _ (by simp), heap_alloc_new]
  · have := heap_alloc_new ((w.alloc (Obj.cells #[.int .i64 0, .int .i64 0, .slice none 0 0] 25)).alloc (Obj.cells (madeCells #[.int .i64 0, .int .i64 0, .int .i64 0, .string ⟨#[]⟩, .bool false, .int .i64 0] (N * 6)) 34)) (Obj.cells #[.int .i64 R, .int .i64 C, .slice (some ⟨w.heap.size + 1, 0, none⟩) 0 N] 25)
    simpa using this
  · refine World.ownsRow.alloc ?_ _
    have := World.ownsRow_made (base := w.heap.size + 1) (e := 34) (size := 6) (w.alloc (Obj.cells #[.int .i64 0, .int .i64 0, .slice none 0 0] 25)) (madeCells #[.int .i64 0, .int .i64 0, .int .i64 0, .string ⟨#[]⟩, .bool false, .int .i64 0] (N * 6)) N (by simp) (by simp only [maxLen]; omega) (by rw [size_madeCells])
    simpa [vcells] using this

theorem BSt.own_later {s0 R C N k : Nat} {l : List Val} {wr w1 : World} (h : BSt s0 R C N k l wr) (hl : Leaves s0 wr w1) (o : Obj) : (w1.alloc o).ownsRow (s0 + 1) 34 6 (.slice (some ⟨s0 + 1, 0, none⟩) k N) k (vcells l) := by
  refine World.ownsRow.alloc ?_ _
  obtain ⟨h1, h2⟩ := h.own
  refine ⟨h1, ?_⟩
  rcases h2 with ⟨h2, _⟩ | ⟨g, cap, cur, hv, hg, hh, r⟩
  · simp at h2
  · simp only [Value.slice.injEq, Option.some.injEq, Addr.mk.injEq, and_true, true_and] at hv
    obtain ⟨rfl, rfl⟩ := hv
    exact .inr ⟨s0 + 1, N, cur, rfl, hg, hl.b1.trans hh, r⟩
theorem Keep.three (s0 : Nat) (a : World) (u v x : Value) : Keep s0 a (((a.setCell ⟨s0, 0, none⟩ u).setCell ⟨s0, 1, none⟩ v).setCell ⟨s0, 2, none⟩ x) :=
  ((Keep.of_set (s0 := s0) a (p := ⟨s0, 0, none⟩) u (.inl rfl)).trans (Keep.of_set (s0 := s0) _ (p := ⟨s0, 1, none⟩) v (.inl rfl))).trans (Keep.of_set (s0 := s0) _ (p := ⟨s0, 2, none⟩) x (.inl rfl))
theorem Rd.set_far {base : Nat} {w : World} {A : Option Addr} {cs : List Value} (h : Rd base w A cs) {p : Addr} (v : Value) (hp : p.block < base) : Rd base (w.setCell p v) A cs :=
  h.blocks fun b hb => Below.heap_setCell _ _ _ _ (by omega)
theorem new_cells (w : World) (cs : List Value) (ty : TypeId) : ∀ j u, cs[j]? = some u → (w.alloc (.cells cs.toArray ty)).cell? ((⟨w.heap.size, 0, none⟩ : Addr).add j) = some u := fun j u hu => by
  rw [Addr.add_mid, World.cell?_alloc_at _ _ _ _ rfl]
  simpa using hu
theorem cells_one (x : Val) : ∀ u ∈ x.cells, u.oneCell' = true := by
  intro u hu
  simp only [Val.cells, List.mem_cons, List.not_mem_nil, or_false] at hu
  rcases hu with rfl | rfl | rfl | rfl | rfl | rfl <;> rfl

set_option maxHeartbeats 1000000 in
theorem build_any (R C : Nat) (cl : FuncId) (capt : Array Value) (g : Nat → Nat → Val) (w : World) (J : Nat → World → Prop) (hR : 1 ≤ R) (hC : 1 ≤ C) (hN : R * C ≤ 4096) (hR' : R ≤ 4096) (hC' : C ≤ 4096)
    (hent : ∀ (args : Array Value) (W : World), (callFunc cl args).run Try.prog W = .ok (.enter cl args) W) (hJ0 : J 0 w) (hJ : ∀ k W W', Keep w.heap.size W W' → J k W → J k W')
    (hcall : ∀ i j W, i < R → j < C → J (i * C + j) W → w.heap.size + 3 ≤ W.heap.size →
      Calls Try.prog cl (#[.int .i64 i, .int .i64 j] ++ capt) W fun e W' => e = .returned (VV (g i j).kind (g i j).mant (g i j).exp (g i j).text (g i j).truth (g i j).fault) ∧ J (i * C + j + 1) W' ∧ Leaves w.heap.size W W') :
    Calls Try.prog 54 #[.int .i64 R, .int .i64 C, .func (.func cl) #[] capt] w fun e w' => ∃ A c, e = .returned (AV R C (.slice A (R * C) c)) ∧ SlV w.heap.size w' A (vals g C (R * C)) ∧ R * C ≤ c ∧ J (R * C) w' := by
  obtain ⟨i0, hi, hz0, hz1, hz2⟩ := info_parts info_val
  have hw : IntKind.i64.wrap ((R : Int) * (C : Int)) = ((R * C : Nat) : Int) := by rw [IntKind.wrap_i64, Int.natCast_mul]; omega
  have hmk : ∀ (N : Nat) (W : World), N ≤ 4096 → (Instr.makeSlice 22 (.int .i64 0) (.int .i64 (N : Int))).run Try.prog W = .ok (.slice (some ⟨W.heap.size, 0, none⟩) 0 N) (W.alloc (.cells (madeCells (VV 0 0 0 ⟨#[]⟩ false 0).cells (N * 6)) 34)) := fun N W hN => by
    have := run_make (P := Try.prog) W 22 34 i0 _ Try.underlying22 hi hz0 .i64 .i64 0 (N : Int) (by omega) (by omega) (by rw [hz2]; omega) (by omega)
    simpa [hz1] using this
  generalize hNN : R * C = N at *
  have hmk' := fun W => hmk N W hN
  clear hmk
  have HN := Lib.hid hNN
  clear hNN
  have HC := Lib.hid hcall
  clear hcall
  have HJ := Lib.hid hJ
  clear hJ
  go_enter Try.func54, Try.ntmps54
  go_wp2
  have hst0 := BSt.start (w := w) (R := R) (C := C) N hN
  have hj0 : J 0 (((w.alloc (Obj.cells #[.int .i64 0, .int .i64 0, .slice none 0 0] 25)).alloc (Obj.cells (madeCells #[.int .i64 0, .int .i64 0, .int .i64 0, .string ⟨#[]⟩, .bool false, .int .i64 0] (N * 6)) 34)).alloc (Obj.cells #[.int .i64 R, .int .i64 C, .slice (some ⟨w.heap.size + 1, 0, none⟩) 0 N] 25)) := HJ.out 0 w _ (Keep.of_ext (by repeat (first | exact Ext.refl _ | apply Ext.drew | apply Ext.alloc | apply Ext.more_))) hJ0
  go_loopw [18] (fun i wr => ∃ r : Nat, r ≤ R ∧ i = .int .i64 r ∧ BSt w.heap.size R C N (r * C) (vals g C (r * C)) wr ∧ Hid (J (r * C) wr)) (fun i _ => R - (intOf i).toNat)
  case atStart => exact ⟨0, Nat.zero_le _, rfl, by simpa [vals] using hst0, by show J _ _; simpa using hj0⟩
  case round =>
    clear hst0 hj0
    obtain ⟨r, hr, rfl, hst, HJr⟩ := hrel
    by_cases hlt : r < R
    · go_wp2
      obtain ⟨wo, rfl⟩ : ∃ wo : World, wo = wr := ⟨_, rfl⟩
      go_loopw [22] (fun i wr => ∃ j : Nat, j ≤ C ∧ i = .int .i64 j ∧ BSt w.heap.size R C N (r * C + j) (vals g C (r * C + j)) wr ∧ Hid (J (r * C + j) wr)) (fun i _ => C - (intOf i).toNat)
      case atStart => exact ⟨0, Nat.zero_le _, rfl, by simpa using hst, by show J _ _; simpa using HJr.out⟩
      case round =>
        clear hst HJr
        obtain ⟨j, hj, rfl, hst, HJr⟩ := hrel
        by_cases hjt : j < C
        · go_wp2
          have hkN : r * C + j < N := by
            rw [← HN.out]
            have : (r + 1) * C ≤ R * C := Nat.mul_le_mul_right C hlt
            rw [Nat.succ_mul] at this
            omega
          refine wp_plan (S := fun W => W.heap[w.heap.size + 1 + 1]? = some (.cells #[.int .i64 R, .int .i64 C, .slice (some ⟨w.heap.size + 1, 0, none⟩) (r * C + j) N] 25)) [(0, 0), (1, 0), (2, 0), (3, 0), (4, 0), (5, 1), (6, 1), (7, 1), (8, 0), (9, 2)] [9] (by kernel_rfl) (by kernel_rfl) (by kernel_rfl) (fun _ _ d _ _ h => by cases d <;> exact h) hst.b2 ?_
          (refine wpPl_read (v := ?_) rfl ?_ (fun w1 h1 => ?_) ?_; rotate_left 1; rfl; (go_simp; first | done | rfl))
          try simp only [Act.put, List.setIfInBounds_toArray, List.set_cons_zero, List.set_cons_succ]
          (refine wpPl_read (v := ?_) rfl ?_ (fun w1 h1 => ?_) ?_; rotate_left 1; rfl; (have h2 := cell_of_row _ _ 2 _ _ _ h1; clear h1; go_simp; first | done | rfl))
          try simp only [Act.put, List.setIfInBounds_toArray, List.set_cons_zero, List.set_cons_succ]
          (refine wpPl_read (v := ?_) rfl ?_ (fun w1 h1 => ?_) ?_; rotate_left 1; rfl; (clear h1; go_simp; first | done | rfl))
          try simp only [Act.put, List.setIfInBounds_toArray, List.set_cons_zero, List.set_cons_succ]
          (refine wpPl_read (v := ?_) rfl ?_ (fun w1 h1 => ?_) ?_; rotate_left 1; rfl; (clear h1; go_simp; first | done | rfl))
          try simp only [Act.put, List.setIfInBounds_toArray, List.set_cons_zero, List.set_cons_succ]
          (refine wpPl_read (v := ?_) rfl ?_ (fun w1 h1 => ?_) ?_; rotate_left 1; rfl; (clear h1; go_simp; first | done | rfl))
          try simp only [Act.put, List.setIfInBounds_toArray, List.set_cons_zero, List.set_cons_succ]
          (refine wpPl_eff rfl ?_ (fun K hK => ?_); rfl; go_simp)
          refine (HC.out r j _ hlt hjt (HJ.out _ _ _ ((Keep.refl _ _).drew) HJr.out) hst.size).mono ?_
          rintro e w1 ⟨rfl, hJ1, hL1⟩
          have hL : Leaves w.heap.size wr w1 := ⟨hL1.size, hL1.b0, hL1.b1, hL1.b2⟩
          refine hK _ _ (hL.b2.trans hst.b2) ?_
          try simp only [Act.put, List.setIfInBounds_toArray, List.set_cons_zero, List.set_cons_succ]
          (refine wpPl_eff rfl ?_ (fun K hK => ?_); rfl; go_simp)
          refine hK _ _ ((Below.heap_alloc _ _ _ (by have := hL.size; have := hst.size; omega)).trans (hL.b2.trans hst.b2)) ?_
          try simp only [Act.put, List.setIfInBounds_toArray, List.set_cons_zero, List.set_cons_succ]
          (refine wpPl_eff rfl ?_ (fun K hK => ?_); rfl)
          refine wp_append_fits _ _ _ _ rfl (w.heap.size + 1) 34 i0 6 Try.underlying22 hi hz1 (w.heap.size + 1) (r * C + j) N (vcells (vals g C (r * C + j))) rfl (hst.own_later hL _) ⟨w1.heap.size, 0, none⟩ 1 1 (g r j).cells rfl rfl (new_cells _ _ _) (cells_one _) (by omega) ?_
          intro w3 ho3 hg3
          refine hK _ _ ((hg3.block _ (by have := hL.size; have := hst.size; simp; omega) (by simp)).trans ((Below.heap_alloc _ _ _ (by have := hL.size; have := hst.size; omega)).trans (hL.b2.trans hst.b2))) ?_
          try simp only [Act.put, List.setIfInBounds_toArray, List.set_cons_zero, List.set_cons_succ]
          (refine wpPl_read (v := ?_) rfl ?_ (fun w1 h1 => ?_) ?_; rotate_left 1; rfl; (clear h1; go_simp; first | done | rfl))
          try simp only [Act.put, List.setIfInBounds_toArray, List.set_cons_zero, List.set_cons_succ]
          have hb2 : w3.heap[w.heap.size + 1 + 1]? = some (.cells #[.int .i64 R, .int .i64 C, .slice (some ⟨w.heap.size + 1, 0, none⟩) (r * C + j) N] 25) := (hg3.block _ (by have := hL.size; have := hst.size; simp; omega) (by simp)).trans ((Below.heap_alloc _ _ _ (by have := hL.size; have := hst.size; omega)).trans (hL.b2.trans hst.b2))
          have c2 := cell_of_row _ _ 2 _ _ _ hb2
          have f2 := frozen_of_row _ _ 2 _ _ hb2
          have hst2 : BSt w.heap.size R C N (r * C + (j + 1)) (vals g C (r * C + (j + 1))) (w3.setCell ⟨w.heap.size + 1 + 1, 2, none⟩ (.slice (some ⟨w.heap.size + 1, 0, none⟩) (r * C + j + 1) N)) := by
            rw [show r * C + (j + 1) = r * C + j + 1 by omega, vals_succ g C r j hjt]
            exact hst.step hL hg3 ho3
          have hJ3 : Hid (J (r * C + (j + 1)) (w3.setCell ⟨w.heap.size + 1 + 1, 2, none⟩ (.slice (some ⟨w.heap.size + 1, 0, none⟩) (r * C + j + 1) N))) :=
            HJ.out _ _ _ (((Keep.of_ext ((Ext.refl w1).alloc _)).trans (Keep.of_grown hg3)).trans (Keep.of_set w3 _ (.inr (.inr rfl)))) hJ1
          clear hb2 ho3 hg3 hst
          (refine wpPl_tail rfl ?_ (fun K hK => ?_); rfl; go_simp)
          refine hK _ _ ?_
          try simp only [Act.put, List.setIfInBounds_toArray, List.set_cons_zero, List.set_cons_succ]
          refine wpPl_nil ?_
          go_wp2
          exact ⟨⟨j + 1, by omega, by go_num, hst2, hJ3⟩, by simp [intOf]; omega⟩
        · go_wp2
          obtain rfl : j = C := by omega
          refine ⟨⟨r + 1, by omega, by go_num, by rw [Nat.succ_mul]; exact hst, by rw [Nat.succ_mul]; exact HJr⟩, by simp [intOf]; omega⟩
    · obtain rfl : r = R := by omega
      have e := HN.out
      rw [e] at hst HJr
      clear e
      have c20 := cell_of_row _ _ 0 _ _ _ hst.b2
      have c21 := cell_of_row _ _ 1 _ _ _ hst.b2
      have c22 := cell_of_row _ _ 2 _ _ _ hst.b2
      have c00 := cell_of_row _ _ 0 _ _ _ hst.b0
      have c01 := cell_of_row _ _ 1 _ _ _ hst.b0
      have c02 := cell_of_row _ _ 2 _ _ _ hst.b0
      have f00 := frozen_of_row _ _ 0 _ _ hst.b0
      have f01 := frozen_of_row _ _ 1 _ _ hst.b0
      have f02 := frozen_of_row _ _ 2 _ _ hst.b0
      go_wp2
      refine bodyPost_ret (results_cell_row (by rfl) _ _ w.heap.size 25 #[.int .i64 r, .int .i64 C, .slice (some ⟨w.heap.size + 1, 0, none⟩) N N] (0, 0) _ (by rfl) ?_ Try.underlying25 (by rfl) (by kernel_rfl)) rfl ⟨some ⟨w.heap.size + 1, 0, none⟩, N, rfl, ?_, Nat.le_refl _, HJ.out _ _ _ (Keep.three _ _ _ _ _) HJr.out⟩
      · simp [World.setCell, Array.getElem?_modify, hst.b0]
      · obtain ⟨A, c, hA, hrd, _⟩ := Rd.of_own hst.own
        simp only [Value.slice.injEq, true_and] at hA
        obtain ⟨rfl, rfl⟩ := hA
        exact Rd.mono (((hrd.set_far _ (by simp)).set_far _ (by simp)).set_far _ (by simp)) (by omega)
end Go.Proofs.Ytdhdphgecoplbaa
