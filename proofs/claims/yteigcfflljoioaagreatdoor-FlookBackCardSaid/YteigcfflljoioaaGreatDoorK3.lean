/- What the rows' proofs lean on: the contracts of the functions that they reach, and plain facts (part K3). -/
import Derived.WalkKit
import Derived.WalkLawsBesides
import Derived.WalkSpells
import Derived.Outline
import Derived.Below
import Derived.Deep.RegionHeld3
import Derived.Deep.DeepCutAuto
import Derived.Deep.AppendLies
import Derived.Maps.AppendAt
import Derived.Lib.Hide
import Derived.OrdersHeld
import Derived.Test.YteigcfflljoioaaGreatDoorProg
import Derived.Shelf.Strings.Builder1
import Derived.Shelf.Strings.Builder2
import Derived.Shelf.Small.Bits
import Derived.Shelf.Small.Strs
import Derived.Shelf.Strings.BuilderF
import Derived.Shelf.Strconv.Itoa0
import Derived.Shelf.Strconv.Itoa1
import Derived.Shelf.LaysM
import Derived.Shelf.Strconv.Itoa2
import Derived.Shelf.Strings.Prefix
import Derived.Shelf.Bits.Mul64
import Derived.Shelf.Strings.Repeat
import Derived.Lib.ItoaMem
import Derived.Lib.OthersKept
import Derived.Deep.CutBlock
import Derived.Laws.Bits64b
import Derived.Lib.AppendZeros
import Derived.Lib.Bytealg
import Derived.Laws.RangeAny
import Derived.Maps.OwnSet
import Derived.Maps.Own
import Derived.Laws.EntriesVeiled
import Derived.Lib.ConvBytes
import Derived.Lib.SlBytesRow
import Derived.Lib.SmallJoins
import Derived.RegionTactic
import Derived.Test.YteigcfflljoioaaGreatDoorK2
set_option linter.unusedSimpArgs false
set_option linter.unusedVariables false
set_option maxRecDepth 100000
namespace Go.Proofs.YteigcfflljoioaaGreatDoor
open Go.RowKit
/-- Memory but for the blocks of one call of build. -/
structure Keep (s0 : Nat) (W W' : World) : Prop where
  os : W'.os = W.os
  tape : W'.tape = W.tape
  output : W'.output = W.output
  size : W.heap.size ≤ W'.heap.size
  block : ∀ b, b < W.heap.size → b ≠ s0 → b ≠ s0 + 1 → b ≠ s0 + 1 + 1 → W'.heap[b]? = W.heap[b]?
/-- The blocks of one call of build. -/
structure Leaves (s0 : Nat) (W W' : World) : Prop where
  size : W.heap.size ≤ W'.heap.size
  b0 : W'.heap[s0]? = W.heap[s0]?
  b1 : W'.heap[s0 + 1]? = W.heap[s0 + 1]?
  b2 : W'.heap[s0 + 1 + 1]? = W.heap[s0 + 1 + 1]?
theorem Keep.refl (s0 : Nat) (W : World) : Keep s0 W W := ⟨rfl, rfl, rfl, Nat.le_refl _, fun _ _ _ _ _ => rfl⟩
theorem Keep.trans {s0 : Nat} {a b c : World} (h : Keep s0 a b) (k : Keep s0 b c) : Keep s0 a c :=
  ⟨k.os.trans h.os, k.tape.trans h.tape, k.output.trans h.output, Nat.le_trans h.size k.size, fun i hi h0 h1 h2 => (k.block i (Nat.lt_of_lt_of_le hi h.size) h0 h1 h2).trans (h.block i hi h0 h1 h2)⟩
theorem Keep.of_ext {s0 : Nat} {a b : World} (h : Ext a b) : Keep s0 a b := ⟨h.os, h.tape, h.output, h.size, fun _ hi _ _ _ => h.block hi⟩
theorem Keep.of_grown {s0 : Nat} {a b : World} (h : a.grownBy b (some (s0 + 1))) : Keep s0 a b := ⟨h.os, h.tape, h.output, h.size, fun i hi _ h1 _ => h.block i hi (fun e => h1 (by simpa using e))⟩
theorem Keep.of_set {s0 : Nat} (a : World) {p : Addr} (v : Value) (hp : p.block = s0 ∨ p.block = s0 + 1 ∨ p.block = s0 + 1 + 1) : Keep s0 a (a.setCell p v) :=
  ⟨rfl, rfl, rfl, by simp [World.setCell], fun i hi h0 h1 h2 => Below.heap_setCell _ _ _ _ (by omega)⟩
theorem Keep.drew {s0 : Nat} {a b : World} (h : Keep s0 a b) : Keep s0 a b.drew := ⟨h.os, h.tape, h.output, h.size, h.block⟩
theorem Leaves.of_ext {s0 : Nat} {a b : World} (h : Ext a b) (hs : s0 + 3 ≤ a.heap.size) : Leaves s0 a b := ⟨h.size, h.block (by omega), h.block (by omega), h.block (by omega)⟩
/-- What stands in memory behind k calls. -/
structure BSt (s0 R C N k : Nat) (l : List Val) (wr : World) : Prop where
  size : s0 + 3 ≤ wr.heap.size
  b0 : wr.heap[s0]? = some (.cells #[.int .i64 0, .int .i64 0, .slice none 0 0] 34)
  b2 : wr.heap[s0 + 1 + 1]? = some (.cells #[.int .i64 R, .int .i64 C, .slice (some ⟨s0 + 1, 0, none⟩) k N] 34)
  own : wr.ownsRow (s0 + 1) 26 6 (.slice (some ⟨s0 + 1, 0, none⟩) k N) k (vcells l)
def vals (g : Nat → Nat → Val) (C k : Nat) : List Val := (List.range k).map fun t => g (t / C) (t % C)
theorem vals_succ (g : Nat → Nat → Val) (C i j : Nat) (hj : j < C) : vals g C (i * C + j + 1) = vals g C (i * C + j) ++ [g i j] := by
  unfold vals
  rw [List.range_succ, List.map_append]
  have h1 : (i * C + j) / C = i := by rw [Nat.add_comm, Nat.add_mul_div_right _ _ (by omega), Nat.div_eq_of_lt hj]; omega
  have h2 : (i * C + j) % C = j := by rw [Nat.add_comm, Nat.add_mul_mod_self_right, Nat.mod_eq_of_lt hj]
  simp [h1, h2]
theorem vals_length (g : Nat → Nat → Val) (C k : Nat) : (vals g C k).length = k := by simp [vals]
theorem BSt.step {s0 R C N k : Nat} {l : List Val} {x : Val} {wr w1 w3 : World} {ty : TypeId} (h : BSt s0 R C N k l wr) (hl : Leaves s0 wr w1) (hg : (w1.alloc (.cells x.cells.toArray ty)).grownBy w3 (some (s0 + 1)))
    (ho : w3.ownsRow (s0 + 1) 26 6 (.slice (some ⟨s0 + 1, 0, none⟩) (k + 1) N) (k + 1) (vcells l ++ x.cells)) :
    BSt s0 R C N (k + 1) (l ++ [x]) (w3.setCell ⟨s0 + 1 + 1, 2, none⟩ (.slice (some ⟨s0 + 1, 0, none⟩) (k + 1) N)) := by
  have hs1 := hl.size
  have hs := h.size
  have hz : (w1.alloc (.cells x.cells.toArray ty)).heap.size = w1.heap.size + 1 := by simp
  have hs3 := hg.size
  have hb : ∀ b, b < w1.heap.size → b ≠ s0 + 1 → w3.heap[b]? = w1.heap[b]? := fun b hb hn => (hg.block b (by omega) (by simpa using hn)).trans (Below.heap_alloc _ _ _ hb)
  refine ⟨by simp [World.setCell]; omega, ?_, ?_, ?_⟩
  · rw [Below.heap_setCell _ _ _ _ (by simp only; omega), hb s0 (by omega) (by omega), hl.b0, h.b0]
  · have h2 : w3.heap[s0 + 1 + 1]? = some (.cells #[.int .i64 R, .int .i64 C, .slice (some ⟨s0 + 1, 0, none⟩) k N] 34) := by rw [hb (s0 + 1 + 1) (by omega) (by omega), hl.b2, h.b2]
    simp [World.setCell, Array.getElem?_modify, h2]
  · have : vcells (l ++ [x]) = vcells l ++ x.cells := by simp [vcells]
    rw [this]
    exact ho.kept (row := some (s0 + 1 + 1)) ⟨rfl, rfl, rfl, by simp [World.setCell], fun b hb hne => Below.heap_setCell _ _ _ _ (fun e => hne (by simp [e]))⟩ (.inr (by simp [Value.ownBlock]))
end Go.Proofs.YteigcfflljoioaaGreatDoor
namespace Go.Proofs.YteigcfflljoioaaGreatDoor
open Go.RowKit
theorem wp_append_fits {P : Program} (w : World) {o : Oper} {a : Act} {K : Act → World → Prop} {Q : Exit → Act → World → Prop} (s x : Operand) (t : TypeId)
    (ho : o.op = .call { callee := .builtin .append, args := #[s, x], argTypes := #[t, t] })
    (base : Nat) (e : TypeId) (i : TypeInfo) (size : Nat) (ht : P.underlying t = some (.slice e)) (hi : P.info? e = some i) (hsize : i.size = size)
    (g n cap : Nat) (xs : List Value) (hs : a.eval s = .slice (some ⟨g, 0, none⟩) n cap) (hown : w.ownsRow base e size (.slice (some ⟨g, 0, none⟩) n cap) n xs)
    (ad : Addr) (m c : Nat) (news : List Value) (hx : a.eval x = .slice (some ad) m c) (hl : news.length = m * size) (hnews : ∀ j u, news[j]? = some u → w.cell? (ad.add j) = some u) (h1 : ∀ u ∈ news, u.oneCell' = true)
    (hroom : n + m ≤ cap)
    (h : ∀ w', w'.ownsRow base e size (.slice (some ⟨g, 0, none⟩) (n + m) cap) (n + m) (xs ++ news) → w.grownBy w' (some g) → K (a.put o.dst (.slice (some ⟨g, 0, none⟩) (n + m) cap)) w') : o.wp P a w K Q := by
  obtain ⟨w', hr, h2, h3⟩ := run_append_fits (P := P) w base t o.type e i size ht hi hsize g n cap xs hown ad m c news hl hnews h1 hroom
  unfold Oper.wp execOp
  simp only [ho, resolve, invoke, builtin, Sem.run_bind, Sem.run_pure, Result.andThen_ok, List.map_toArray, List.map_cons, List.map_nil, hs, hx, hr]
  exact h w' h2 h3
theorem BSt.start {w : World} {R C : Nat} (N : Nat) (hN : N ≤ 4096) :
    BSt w.heap.size R C N 0 [] (((w.alloc (Obj.cells #[.int .i64 0, .int .i64 0, .slice none 0 0] 34)).alloc (Obj.cells (madeCells #[.int .i64 0, .int .i64 0, .int .i64 0, .string ⟨#[]⟩, .bool false, .int .i64 0] (N * 6)) 26)).alloc (Obj.cells #[.int .i64 R, .int .i64 C, .slice (some ⟨w.heap.size + 1, 0, none⟩) 0 N] 34)) := by
  refine ⟨by simp, ?_, ?_, ?_⟩
  · rw [Below.heap_alloc _ _ _ (by simp; omega), Below.heap_alloc _ _ _ (by simp), heap_alloc_new]
  · have := heap_alloc_new ((w.alloc (Obj.cells #[.int .i64 0, .int .i64 0, .slice none 0 0] 34)).alloc (Obj.cells (madeCells #[.int .i64 0, .int .i64 0, .int .i64 0, .string ⟨#[]⟩, .bool false, .int .i64 0] (N * 6)) 26)) (Obj.cells #[.int .i64 R, .int .i64 C, .slice (some ⟨w.heap.size + 1, 0, none⟩) 0 N] 34)
    simpa using this
  · refine World.ownsRow.alloc ?_ _
    have := World.ownsRow_made (base := w.heap.size + 1) (e := 26) (size := 6) (w.alloc (Obj.cells #[.int .i64 0, .int .i64 0, .slice none 0 0] 34)) (madeCells #[.int .i64 0, .int .i64 0, .int .i64 0, .string ⟨#[]⟩, .bool false, .int .i64 0] (N * 6)) N (by simp) (by simp only [maxLen]; omega) (by rw [size_madeCells])
    simpa [vcells] using this
theorem BSt.own_later {s0 R C N k : Nat} {l : List Val} {wr w1 : World} (h : BSt s0 R C N k l wr) (hl : Leaves s0 wr w1) (o : Obj) : (w1.alloc o).ownsRow (s0 + 1) 26 6 (.slice (some ⟨s0 + 1, 0, none⟩) k N) k (vcells l) := by
  refine World.ownsRow.alloc ?_ _
  obtain ⟨h1, h2⟩ := h.own
  refine ⟨h1, ?_⟩
  rcases h2 with ⟨h2, _⟩ | ⟨g, cap, cur, hv, hg, hh, r⟩
  · simp at h2
  · simp only [Value.slice.injEq, Option.some.injEq, Addr.mk.injEq, and_true, true_and] at hv
    obtain ⟨rfl, rfl⟩ := hv
    exact .inr ⟨s0 + 1, N, cur, rfl, hg, hl.b1.trans hh, r⟩
theorem Keep.three (s0 : Nat) (a : World) (u v x : Value) : Keep s0 a (((a.setCell ⟨s0, 0, none⟩ u).setCell ⟨s0, 1, none⟩ v).setCell ⟨s0, 2, none⟩ x) :=
  ((Keep.of_set (s0 := s0) a (p := ⟨s0, 0, none⟩) u (.inl rfl)).trans (Keep.of_set (s0 := s0) _ (p := ⟨s0, 1, none⟩) v (.inl rfl))).trans (Keep.of_set (s0 := s0) _ (p := ⟨s0, 2, none⟩) x (.inl rfl))
theorem Rd.set_far {base : Nat} {w : World} {A : Option Addr} {cs : List Value} (h : Rd base w A cs) {p : Addr} (v : Value) (hp : p.block < base) : Rd base (w.setCell p v) A cs :=
  h.blocks fun b hb => Below.heap_setCell _ _ _ _ (by omega)
theorem new_cells (w : World) (cs : List Value) (ty : TypeId) : ∀ j u, cs[j]? = some u → (w.alloc (.cells cs.toArray ty)).cell? ((⟨w.heap.size, 0, none⟩ : Addr).add j) = some u := fun j u hu => by
  rw [Addr.add_mid, World.cell?_alloc_at _ _ _ _ rfl]
  simpa using hu
theorem cells_one (x : Val) : ∀ u ∈ x.cells, u.oneCell' = true := by
  intro u hu
  simp only [Val.cells, List.mem_cons, List.not_mem_nil, or_false] at hu
  rcases hu with rfl | rfl | rfl | rfl | rfl | rfl <;> rfl
set_option maxHeartbeats 1000000 in
theorem build_any (R C : Nat) (cl : FuncId) (capt : Array Value) (g : Nat → Nat → Val) (w : World) (J : Nat → World → Prop) (hR : 1 ≤ R) (hC : 1 ≤ C) (hN : R * C ≤ 4096) (hR' : R ≤ 4096) (hC' : C ≤ 4096)
    (hent : ∀ (args : Array Value) (W : World), (callFunc cl args).run Tryz.prog W = .ok (.enter cl args) W) (hJ0 : J 0 w) (hJ : ∀ k W W', Keep w.heap.size W W' → J k W → J k W')
    (hcall : ∀ i j W, i < R → j < C → J (i * C + j) W → w.heap.size + 3 ≤ W.heap.size →
      Calls Tryz.prog cl (#[.int .i64 i, .int .i64 j] ++ capt) W fun e W' => e = .returned (VV (g i j).kind (g i j).mant (g i j).exp (g i j).text (g i j).truth (g i j).fault) ∧ J (i * C + j + 1) W' ∧ Leaves w.heap.size W W') :
    Calls Tryz.prog 93 #[.int .i64 R, .int .i64 C, .func (.func cl) #[] capt] w fun e w' => ∃ A c, e = .returned (AV R C (.slice A (R * C) c)) ∧ SlV w.heap.size w' A (vals g C (R * C)) ∧ R * C ≤ c ∧ J (R * C) w' := by
  obtain ⟨i0, hi, hz0, hz1, hz2⟩ := info_parts info_val
  have hw : IntKind.i64.wrap ((R : Int) * (C : Int)) = ((R * C : Nat) : Int) := by rw [IntKind.wrap_i64, Int.natCast_mul]; omega
  have hmk : ∀ (N : Nat) (W : World), N ≤ 4096 → (Instr.makeSlice 22 (.int .i64 0) (.int .i64 (N : Int))).run Tryz.prog W = .ok (.slice (some ⟨W.heap.size, 0, none⟩) 0 N) (W.alloc (.cells (madeCells (VV 0 0 0 ⟨#[]⟩ false 0).cells (N * 6)) 26)) := fun N W hN => by
    have := run_make (P := Tryz.prog) W 22 26 i0 _ Tryz.underlying22 hi hz0 .i64 .i64 0 (N : Int) (by omega) (by omega) (by rw [hz2]; omega) (by omega)
    simpa [hz1] using this
  generalize hNN : R * C = N at *
  have hmk' := fun W => hmk N W hN
  clear hmk
  have HN := Lib.hid hNN
  clear hNN
  have HC := Lib.hid hcall
  clear hcall
  have HJ := Lib.hid hJ
  clear hJ
  go_enter Tryz.func93, Tryz.ntmps93
  go_wp2
  have hst0 := BSt.start (w := w) (R := R) (C := C) N hN
  have hj0 : J 0 (((w.alloc (Obj.cells #[.int .i64 0, .int .i64 0, .slice none 0 0] 34)).alloc (Obj.cells (madeCells #[.int .i64 0, .int .i64 0, .int .i64 0, .string ⟨#[]⟩, .bool false, .int .i64 0] (N * 6)) 26)).alloc (Obj.cells #[.int .i64 R, .int .i64 C, .slice (some ⟨w.heap.size + 1, 0, none⟩) 0 N] 34)) := HJ.out 0 w _ (Keep.of_ext (by repeat (first | exact Ext.refl _ | apply Ext.drew | apply Ext.alloc | apply Ext.more_))) hJ0
  go_loopw [18] (fun i wr => ∃ r : Nat, r ≤ R ∧ i = .int .i64 r ∧ BSt w.heap.size R C N (r * C) (vals g C (r * C)) wr ∧ Hid (J (r * C) wr)) (fun i _ => R - (intOf i).toNat)
  case atStart => exact ⟨0, Nat.zero_le _, rfl, by simpa [vals] using hst0, by show J _ _; simpa using hj0⟩
  case round =>
    clear hst0 hj0
    obtain ⟨r, hr, rfl, hst, HJr⟩ := hrel
    by_cases hlt : r < R
    · go_wp2
      obtain ⟨wo, rfl⟩ : ∃ wo : World, wo = wr := ⟨_, rfl⟩
      go_loopw [22] (fun i wr => ∃ j : Nat, j ≤ C ∧ i = .int .i64 j ∧ BSt w.heap.size R C N (r * C + j) (vals g C (r * C + j)) wr ∧ Hid (J (r * C + j) wr)) (fun i _ => C - (intOf i).toNat)
      case atStart => exact ⟨0, Nat.zero_le _, rfl, by simpa using hst, by show J _ _; simpa using HJr.out⟩
      case round =>
        clear hst HJr
        obtain ⟨j, hj, rfl, hst, HJr⟩ := hrel
        by_cases hjt : j < C
        · go_wp2
          have hkN : r * C + j < N := by
            rw [← HN.out]
            have : (r + 1) * C ≤ R * C := Nat.mul_le_mul_right C hlt
            rw [Nat.succ_mul] at this
            omega
          refine wp_plan (S := fun W => W.heap[w.heap.size + 1 + 1]? = some (.cells #[.int .i64 R, .int .i64 C, .slice (some ⟨w.heap.size + 1, 0, none⟩) (r * C + j) N] 34)) [(0, 0), (1, 0), (2, 0), (3, 0), (4, 0), (5, 1), (6, 1), (7, 1), (8, 0), (9, 2)] [9] (by kernel_rfl) (by kernel_rfl) (by kernel_rfl) (fun _ _ d _ _ h => by cases d <;> exact h) hst.b2 ?_
          (refine wpPl_read (v := ?_) rfl ?_ (fun w1 h1 => ?_) ?_; rotate_left 1; rfl; (go_simp; first | done | rfl))
          try simp only [Act.put, zqA, zqB, zqC]
          (refine wpPl_read (v := ?_) rfl ?_ (fun w1 h1 => ?_) ?_; rotate_left 1; rfl; (have h2 := cell_of_row _ _ 2 _ _ _ h1; clear h1; go_simp; first | done | rfl))
          try simp only [Act.put, zqA, zqB, zqC]
          iterate 3 ((refine wpPl_read (v := ?_) rfl ?_ (fun w1 h1 => ?_) ?_; rotate_left 1; rfl; (clear h1; go_simp; first | done | rfl)); try simp only [Act.put, zqA, zqB, zqC])
          (refine wpPl_eff rfl ?_ (fun K hK => ?_); rfl; go_simp)
          refine (HC.out r j _ hlt hjt (HJ.out _ _ _ ((Keep.refl _ _).drew) HJr.out) hst.size).mono ?_
          rintro e w1 ⟨rfl, hJ1, hL1⟩
          have hL : Leaves w.heap.size wr w1 := ⟨hL1.size, hL1.b0, hL1.b1, hL1.b2⟩
          refine hK _ _ (hL.b2.trans hst.b2) ?_
          try simp only [Act.put, zqA, zqB, zqC]
          (refine wpPl_eff rfl ?_ (fun K hK => ?_); rfl; go_simp)
          refine hK _ _ ((Below.heap_alloc _ _ _ (by have := hL.size; have := hst.size; omega)).trans (hL.b2.trans hst.b2)) ?_
          try simp only [Act.put, zqA, zqB, zqC]
          (refine wpPl_eff rfl ?_ (fun K hK => ?_); rfl)
          refine wp_append_fits _ _ _ _ rfl (w.heap.size + 1) 26 i0 6 Tryz.underlying22 hi hz1 (w.heap.size + 1) (r * C + j) N (vcells (vals g C (r * C + j))) rfl (hst.own_later hL _) ⟨w1.heap.size, 0, none⟩ 1 1 (g r j).cells rfl rfl (new_cells _ _ _) (cells_one _) (by omega) ?_
          intro w3 ho3 hg3
          refine hK _ _ ((hg3.block _ (by have := hL.size; have := hst.size; simp; omega) (by simp)).trans ((Below.heap_alloc _ _ _ (by have := hL.size; have := hst.size; omega)).trans (hL.b2.trans hst.b2))) ?_
          try simp only [Act.put, zqA, zqB, zqC]
          (refine wpPl_read (v := ?_) rfl ?_ (fun w1 h1 => ?_) ?_; rotate_left 1; rfl; (clear h1; go_simp; first | done | rfl))
          try simp only [Act.put, zqA, zqB, zqC]
          have hb2 : w3.heap[w.heap.size + 1 + 1]? = some (.cells #[.int .i64 R, .int .i64 C, .slice (some ⟨w.heap.size + 1, 0, none⟩) (r * C + j) N] 34) := (hg3.block _ (by have := hL.size; have := hst.size; simp; omega) (by simp)).trans ((Below.heap_alloc _ _ _ (by have := hL.size; have := hst.size; omega)).trans (hL.b2.trans hst.b2))
          have c2 := cell_of_row _ _ 2 _ _ _ hb2
          have f2 := frozen_of_row _ _ 2 _ _ hb2
          have hst2 : BSt w.heap.size R C N (r * C + (j + 1)) (vals g C (r * C + (j + 1))) (w3.setCell ⟨w.heap.size + 1 + 1, 2, none⟩ (.slice (some ⟨w.heap.size + 1, 0, none⟩) (r * C + j + 1) N)) := by
            rw [show r * C + (j + 1) = r * C + j + 1 by omega, vals_succ g C r j hjt]
            exact hst.step hL hg3 ho3
          have hJ3 : Hid (J (r * C + (j + 1)) (w3.setCell ⟨w.heap.size + 1 + 1, 2, none⟩ (.slice (some ⟨w.heap.size + 1, 0, none⟩) (r * C + j + 1) N))) :=
            HJ.out _ _ _ (((Keep.of_ext ((Ext.refl w1).alloc _)).trans (Keep.of_grown hg3)).trans (Keep.of_set w3 _ (.inr (.inr rfl)))) hJ1
          clear hb2 ho3 hg3 hst
          (refine wpPl_tail rfl ?_ (fun K hK => ?_); rfl; go_simp)
          refine hK _ _ ?_
          try simp only [Act.put, zqA, zqB, zqC]
          refine wpPl_nil ?_
          go_wp2
          exact ⟨⟨j + 1, by omega, by go_num, hst2, hJ3⟩, by simp [intOf]; omega⟩
        · go_wp2
          obtain rfl : j = C := by omega
          refine ⟨⟨r + 1, by omega, by go_num, by rw [Nat.succ_mul]; exact hst, by rw [Nat.succ_mul]; exact HJr⟩, by simp [intOf]; omega⟩
    · obtain rfl : r = R := by omega
      have e := HN.out
      rw [e] at hst HJr
      clear e
      have c20 := cell_of_row _ _ 0 _ _ _ hst.b2
      have c21 := cell_of_row _ _ 1 _ _ _ hst.b2
      have c22 := cell_of_row _ _ 2 _ _ _ hst.b2
      have c00 := cell_of_row _ _ 0 _ _ _ hst.b0
      have c01 := cell_of_row _ _ 1 _ _ _ hst.b0
      have c02 := cell_of_row _ _ 2 _ _ _ hst.b0
      have f00 := frozen_of_row _ _ 0 _ _ hst.b0
      have f01 := frozen_of_row _ _ 1 _ _ hst.b0
      have f02 := frozen_of_row _ _ 2 _ _ hst.b0
      go_wp2
      refine bodyPost_ret (results_cell_row (by rfl) _ _ w.heap.size 34 #[.int .i64 r, .int .i64 C, .slice (some ⟨w.heap.size + 1, 0, none⟩) N N] (0, 0) _ (by rfl) ?_ Tryz.underlying34 (by rfl) (by kernel_rfl)) rfl ⟨some ⟨w.heap.size + 1, 0, none⟩, N, rfl, ?_, Nat.le_refl _, HJ.out _ _ _ (Keep.three _ _ _ _ _) HJr.out⟩
      · simp [World.setCell, Array.getElem?_modify, hst.b0]
      · obtain ⟨A, c, hA, hrd, _⟩ := Rd.of_own hst.own
        simp only [Value.slice.injEq, true_and] at hA
        obtain ⟨rfl, rfl⟩ := hA
        exact Rd.mono (((hrd.set_far _ (by simp)).set_far _ (by simp)).set_far _ (by simp)) (by omega)
end Go.Proofs.YteigcfflljoioaaGreatDoor
namespace Go.Proofs.YteigcfflljoioaaGreatDoor
open Go.RowKit
theorem Keep.ext {w W W' : World} (h : Keep w.heap.size W W') (hx : Ext w W) : Ext w W' :=
  ⟨h.os.trans hx.os, h.tape.trans hx.tape, h.output.trans hx.output, Nat.le_trans hx.size h.size, fun b hb => (h.block b (Nat.lt_of_lt_of_le hb hx.size) (by omega) (by omega) (by omega)).trans (hx.block hb)⟩
/-- build of a function that keeps nothing. -/
theorem build_pure (R C : Nat) (cl : FuncId) (capt : Array Value) (g : Nat → Nat → Val) (w : World) (hR : 1 ≤ R) (hC : 1 ≤ C) (hN : R * C ≤ 4096)
    (hent : ∀ (args : Array Value) (W : World), (callFunc cl args).run Tryz.prog W = .ok (.enter cl args) W)
    (hcall : ∀ i j W, i < R → j < C → Ext w W →
      Calls Tryz.prog cl (#[.int .i64 i, .int .i64 j] ++ capt) W fun e W' => e = .returned (VV (g i j).kind (g i j).mant (g i j).exp (g i j).text (g i j).truth (g i j).fault) ∧ Ext W W') :
    Calls Tryz.prog 93 #[.int .i64 R, .int .i64 C, .func (.func cl) #[] capt] w fun e w' => ∃ A c, e = .returned (AV R C (.slice A (R * C) c)) ∧ SlV w.heap.size w' A (vals g C (R * C)) ∧ R * C ≤ c ∧ Ext w w' := by
  have h1 : R * 1 ≤ R * C := Nat.mul_le_mul_left R hC
  have h2 : 1 * C ≤ R * C := Nat.mul_le_mul_right C hR
  exact build_any R C cl capt g w (fun _ W => Ext w W) hR hC hN (by omega) (by omega) hent (Ext.refl w) (fun _ _ _ h hx => h.ext hx)
    (fun i j W hi hj hx hs => (hcall i j W hi hj hx).mono fun e W' ⟨he, hb⟩ => ⟨he, hx.trans hb, Leaves.of_ext hb hs⟩)
/-- The three cells of an array's variable. -/
abbrev ABox (pb : Nat) (r c : Int) (A : Option Addr) (n cap : Nat) (W : World) : Prop :=
  pb < W.heap.size ∧ W.cell? ⟨pb, 0, none⟩ = some (.int .i64 r) ∧ W.cell? ⟨pb, 1, none⟩ = some (.int .i64 c) ∧ W.cell? ⟨pb, 2, none⟩ = some (.slice A n cap)
theorem ABox.ext {pb : Nat} {r c : Int} {A : Option Addr} {n cap : Nat} {W W' : World} (h : ABox pb r c A n cap W) (hb : Ext W W') : ABox pb r c A n cap W' :=
  ⟨by have := hb.size; have := h.1; omega, hb.cell_some h.2.1, hb.cell_some h.2.2.1, hb.cell_some h.2.2.2⟩
def getV (l : List Val) (k : Nat) : Val := (l[k]?).getD Val.zero
theorem ArrIn.get {w : World} {A : Option Addr} {n cap : Nat} {l : List Val} (h : ArrIn w A n cap l) {k : Nat} (hk : k < n) : ∃ b off, A = some ⟨b, off, none⟩ ∧ ValAt w b (off + k * 6) (getV l k) ∧ (getV l k).ok := by
  obtain ⟨x, b, off, hx, ho, hA, hv⟩ := h.at hk
  have : getV l k = x := by simp [getV, hx]
  rw [this]
  exact ⟨b, off, hA, hv, ho⟩
theorem right_parts {r c : Int} {l : List Val} (h : rightA r c l = true) : ∃ R C : Nat, r = R ∧ c = C ∧ 1 ≤ R ∧ 1 ≤ C ∧ R * C ≤ 4096 ∧ l.length = R * C ∧ (∀ x ∈ l, valRight x = true) := by
  simp only [rightA, Bool.and_eq_true, decide_eq_true_eq, List.all_eq_true] at h
  obtain ⟨⟨hf, hn⟩, ha⟩ := h
  obtain ⟨f1, f2, f3, f4, f5, f6⟩ := fits_mul hf
  obtain ⟨R, rfl⟩ := Int.eq_ofNat_of_zero_le (show 0 ≤ r by omega)
  obtain ⟨C, rfl⟩ := Int.eq_ofNat_of_zero_le (show 0 ≤ c by omega)
  rw [← Int.natCast_mul] at hn f6
  exact ⟨R, C, rfl, rfl, by omega, by omega, by omega, by omega, ha⟩
def hasB (r c i j : Int) : Bool := decide (0 ≤ i) && decide (i < r) && decide (0 ≤ j) && decide (j < c)
set_option maxHeartbeats 400000 in
theorem has_any (r c i j : Int) (s : Value) (w : World) (_hs : s.oneCell' = true) :
    Calls Tryz.prog 144 #[AV r c s, .int .i64 i, .int .i64 j] w fun e w' => e = .returned (.bool (hasB r c i j)) ∧ Ext w w' := by
  go_enter Tryz.func144, Tryz.ntmps144
  go_upto_region 1 with (fail)
  refine wp_region_lit ?_
  iterate 3 ((refine wpL_read (v := ?_) rfl ?_ ?_; rotate_left 1; (go_simp; first | done | rfl)); try simp only [Act.put, zqA, zqB, zqC])
  iterate 4 ((refine wpL_gread (v := ?_) (c := ?_) rfl rfl rfl ?_ (fun hc => ?_) ?_; rotate_left 2; (first | exact gc_t _ | exact gc_f _ | exact gc_gt _ _ | exact gc_gf _ _); ((try simp only [gv_of hc]); (try (have hc1 := and_l hc; (try simp only [gv_of hc1]); (try (have hc2 := and_l hc1; (try simp only [gv_of hc2]))))); go_simp; first | done | rfl)); try simp only [Act.put, zqA, zqB, zqC])
  first | (refine wpL_pick_and rfl rfl rfl rfl rfl ?_) | (refine wpL_pick_or rfl rfl rfl rfl rfl ?_)
  try simp only [Act.put, zqA, zqB, zqC]
  (refine wpL_read (v := ?_) rfl ?_ ?_; rotate_left 1; (go_simp; first | done | rfl))
  try simp only [Act.put, zqA, zqB, zqC]
  iterate 2 ((refine wpL_gread (v := ?_) (c := ?_) rfl rfl rfl ?_ (fun hc => ?_) ?_; rotate_left 2; (first | exact gc_t _ | exact gc_f _ | exact gc_gt _ _ | exact gc_gf _ _); ((try simp only [gv_of hc]); (try (have hc1 := and_l hc; (try simp only [gv_of hc1]); (try (have hc2 := and_l hc1; (try simp only [gv_of hc2]))))); go_simp; first | done | rfl)); try simp only [Act.put, zqA, zqB, zqC])
  first | (refine wpL_pick_and rfl rfl rfl rfl rfl ?_) | (refine wpL_pick_or rfl rfl rfl rfl rfl ?_)
  try simp only [Act.put, zqA, zqB, zqC]
  (refine wpL_read (v := ?_) rfl ?_ ?_; rotate_left 1; (go_simp; first | done | rfl))
  try simp only [Act.put, zqA, zqB, zqC]
  iterate 4 ((refine wpL_gread (v := ?_) (c := ?_) rfl rfl rfl ?_ (fun hc => ?_) ?_; rotate_left 2; (first | exact gc_t _ | exact gc_f _ | exact gc_gt _ _ | exact gc_gf _ _); ((try simp only [gv_of hc]); (try (have hc1 := and_l hc; (try simp only [gv_of hc1]); (try (have hc2 := and_l hc1; (try simp only [gv_of hc2]))))); go_simp; first | done | rfl)); try simp only [Act.put, zqA, zqB, zqC])
  first | (refine wpL_pick_and rfl rfl rfl rfl rfl ?_) | (refine wpL_pick_or rfl rfl rfl rfl rfl ?_)
  try simp only [Act.put, zqA, zqB, zqC]
  (refine wpL_read (v := ?_) rfl ?_ ?_; rotate_left 1; (go_simp; first | done | rfl))
  try simp only [Act.put, zqA, zqB, zqC]
  refine wpList_nil ?_
  try go_simp
  go_wp2
  go_ret
  exact ⟨rfl, by repeat (first | exact Ext.refl _ | apply Ext.drew | apply Ext.alloc | apply Ext.more_)⟩
end Go.Proofs.YteigcfflljoioaaGreatDoor
namespace Go.Proofs.YteigcfflljoioaaGreatDoor
open Go.RowKit
theorem right_bd {R C : Nat} {l : List Val} (h : rightA R C l = true) : 1 ≤ R ∧ 1 ≤ C ∧ R * C ≤ 4096 ∧ l.length = R * C ∧ R ≤ 4096 ∧ C ≤ 4096 := by
  obtain ⟨R', C', e1, e2, r1, r2, r3, r4, _⟩ := right_parts h
  obtain rfl : R = R' := by omega
  obtain rfl : C = C' := by omega
  have h1 : R * 1 ≤ R * C := Nat.mul_le_mul_left R r2
  have h2 : 1 * C ≤ R * C := Nat.mul_le_mul_right C r1
  exact ⟨r1, r2, r3, r4, by omega, by omega⟩
theorem fits_nat {a b : Nat} : fitsB a b = true ↔ 1 ≤ a ∧ 1 ≤ b ∧ a * b ≤ 4096 := by
  constructor
  · intro h
    obtain ⟨f1, f2, f3, f4, f5, f6⟩ := fits_mul h
    rw [← Int.natCast_mul] at f6
    exact ⟨by omega, by omega, by omega⟩
  · intro ⟨h1, h2, h3⟩
    have ha : a * 1 ≤ a * b := Nat.mul_le_mul_left a h2
    have hq : b ≤ 4096 / a := (Nat.le_div_iff_mul_le (by omega)).2 (by rw [Nat.mul_comm]; exact h3)
    simp only [fitsB, Bool.and_eq_true, decide_eq_true_eq]
    refine ⟨⟨⟨by omega, by omega⟩, by omega⟩, ?_⟩
    have : ((b : Nat) : Int) ≤ ((4096 / a : Nat) : Int) := by omega
    simpa using this
end Go.Proofs.YteigcfflljoioaaGreatDoor
namespace Go.Proofs.YteigcfflljoioaaGreatDoor
open Go.RowKit
theorem badV_ok (f : Int) (h : I64 f) : (badV f).ok := ⟨⟨by simp [badV], by simp [badV]⟩, ⟨by simp [badV], by simp [badV]⟩, ⟨by simp [badV], by simp [badV]⟩, by simp [badV, ByteArray.size], h⟩
/-- An array as data. -/
structure NA where
  R : Nat
  C : Nat
  l : List Val
def NA.right (a : NA) : Prop := rightA a.R a.C a.l = true
def NA.ok (a : NA) : Prop := ∀ x ∈ a.l, x.ok
theorem rightA_nat {R C : Nat} {l : List Val} : rightA R C l = true ↔ 1 ≤ R ∧ 1 ≤ C ∧ R * C ≤ 4096 ∧ l.length = R * C ∧ ∀ x ∈ l, valRight x = true := by
  simp only [rightA, Bool.and_eq_true, fits_nat, decide_eq_true_eq, List.all_eq_true]
  constructor
  · rintro ⟨⟨⟨h1, h2, h3⟩, h4⟩, h5⟩
    refine ⟨h1, h2, h3, ?_, h5⟩
    have : ((l.length : Nat) : Int) = ((R * C : Nat) : Int) := by rw [h4]; simp
    omega
  · rintro ⟨h1, h2, h3, h4, h5⟩
    exact ⟨⟨⟨h1, h2, h3⟩, by rw [h4]; simp⟩, h5⟩
end Go.Proofs.YteigcfflljoioaaGreatDoor
namespace Go.Proofs.YteigcfflljoioaaGreatDoor
open Go.RowKit NM
/-- An argument: an array that may be, and where its values lie. -/
structure Ar where
  x : NA
  A : Option Addr
  n : Nat
  cap : Nat
def Ar.cells (a : Ar) : List Value := [.int .i64 a.x.R, .int .i64 a.x.C, .slice a.A a.n a.cap]
def acells (xs : List Ar) : List Value := xs.flatMap Ar.cells
/-- The three cells of an array anywhere. -/
def ArAt (w : World) (b o : Nat) (a : Ar) : Prop :=
  w.cell? ⟨b, o, none⟩ = some (.int .i64 a.x.R) ∧ w.cell? ⟨b, o + 1, none⟩ = some (.int .i64 a.x.C) ∧ w.cell? ⟨b, o + 2, none⟩ = some (.slice a.A a.n a.cap)
theorem acells_at : ∀ (xs : List Ar) (i : Nat) (a : Ar), xs[i]? = some a → ∀ j, j < 3 → (acells xs)[i * 3 + j]? = a.cells[j]?
  | [], i, x, h, j, hj => by simp at h
  | y :: l, 0, x, h, j, hj => by
    obtain rfl : y = x := by simpa using h
    rw [acells, List.flatMap_cons, List.getElem?_append_left (by simp [Ar.cells]; omega)]
    simp
  | y :: l, i + 1, x, h, j, hj => by
    rw [acells, List.flatMap_cons, List.getElem?_append_right (by simp [Ar.cells]; omega)]
    rw [show (i + 1) * 3 + j - y.cells.length = i * 3 + j by simp [Ar.cells]; omega]
    exact acells_at l i x (by simpa using h) j hj
/-- An array whose values lie, and may be. -/
structure ArOk (w : World) (a : Ar) : Prop where
  arr : ArrIn w a.A a.n a.cap a.x.l
  right : a.x.right
theorem ArOk.ext {w w' : World} {a : Ar} (h : ArOk w a) (hx : Ext w w') : ArOk w' a := ⟨h.arr.ext hx, h.right⟩
structure ArgsIn (w : World) (A : Option Addr) (n cap : Nat) (xs : List Ar) : Prop where
  rd : Rd 0 w A (acells xs)
  len : xs.length = n
  cap : n ≤ cap
  small : n ≤ 9223372036854775807
  all : ∀ a ∈ xs, ArOk w a
theorem ArgsIn.ext {w w' : World} {A : Option Addr} {n cap : Nat} {xs : List Ar} (h : ArgsIn w A n cap xs) (hx : Ext w w') : ArgsIn w' A n cap xs :=
  ⟨h.rd.ext hx, h.len, h.cap, h.small, fun a ha => (h.all a ha).ext hx⟩
theorem ArgsIn.get {w : World} {A : Option Addr} {n cap : Nat} {xs : List Ar} (h : ArgsIn w A n cap xs) {k : Nat} {a : Ar} (hk : xs[k]? = some a) :
    ∃ b off, A = some ⟨b, off, none⟩ ∧ ArAt w b (off + k * 3) a ∧ ArOk w a := by
  have hc : ∀ j, j < 3 → (acells xs)[k * 3 + j]? = a.cells[j]? := acells_at xs k a hk
  obtain ⟨b, off, rfl, _, h0⟩ := h.rd (k * 3 + 0) (.int .i64 a.x.R) (by rw [hc 0 (by omega)]; rfl)
  refine ⟨b, off, rfl, ?_, h.all a (List.mem_of_getElem? hk)⟩
  have hg : ∀ j u, j < 3 → a.cells[j]? = some u → w.cell? ⟨b, off + k * 3 + j, none⟩ = some u := fun j u hj hu => by
    obtain ⟨b', off', he, _, h1⟩ := h.rd (k * 3 + j) u (by rw [hc j hj]; exact hu)
    simp only [Option.some.injEq, Addr.mk.injEq, and_true] at he
    obtain ⟨rfl, rfl⟩ := he
    rw [← h1]; congr 2; omega
  exact ⟨hg 0 _ (by omega) rfl, hg 1 _ (by omega) rfl, hg 2 _ (by omega) rfl⟩
theorem ArgsIn.at {w : World} {A : Option Addr} {n cap : Nat} {xs : List Ar} (h : ArgsIn w A n cap xs) {k : Nat} (hk : k < n) :
    ∃ a b off, xs[k]? = some a ∧ A = some ⟨b, off, none⟩ ∧ ArAt w b (off + k * 3) a ∧ ArOk w a := by
  have hl : k < xs.length := by rw [h.len]; exact hk
  obtain ⟨b, off, e, h1, h2⟩ := h.get (List.getElem?_eq_getElem hl)
  exact ⟨_, b, off, List.getElem?_eq_getElem hl, e, h1, h2⟩
/-- What lies in one block from its start on. -/
theorem Rd.of_row {w : World} {b : Nat} {cs : List Value} {t : TypeId} (h : w.heap[b]? = some (.cells cs.toArray t)) (base : Nat) (hb : base ≤ b) : Rd base w (some ⟨b, 0, none⟩) cs := fun j u hu => by
  refine ⟨b, 0, rfl, hb, ?_⟩
  simp only [World.cell?, h, Nat.zero_add]
  simpa using hu
/-- What a function of arrays hands back. -/
def ResA (w : World) (x : NA) (e : Ending) (w' : World) : Prop :=
  ∃ D m cc, e = .returned (AV x.R x.C (.slice D m cc)) ∧ ArrN w.heap.size w' D m cc x.l ∧ Ext w w'
def oneA (v : Val) : NA := ⟨1, 1, [v]⟩
def aloneO (f : Int) : NA := oneA (bad_ f)
end Go.Proofs.YteigcfflljoioaaGreatDoor
namespace Go.Proofs.YteigcfflljoioaaGreatDoor
open Go.RowKit NM
theorem ArrO.res {w w' : World} {e : Ending} {x : NA} (h : ArrO w.heap.size w' e x.R x.C x.l) (hl : x.l.length ≤ 9223372036854775807) (ho : x.ok) (hx : Ext w w') : ResA w x e w' := by
  obtain ⟨A, cap, rfl, h1, h2⟩ := h
  exact ⟨A, _, cap, rfl, ⟨h1, rfl, h2, hl, ho⟩, hx⟩
theorem one_res (v : Val) (w : World) (hv : v.ok) (hr : v.right) :
    Calls Tryz.prog 73 #[VV v.kind v.mant v.exp v.text v.truth v.fault] w fun e w' => ResA w (oneA v) e w' :=
  (one_right v.kind v.mant v.exp v.fault v.text v.truth w hv.2.1 hv.2.2.2.1 hr).mono fun e w' ⟨h1, h2⟩ => ArrO.res (x := oneA v) h1 (by simp [oneA]) (fun y hy => by rw [show y = v by simpa [oneA] using hy]; exact hv) h2
theorem ok_bad (f : Int) : (bad_ f).ok := badV_ok _ (by have := badF_bd f; unfold I64; omega)
set_option maxHeartbeats 1000000 in
theorem alone_any (f : Int) (w : World) : Calls Tryz.prog 44 #[.int .i64 f] w fun e w' => ResA w (aloneO f) e w' := by
  go_enter Tryz.func44, Tryz.ntmps44
  go_wp2_with (go_at_call 74; (with_reducible refine (bad_any _ _).mono ?_); rintro e w' ⟨rfl, hb⟩; obtain ⟨os, d, rfl⟩ := hb.more; clear hb)
  go_at_call 73
  refine (one_res (bad_ f) _ (ok_bad f) (right_bad f)).mono ?_
  rintro e w' ⟨D, m, cc, rfl, hD, hb⟩
  obtain ⟨os2, d2, rfl⟩ := hb.more
  clear hb
  have hDr := hD.rd
  go_wp2_with fail
  exact bodyPost_ret (v := AV (oneA (bad_ f)).R (oneA (bad_ f)).C (.slice D m cc)) (by simp [results, Tryz.results44, go_sem]) rfl ⟨D, m, cc, rfl, ⟨(by (try simp only [more_more] at hDr); (try simp only [drew_more] at hDr); (try simp only [more_drew] at hDr); (try simp only [Array.append_assoc] at hDr); exact Rd.swap hDr (by first | (simp; done) | (simp; omega) | omega) (by first | (simp; done) | (simp; omega) | omega) (by first | (simp; done) | (simp; omega) | omega)), hD.len, hD.cap, hD.small, hD.ok⟩, by with_reducible repeat (first | exact Ext.refl _ | apply Ext.drew | apply Ext.alloc | apply Ext.more_)⟩
abbrev fnE (lo hi : Int) (f : FuncId) : Value := .agg #[.int .i64 lo, .int .i64 hi, fn0 f]
def flookL : Tab1 := [([73, 78, 68, 69, 88], fnE 2 3 68), ([77, 65, 84, 67, 72], fnE 2 3 69), ([88, 76, 79, 79, 75, 85, 80], fnE 3 5 70), ([86, 76, 79, 79, 75, 85, 80], fnE 3 4 71), ([72, 76, 79, 79, 75, 85, 80], fnE 3 4 72)]
theorem flookL_pair : flookL.Pairwise (fun p q => p.1 ≠ q.1) := by simp [flookL]
set_option maxHeartbeats 1000000 in
theorem table_any (w : World) :
    Calls Tryz.prog 43 #[] w fun e w' => ∃ b, e = .returned (.map (some b)) ∧ TabS Tryz.prog 9 w b flookL [] w' := by
  have hmm := @run_makeMap Tryz.prog
  have hT := TabS.start w Tryz.prog 9
  go_enter Tryz.func43, Tryz.ntmps43
  go_wp2_with (first | (refine wpL_insert rfl _ _ _ _ rfl 9 71 Tryz.underlying9 Tryz.underlying73 _ _ rfl hT.tab (by simp only [List.length_append, List.length_nil, List.length_cons, maxLen]; omega) _ rfl (by simp only [maxLen, ByteArray.size, List.size_toArray, List.length_cons, List.length_nil]; omega) _ rfl ?_; intro w1 ht1 hg1; have hT := hT.put ht1 hg1; clear ht1 hg1))
  go_ret
  exact ⟨w.heap.size, rfl, hT⟩
end Go.Proofs.YteigcfflljoioaaGreatDoor
namespace Go.Proofs.YteigcfflljoioaaGreatDoor
open Go.RowKit NM
theorem zero_fn (w : World) : (zeroValue 71).run Tryz.prog w = .ok (.agg #[.int .i64 0, .int .i64 0, .nilFunc]) w := by kernel_rfl
set_option maxHeartbeats 1000000 in
/-- A function that there is, of arguments enough and not too many. -/
theorem call_yes (s : ByteArray) (fid : FuncId) (lo hi : Nat) (hs : s.size ≤ maxLen) (ht : tabAt flookL s.data.toList = some (fnE lo hi fid)) (hent : ∀ (args : Array Value) (W : World), (callFunc fid args).run Tryz.prog W = .ok (.enter fid args) W)
    (A : Option Addr) (n cap : Nat) (xs : List Ar) (w : World) (h : ArgsIn w A n cap xs) (hlo : lo ≤ n) (hhi : n ≤ hi) (x : NA)
    (hf : ∀ W, Ext w W → Calls Tryz.prog fid #[.slice A n cap] W fun e W' => ResA W x e W') :
    Calls Tryz.prog 17 #[.string s, .slice A n cap] w fun e w' => ∃ D m cc, e = .returned (.tuple #[AV x.R x.C (.slice D m cc), .bool true]) ∧ ArrN w.heap.size w' D m cc x.l ∧ Ext w w' := by
  have HT := Lib.hid ht
  clear ht
  have hsm := h.small
  have q1 : ¬ n < lo := by omega
  have q2 : ¬ hi < n := by omega
  go_enter Tryz.func17, Tryz.ntmps17
  go_wp2_with (first | (go_at_call 43; (with_reducible refine (table_any _).mono ?_); rintro e w' ⟨bm, rfl, hT⟩; have hbm := hT.hb; have hxT := hT.ext; obtain ⟨os1, d1, rfl⟩ := hxT.more) | (refine wpL_look rfl _ _ _ rfl 9 71 Tryz.underlying9 Tryz.underlying73 _ _ rfl ?_ flookL_pair _ (zero_fn _) _ rfl hs (fnE lo hi fid) true (by rw [HT.out]; rfl) (by rw [HT.out]; rfl) ?_))
  · exact hT.tab.ext (by with_reducible repeat (first | exact Ext.refl _ | apply Ext.drew | apply Ext.alloc | apply Ext.more_))
  go_loopw [34] (fun i wr => ∃ k : Nat, k ≤ n ∧ i = .int .i64 k ∧ Ext ((more (w.alloc (Obj.cells #[.int .i64 0, .int .i64 0, .slice none 0 0] 34)) os1 d1).alloc (Obj.cells #[.int .i64 lo, .int .i64 hi, fn0 fid] 71)) wr) (fun i _ => n - (intOf i).toNat)
  case atStart => exact ⟨0, Nat.zero_le _, rfl, Ext.refl _⟩
  case round =>
    obtain ⟨k, hk, rfl, hX⟩ := hrel
    obtain ⟨os, d, rfl⟩ := hX.more
    clear hX
    by_cases hlt : k < n
    · obtain ⟨a, b, off, ha, rfl, hat, hok⟩ := h.at hlt
      obtain ⟨v0, v1, v2⟩ := hat
      have hbl : b < w.heap.size := lt_of_cell v0
      have hr : rightA a.x.R a.x.C a.x.l = true := hok.right
      have hra := fun W => (hr ▸ right_any a.x.R a.x.C a.A a.n a.cap a.x.l W : ArrIn W a.A a.n a.cap a.x.l → _)
      clear hT hxT hr
      go_wp2_with (go_at_call 45; refine (hra _ (hok.arr.ext (by with_reducible repeat (first | exact Ext.refl _ | apply Ext.drew | apply Ext.alloc | apply Ext.more_)))).mono ?_; rintro e w' ⟨rfl, hb⟩; obtain ⟨os', d', rfl⟩ := hb.more; clear hb)
      refine ⟨⟨k + 1, by omega, by go_num, by with_reducible repeat (first | exact Ext.refl _ | apply Ext.drew | apply Ext.alloc | apply Ext.more_)⟩, by simp [intOf]; omega⟩
    · clear hT hxT
      go_wp2_with fail
      refine (hf _ (by with_reducible repeat (first | exact Ext.refl _ | apply Ext.drew | apply Ext.alloc | apply Ext.more_))).mono ?_
      rintro e w' ⟨D, m, cc, rfl, hD, hb⟩
      obtain ⟨os2, d2, rfl⟩ := hb.more
      clear hb
      have hDr := hD.rd
      go_wp2_with fail
      exact bodyPost_ret (v := .tuple #[AV x.R x.C (.slice D m cc), .bool true]) (by simp [results, Tryz.results17, go_sem]) rfl ⟨D, m, cc, rfl, ⟨(by (try simp only [more_more] at hDr); (try simp only [drew_more] at hDr); (try simp only [more_drew] at hDr); (try simp only [Array.append_assoc] at hDr); exact Rd.swap hDr (by first | (simp; done) | (simp; omega) | omega) (by first | (simp; done) | (simp; omega) | omega) (by first | (simp; done) | (simp; omega) | omega)), hD.len, hD.cap, hD.small, hD.ok⟩, by with_reducible repeat (first | exact Ext.refl _ | apply Ext.drew | apply Ext.alloc | apply Ext.more_)⟩
end Go.Proofs.YteigcfflljoioaaGreatDoor
namespace Go.Proofs.YteigcfflljoioaaGreatDoor
open Go.RowKit NM
theorem upB_yes {b : UInt8} (h1 : 97 ≤ b.toNat) (h2 : b.toNat ≤ 122) : (upB b).toNat = b.toNat - 32 := by
  unfold upB
  rw [if_pos ⟨UInt8.le_iff_toNat_le.2 h1, UInt8.le_iff_toNat_le.2 h2⟩, UInt8.toNat_sub_of_le]
  · rfl
  · rw [UInt8.le_iff_toNat_le]; show 32 ≤ b.toNat; omega
theorem upB_no {b : UInt8} (h : b.toNat < 97 ∨ 122 < b.toNat) : upB b = b := by
  unfold upB
  rw [if_neg]
  rintro ⟨h1, h2⟩
  have h1 : 97 ≤ b.toNat := UInt8.le_iff_toNat_le.1 h1
  have h2 : b.toNat ≤ 122 := UInt8.le_iff_toNat_le.1 h2
  omega
theorem bytes_ext_ (w : World) (e : TypeId) (s : ByteArray) : Ext w (Lib.bytesWorld w e s) :=
  ⟨rfl, rfl, rfl, by rw [Lib.bytesWorld_size]; omega, fun b hb => Lib.bytesWorld_at_old w e s b hb⟩
theorem tl_get (s : ByteArray) (j : Nat) (h : j < s.size) : (tl s)[j]? = some (s[j]'h) := by
  unfold tl
  rw [List.getElem?_eq_getElem (by exact h)]
  rfl
theorem fold_get (s : ByteArray) (j : Nat) (h : j < s.size) : (foldB s)[j]'(by rw [foldB_size]; exact h) = upB (s[j]'h) := by
  have h1 := tl_get (foldB s) j (by rw [foldB_size]; exact h)
  rw [tl_fold, List.getElem?_map, tl_get s j h] at h1
  exact (Option.some.inj h1).symm
/-- What the loop of folded keeps. -/
structure FS (w : World) (s : ByteArray) (k : Nat) (wr : World) : Prop where
  ext : Ext w wr
  cell : ∀ j (h : j < s.size), wr.cell? ⟨w.heap.size, j, none⟩ = some (.int .u8 ((if j < k then upB (s[j]'h) else s[j]'h).toNat : Int))
  fz : ∀ j, j < s.size → wr.frozen? ⟨w.heap.size, j, none⟩ = false
theorem FS.start (w : World) (s : ByteArray) : FS w s 0 (Lib.bytesWorld w 5 s) := by
  refine ⟨bytes_ext_ _ _ _, fun j h => ?_, fun j h => ?_⟩
  · rw [Lib.bytesWorld_cell _ _ _ _ h]
    have h1 := tl_get s j h
    unfold tl at h1
    rw [List.getD_eq_getElem?_getD, h1]
    rfl
  · have hc : s.size ≤ (Lib.bytesCells w 5 s).size := by
      unfold Lib.bytesCells
      rw [Array.size_append, Array.size_map]
      exact Nat.le_add_right _ _
    unfold World.frozen?
    rw [Lib.bytesWorld_at_new]
    simp
    omega
theorem FS.lt {w : World} {s : ByteArray} {k : Nat} {wr : World} (h : FS w s k wr) (h0 : 0 < s.size) : w.heap.size < wr.heap.size := lt_of_cell (h.cell 0 h0)
theorem FS.up {w : World} {s : ByteArray} {k : Nat} {wr : World} (h : FS w s k wr) (hk : k < s.size) (v : Int) (hv : v = ((upB (s[k]'hk)).toNat : Int)) : FS w s (k + 1) (wr.setCell ⟨w.heap.size, k, none⟩ (.int .u8 v)) := by
  subst hv
  refine ⟨h.ext.set _ (Nat.le_refl _), fun j hj => ?_, fun j hj => by rw [World.frozen?_setCell]; exact h.fz j hj⟩
  by_cases hjk : j = k
  · subst hjk
    rw [World.cell?_setCell_same _ _ _ (h.cell j hj), if_pos (by omega)]
  · rw [World.cell?_setCell_other _ _ _ _ (by intro e; injection e with _ e; omega), h.cell j hj]
    congr 4
    by_cases h1 : j < k
    · rw [if_pos h1, if_pos (by omega)]
    · rw [if_neg h1, if_neg (by omega)]
theorem FS.keep {w : World} {s : ByteArray} {k : Nat} {wr : World} (h : FS w s k wr) (hk : k < s.size) (hv : upB (s[k]'hk) = s[k]'hk) : FS w s (k + 1) wr := by
  refine ⟨h.ext, fun j hj => ?_, h.fz⟩
  rw [h.cell j hj]
  by_cases hjk : j = k
  · subst hjk
    rw [if_neg (by omega), if_pos (by omega), hv]
  · congr 4
    by_cases h1 : j < k
    · rw [if_pos h1, if_pos (by omega)]
    · rw [if_neg h1, if_neg (by omega)]
theorem FS.done {w : World} {s : ByteArray} {wr : World} (h : FS w s s.size wr) : Lib.Bytes wr w.heap.size 0 (foldB s) := by
  intro j hj
  have hj' : j < s.size := by rw [foldB_size] at hj; exact hj
  rw [Nat.zero_add, h.cell j hj', if_pos hj', fold_get s j hj']
set_option maxHeartbeats 1000000 in
theorem folded_any (s : ByteArray) (w : World) (h0 : 0 < s.size) (hs : s.size ≤ 9223372036854775807) :
    Calls Tryz.prog 174 #[.string s] w fun e w' => e = .returned (.string (foldB s)) ∧ Ext w w' := by
  have hc1 := Lib.run_convert_string_bytes (P := Tryz.prog) w 9 102 5 s Tryz.underlying9 Tryz.underlying102 Tryz.underlying5
  have hst := FS.start w s
  generalize Lib.bytesWorld w 5 s = W at *
  generalize grownCap w s.size 0 5 = cap at *
  have HST := Lib.hid hst
  clear hst
  go_enter Tryz.func174, Tryz.ntmps174
  go_wp2_with fail
  go_loopw [10] (fun v10 wr => ∃ k : Nat, k ≤ s.size ∧ v10 = .int .i64 (k : Int) ∧ Hid (FS w s k wr)) (fun v10 _ => s.size - (intOf v10).toNat)
  case atStart => exact ⟨0, Nat.zero_le _, rfl, HST⟩
  case round =>
    obtain ⟨k, hk, rfl, H⟩ := hrel
    by_cases hks : k < s.size
    · have hc := H.out.cell k hks
      rw [if_neg (Nat.lt_irrefl k)] at hc
      have hf := H.out.fz k hks
      have hl := H.out.lt h0
      have hb := (s[k]'hks).toNat_lt
      by_cases h97 : 97 ≤ (s[k]'hks).toNat
      · by_cases h122 : (s[k]'hks).toNat ≤ 122
        · have HU := Lib.hid (H.out.up hks (((s[k]'hks).toNat : Int) - 97 + 65) (by rw [upB_yes h97 h122]; omega))
          have g1 : (97 : Int) ≤ ((s[k]'hks).toNat : Int) := by omega
          have g2 : ((s[k]'hks).toNat : Int) ≤ 122 := by omega
          generalize (s[k]'hks).toNat = c at *
          have w1 : IntKind.u8.wrap ((c : Int) - 97) = (c : Int) - 97 := by rw [IntKind.wrap_u8]; omega
          have w2 : IntKind.u8.wrap ((c : Int) - 97 + 65) = (c : Int) - 97 + 65 := by rw [IntKind.wrap_u8]; omega
          clear h97 h122
          go_wp2_with fail
          exact ⟨⟨k + 1, by omega, by go_num, HU⟩, by simp [intOf]; omega⟩
        · have HU := Lib.hid (H.out.keep hks (upB_no (by omega)))
          have g1 : (97 : Int) ≤ ((s[k]'hks).toNat : Int) := by omega
          have g2 : ¬ ((s[k]'hks).toNat : Int) ≤ 122 := by omega
          generalize (s[k]'hks).toNat = c at *
          clear h97 h122
          go_wp2_with fail
          exact ⟨⟨k + 1, by omega, by go_num, HU⟩, by simp [intOf]; omega⟩
      · have HU := Lib.hid (H.out.keep hks (upB_no (by omega)))
        have g1 : ¬ (97 : Int) ≤ ((s[k]'hks).toNat : Int) := by omega
        generalize (s[k]'hks).toNat = c at *
        clear h97
        go_wp2_with fail
        exact ⟨⟨k + 1, by omega, by go_num, HU⟩, by simp [intOf]; omega⟩
    · obtain rfl : k = s.size := by omega
      have hcv := Lib.run_convert_whole (P := Tryz.prog) wr 102 5 9 Tryz.underlying102 Tryz.underlying5 Tryz.underlying9 w.heap.size 0 (foldB s) H.out.done cap
      rw [foldB_size] at hcv
      go_wp2_with fail
      exact bodyPost_ret (v := .string (foldB s)) (by simp [results, Tryz.results174, go_sem]) rfl ⟨rfl, H.out.ext⟩
set_option maxHeartbeats 1000000 in
theorem fold_any (s : ByteArray) (w : World) (hs : s.size ≤ 9223372036854775807) :
    Calls Tryz.prog 162 #[.string s] w fun e w' => e = .returned (.string (foldB s)) ∧ Ext w w' := by
  go_enter Tryz.func162, Tryz.ntmps162
  go_wp2_with fail
  go_loop [6] (fun v6 => ∃ k : Nat, k ≤ s.size ∧ v6 = .int .i64 (k : Int) ∧ Hid (∀ j (h : j < s.size), j < k → upB (s[j]'h) = s[j]'h)) (fun v6 => s.size - (intOf v6).toNat)
  case atStart => exact ⟨0, Nat.zero_le _, rfl, fun j _ h => by omega⟩
  case round =>
    obtain ⟨k, hk, rfl, H⟩ := hrel
    have hstep : ∀ hks : k < s.size, upB (s[k]'hks) = s[k]'hks → Hid (∀ j (h : j < s.size), j < k + 1 → upB (s[j]'h) = s[j]'h) := by
      intro hks hu j hj hjk
      by_cases h : j = k
      · subst h; exact hu
      · exact H.out j hj (by omega)
    by_cases hks : k < s.size
    · have HS := fun hu => hstep hks hu
      by_cases h97 : 97 ≤ (s[k]'hks).toNat
      · have g1 : (97 : Int) ≤ ((s[k]'hks).toNat : Int) := by omega
        by_cases h122 : (s[k]'hks).toNat ≤ 122
        · have g2 : ((s[k]'hks).toNat : Int) ≤ 122 := by omega
          have hfd := folded_any s w (by omega) hs
          clear HS hstep h97 h122
          go_wp2_with (go_at_call 174; (with_reducible refine hfd.mono ?_); rintro e w' ⟨rfl, hb⟩)
          exact bodyPost_ret (v := .string (foldB s)) (by simp [results, Tryz.results162, go_sem]) rfl ⟨rfl, hb⟩
        · have g2 : ¬ ((s[k]'hks).toNat : Int) ≤ 122 := by omega
          have HU := HS (upB_no (by omega))
          clear HS hstep h97 h122
          go_wp2_with fail
          exact ⟨⟨k + 1, by omega, by go_num, HU⟩, by simp [intOf]; omega⟩
      · have g1 : ¬ (97 : Int) ≤ ((s[k]'hks).toNat : Int) := by omega
        have HU := HS (upB_no (by omega))
        clear HS hstep h97
        go_wp2_with fail
        exact ⟨⟨k + 1, by omega, by go_num, HU⟩, by simp [intOf]; omega⟩
    · have hfs : Hid (foldB s = s) := by
        show _ = _
        have h1 : tl (foldB s) = tl s := by
          rw [tl_fold]
          conv => rhs; rw [← List.map_id (tl s)]
          apply List.map_congr_left
          intro b hb
          obtain ⟨j, hj, rfl⟩ := List.mem_iff_getElem.1 hb
          exact H.out j hj (by have : j < s.size := hj; omega)
        rw [tl_eq h1]
        cases s; simp [tl]
      have hks' : ¬ (k : Int) < (s.size : Int) := by omega
      clear hstep
      go_wp2_with fail
      exact bodyPost_ret (v := .string s) (by simp [results, Tryz.results162, go_sem]) rfl ⟨by rw [hfs.out], Ext.refl _⟩
theorem conv_one (w : World) (c : UInt8) : (convert 102 9 (.slice (some ⟨w.heap.size, 0, none⟩) 1 1)).run Tryz.prog (w.alloc (.cells #[.int .u8 (c.toNat : Int)] 5)) = .ok (.string ⟨#[c]⟩) (w.alloc (.cells #[.int .u8 (c.toNat : Int)] 5)) := by
  have hb : Lib.Bytes (w.alloc (.cells #[.int .u8 (c.toNat : Int)] 5)) w.heap.size 0 ⟨#[c]⟩ := by
    intro i hi
    have hi : i < 1 := hi
    obtain rfl : i = 0 := by omega
    rw [World.cell?_alloc_new]
    rfl
  exact Lib.run_convert_whole (P := Tryz.prog) _ 102 5 9 Tryz.underlying102 Tryz.underlying5 Tryz.underlying9 w.heap.size 0 ⟨#[c]⟩ hb 1
set_option maxHeartbeats 1000000 in
theorem rfold_any (s : ByteArray) (w : World) (hs : s.size ≤ 9223372036854775807) :
    Calls Tryz.prog 42 #[.string s] w fun e w' => e = .returned (.string (foldB s)) ∧ Ext w w' := by
  go_enter Tryz.func42, Tryz.ntmps42
  go_wp2_with fail
  go_loopw [3, 4] (fun v3 v4 wr => ∃ (k : Nat) (t : ByteArray), k ≤ s.size ∧ v3 = .string t ∧ v4 = .int .i64 (k : Int) ∧ t.size = k ∧ Ext w wr ∧ Hid (tl t = (tl (foldB s)).take k)) (fun _ v4 _ => s.size - (intOf v4).toNat)
  case atStart => exact ⟨0, ⟨#[]⟩, Nat.zero_le _, rfl, rfl, rfl, Ext.refl _, by show _ = _; rfl⟩
  case round =>
    obtain ⟨k, t, hk, rfl, rfl, ht, hx, H⟩ := hrel
    by_cases hks : k < s.size
    · have hb := (s[k]'hks).toNat_lt
      have HN : Hid (tl (t ++ ⟨#[upB (s[k]'hks)]⟩) = (tl (foldB s)).take (k + 1)) := by
        have hg := tl_get (foldB s) k (by rw [foldB_size]; exact hks)
        rw [fold_get s k hks] at hg
        show _ = _
        rw [tl_append, H.out, List.take_add_one, hg]; rfl
      have hcv := conv_one wr (upB (s[k]'hks))
      have HT := Lib.hid ht
      have g5 : ¬ 9223372036854775807 < t.size + 1 := by omega
      by_cases h97 : 97 ≤ (s[k]'hks).toNat
      · have g1 : (97 : Int) ≤ ((s[k]'hks).toNat : Int) := by omega
        by_cases h122 : (s[k]'hks).toNat ≤ 122
        · have g2 : ((s[k]'hks).toNat : Int) ≤ 122 := by omega
          have w1 : IntKind.u8.wrap (((s[k]'hks).toNat : Int) - 32) = ((upB (s[k]'hks)).toNat : Int) := by rw [IntKind.wrap_u8, upB_yes h97 h122]; omega
          clear h97 h122 ht
          go_wp2_with fail
          refine ⟨⟨k + 1, _, by omega, rfl, by go_num, ?_, (hx.alloc _), HN⟩, by simp [intOf]; omega⟩
          rw [ByteArray.size_append, HT.out]; rfl
        · have g2 : ¬ ((s[k]'hks).toNat : Int) ≤ 122 := by omega
          have hup : upB (s[k]'hks) = s[k]'hks := upB_no (by omega)
          rw [hup] at hcv HN
          clear h97 h122 hup ht
          go_wp2_with fail
          refine ⟨⟨k + 1, _, by omega, rfl, by go_num, ?_, (hx.alloc _), HN⟩, by simp [intOf]; omega⟩
          rw [ByteArray.size_append, HT.out]; rfl
      · have g1 : ¬ (97 : Int) ≤ ((s[k]'hks).toNat : Int) := by omega
        have hup : upB (s[k]'hks) = s[k]'hks := upB_no (by omega)
        rw [hup] at hcv HN
        clear h97 hup ht
        go_wp2_with fail
        refine ⟨⟨k + 1, _, by omega, rfl, by go_num, ?_, (hx.alloc _), HN⟩, by simp [intOf]; omega⟩
        rw [ByteArray.size_append, HT.out]; rfl
    · obtain rfl : s.size = k := by omega
      have he : Hid (t = foldB s) := by
        show _ = _
        have h1 := H.out
        rw [List.take_of_length_le (by rw [tl_size, foldB_size]; exact Nat.le_refl _)] at h1
        rw [tl_eq h1]
        generalize foldB s = u
        cases u; simp [tl]
      clear ht
      go_wp2_with fail
      exact bodyPost_ret (v := .string t) (by simp [results, Tryz.results42, go_sem]) rfl ⟨by rw [he.out], hx⟩
end Go.Proofs.YteigcfflljoioaaGreatDoor
namespace Go.Proofs.YteigcfflljoioaaGreatDoor
open Go.RowKit
/-- A variable that may come up at any time: the operation, its slot, what it makes. -/
abbrev FL := Nat × Nat × Obj
def ptrB (b : Nat) : Value := .pointer (some ⟨b, 0, none⟩)
def putF : List FL → (Nat → Option Nat) → Act → Act
  | [], _, a => a
  | x :: fs, β, a => match β x.1 with
    | none => putF fs β a
    | some b => (putF fs β a).put (some x.2.1) (ptrB b)
def setB (β : Nat → Option Nat) (j b : Nat) : Nat → Option Nat := fun i => if i = j then some b else β i
def np (fs : List FL) (β : Nat → Option Nat) : Nat := fs.countP fun x => (β x.1).isNone
theorem putF_congr {β β' : Nat → Option Nat} {a : Act} : ∀ {fs : List FL}, (∀ x ∈ fs, β x.1 = β' x.1) → putF fs β a = putF fs β' a
  | [], _ => rfl
  | x :: fs, h => by
    unfold putF
    rw [h x (by simp), putF_congr (fs := fs) fun y hy => h y (by simp [hy])]
theorem putF_put {β : Nat → Option Nat} {a : Act} {d : Option Tmp} {v : Value} : ∀ {fs : List FL}, (∀ x ∈ fs, d ≠ some x.2.1) → putF fs β (a.put d v) = (putF fs β a).put d v
  | [], _ => rfl
  | x :: fs, h => by
    unfold putF
    rw [putF_put (fs := fs) fun y hy => h y (by simp [hy])]
    cases β x.1 with
    | none => rfl
    | some b => exact Act.put_comm _ _ _ fun e he hx => h x (by simp) (by rw [he, hx])
theorem putF_set {β : Nat → Option Nat} {a : Act} {x : FL} {b : Nat} : ∀ {fs : List FL}, x ∈ fs → (fs.map (·.1)).Nodup → (fs.map (·.2.1)).Nodup → β x.1 = none → putF fs (setB β x.1 b) a = (putF fs β a).put (some x.2.1) (ptrB b)
  | [], h, _, _, _ => by cases h
  | y :: fs, h, hn, hs, hb => by
    simp only [List.map_cons, List.nodup_cons, List.mem_map, not_exists, not_and] at hn hs
    unfold putF
    by_cases hxy : y.1 = x.1
    · have hyx : y = x := by
        rcases List.mem_cons.1 h with rfl | h'
        · rfl
        · exact absurd hxy.symm (hn.1 x h')
      subst hyx
      have e : putF fs (setB β y.1 b) a = putF fs β a := putF_congr fun z hz => by
        unfold setB; rw [if_neg (fun e => hn.1 z hz e)]
      simp only [setB, if_true, hb] at e ⊢
      rw [e]
    · have hx : x ∈ fs := by
        rcases List.mem_cons.1 h with rfl | h'
        · exact absurd rfl hxy
        · exact h'
      have e : setB β x.1 b y.1 = β y.1 := by unfold setB; rw [if_neg hxy]
      rw [e, putF_set hx hn.2 hs.2 hb]
      cases β y.1 with
      | none => rfl
      | some b' => exact Act.put_comm _ _ _ fun d hd hd' => hs.1 x hx (by simp_all)
theorem np_set {β : Nat → Option Nat} {x : FL} {b : Nat} : ∀ {fs : List FL}, x ∈ fs → (fs.map (·.1)).Nodup → β x.1 = none → np fs (setB β x.1 b) + 1 = np fs β
  | [], h, _, _ => by cases h
  | y :: fs, h, hn, hb => by
    simp only [List.map_cons, List.nodup_cons, List.mem_map, not_exists, not_and] at hn
    unfold np
    rw [List.countP_cons, List.countP_cons]
    by_cases hxy : y.1 = x.1
    · have e : fs.countP (fun z => (setB β x.1 b z.1).isNone) = fs.countP (fun z => (β z.1).isNone) := by
        refine List.countP_congr fun z hz => ?_
        rw [show setB β x.1 b z.1 = β z.1 by unfold setB; rw [if_neg (fun e => hn.1 z hz (e.trans hxy.symm))]]
      rw [e, show setB β x.1 b y.1 = some b by unfold setB; rw [if_pos hxy], show β y.1 = none by rw [hxy]; exact hb]
      simp
    · have hx : x ∈ fs := by
        rcases List.mem_cons.1 h with rfl | h'
        · exact absurd rfl hxy
        · exact h'
      have ih := np_set (b := b) hx hn.2 hb
      unfold np at ih
      rw [show setB β x.1 b y.1 = β y.1 by unfold setB; rw [if_neg hxy]]
      omega
theorem nodup_inj {x y : FL} : ∀ {fs : List FL}, (fs.map (·.1)).Nodup → x ∈ fs → y ∈ fs → x.1 = y.1 → x = y
  | [], _, h, _, _ => by cases h
  | z :: fs, hn, hx, hy, e => by
    simp only [List.map_cons, List.nodup_cons, List.mem_map, not_exists, not_and] at hn
    rcases List.mem_cons.1 hx with rfl | hx'
    · rcases List.mem_cons.1 hy with rfl | hy'
      · rfl
      · exact absurd e.symm (hn.1 y hy')
    · rcases List.mem_cons.1 hy with rfl | hy'
      · exact absurd e (hn.1 x hx')
      · exact nodup_inj hn.2 hx' hy' e
theorem np_zero {β : Nat → Option Nat} {fs : List FL} (h : np fs β = 0) : ∀ x ∈ fs, ∃ b, β x.1 = some b := by
  intro x hx
  have := List.countP_eq_zero.1 h x hx
  cases hb : β x.1 with
  | none => simp [hb] at this
  | some b => exact ⟨b, rfl⟩
theorem np_pos {β : Nat → Option Nat} {fs : List FL} (h : np fs β ≠ 0) : ∃ x ∈ fs, β x.1 = none := by
  obtain ⟨x, hx, hb⟩ := List.countP_pos_iff.1 (Nat.pos_of_ne_zero h)
  exact ⟨x, hx, by simpa using hb⟩
section
variable {P : Program} {ops : Array Oper} {Q : Exit → Act → World → Prop} {tl : List Nat}
theorem wpOp_put1 {j : Nat} {oj : Oper} {d : Tmp} {v : Value} (hj : ops[j]? = some oj) (hsj : ∀ cs b, oj.op ≠ .select cs b) (h1 : d ∉ oj.looksAt ops) (h2 : oj.dst ≠ some d)
    (hQ : ∀ c a w, Q (.panic c) a w → Q (.panic c) (a.put (some d) v) w) {K : Act → World → Prop} {a : Act} {w : World} (h : wpOp P ops Q j K a w) :
    wpOp P ops Q j (fun a' w' => ∃ a'', a' = a''.put (some d) v ∧ K a'' w') (a.put (some d) v) w := by
  have h1' : ∀ e, (some d : Option Tmp) = some e → e ∉ oj.looksAt ops := fun e he => by obtain rfl := Option.some.inj he; exact h1
  have h2' : ∀ e, (some d : Option Tmp) = some e → oj.dst ≠ some e := fun e he => by obtain rfl := Option.some.inj he; exact h2
  unfold wpOp at *
  simp only [hj] at *
  rw [wanted_put oj a (some d) v h1']
  split
  · rename_i hw
    simp only [hw, if_true] at h
    rcases h with h | ⟨hasks, hlets⟩
    case inr => exact .inr ⟨by unfold Oper.asks at *; rw [execOp_put oj hsj a (some d) v h1']; exact hasks, hlets⟩
    refine .inl ?_
    unfold Oper.wp at *
    rw [execOp_put oj hsj a (some d) v h1']
    generalize (execOp a.eval oj).run P w = r at *
    cases r with
    | ok n w' =>
      cases n <;> simp only [Oper.upon] at h ⊢
      case value u => exact ⟨_, Act.put_comm a v u h2', h⟩
      case skip => exact ⟨_, Act.put_comm a v undef h2', h⟩
      case defer f => exact ⟨_, Act.put_comm { a with defers := f :: a.defers } v undef h2', h⟩
      case enter f args =>
        refine Calls.mono h fun e w'' he => ?_
        cases e with
        | returned u => exact ⟨_, Act.put_comm a v u h2', he⟩
        | panicked c => exact hQ _ _ _ he
        | outgrown => exact he
      case row row args => exact Rows.mono h fun u w'' he => ⟨_, Act.put_comm a v u h2', he⟩
    | halt x w' =>
      cases x <;> simp only [Oper.upon] at h ⊢
      case panic u => exact hQ _ _ _ h
  · rename_i hw
    simp only [hw] at h
    exact ⟨_, Act.put_comm a v undef h2', h⟩
theorem wpOp_putF {j : Nat} {oj : Oper} {β : Nat → Option Nat} (hj : ops[j]? = some oj) (hsj : ∀ cs b, oj.op ≠ .select cs b) (hQ : ∀ c a d v w, Q (.panic c) a w → Q (.panic c) (a.put d v) w)
    {K : Act → World → Prop} {a : Act} {w : World} (h : wpOp P ops Q j K a w) : ∀ {fs : List FL}, (∀ x ∈ fs, x.2.1 ∉ oj.looksAt ops ∧ oj.dst ≠ some x.2.1) →
    wpOp P ops Q j (fun a' w' => ∃ a'', a' = putF fs β a'' ∧ K a'' w') (putF fs β a) w
  | [], _ => wpOp_mono (fun a' w' h' => ⟨a', rfl, h'⟩) h
  | x :: fs, hx => by
    have ih := wpOp_putF (β := β) hj hsj hQ h (fs := fs) fun y hy => hx y (by simp [hy])
    unfold putF
    cases β x.1 with
    | none => exact ih
    | some b =>
      refine wpOp_mono ?_ (wpOp_put1 (v := ptrB b) hj hsj (hx x (by simp)).1 (hx x (by simp)).2 (fun c a w => hQ c a _ _ w) ih)
      rintro a' w' ⟨a1, rfl, a2, rfl, hk⟩
      exact ⟨a2, rfl, hk⟩
theorem yields_putF {S : World → Prop} {o : Oper} {v : Value} {a : Act} {β : Nat → Option Nat} (hs : ∀ cs b, o.op ≠ .select cs b) (hy : YieldsIf P ops S o v a) : ∀ {fs : List FL}, (∀ x ∈ fs, x.2.1 ∉ o.looksAt ops) → YieldsIf P ops S o v (putF fs β a)
  | [], _ => hy
  | x :: fs, hx => by
    have ih := yields_putF (β := β) hs hy (fs := fs) fun y hy => hx y (by simp [hy])
    unfold putF
    cases β x.1 with
    | none => exact ih
    | some b =>
      have h1 : ∀ e, (some x.2.1 : Option Tmp) = some e → e ∉ o.looksAt ops := fun e he => by obtain rfl := Option.some.inj he; exact hx x (by simp)
      exact ih.of_same (execOp_put o hs _ _ _ h1) (wanted_put o _ _ _ h1)
/-- As 'wpAnyT'; an operation of 'pu' reads no memory: it may come up behind those of 'tl', too. -/
def wpAnyU (P : Program) (ops : Array Oper) (Q : Exit → Act → World → Prop) (S : World → Prop) (tl pu : List Nat) : Nat → Array Bool → Act → World → Prop
  | 0, listed, a, w => Region.ready .any ops listed = [] ∧ Q .normal a w
  | fuel + 1, listed, a, w =>
    (Region.ready .any ops listed = [] → Q .normal a w) ∧
    ∀ i ∈ Region.ready .any ops listed, wpOp P ops Q i (fun a' w' => (tl.contains i = false → (pu.contains i = true → S w) → S w') ∧ wpAnyU P ops Q S tl pu fuel (listed.setIfInBounds i true) a' w') a w
theorem wpAny_of_U {S : World → Prop} {pu : List Nat} : ∀ (fuel : Nat) (listed : Array Bool) (a : Act) (w : World), wpAnyU P ops Q S tl pu fuel listed a w → wpAny P .any ops Q fuel listed a w
  | 0, _, _, _, h => h
  | fuel + 1, _, _, _, h => ⟨h.1, fun i hi => wpOp_mono (fun a' w' h' => wpAny_of_U fuel _ a' w' h'.2) (h.2 i hi)⟩
/-- k is i, or waits for it by way of others that have not come up. -/
def dep (ops : Array Oper) (listed : Array Bool) (i : Nat) : Nat → Nat → Prop
  | 0, k => k = i
  | n + 1, k => k = i ∨ (listed.getD k false = false ∧ ∃ om, ops[k]? = some om ∧ ∃ e' ∈ om.after, Region.binds .any e' = true ∧ dep ops listed i n e'.on)
theorem dep_top {listed : Array Bool} {i : Nat} : ∀ {n k : Nat}, dep ops listed i n k → k = i ∨ listed.getD k false = false
  | 0, _, h => .inl h
  | _ + 1, _, .inl h => .inl h
  | _ + 1, _, .inr h => .inr h.1
theorem dep_set {listed : Array Bool} {i j : Nat} {oj : Oper} (hoj : ops[j]? = some oj) (hall : ∀ e ∈ oj.after, Region.binds .any e = true → listed.getD e.on false = true) (hnot : ∀ e ∈ oj.after, Region.binds .any e = true → e.on ≠ i) :
    ∀ (n k : Nat), dep ops listed i n k → dep ops (listed.setIfInBounds j true) i n k
  | 0, _, h => h
  | _ + 1, _, .inl h => .inl h
  | n + 1, k, .inr ⟨ho, om, hom, e', he', hb', hd⟩ => by
    refine .inr ⟨?_, om, hom, e', he', hb', dep_set hoj hall hnot n _ hd⟩
    have hje : j ≠ k := fun hje => by
      subst hje
      rw [hoj] at hom
      obtain rfl := Option.some.inj hom
      rcases dep_top hd with h | h
      · exact hnot e' he' hb' h
      · rw [hall e' he' hb'] at h; cases h
    rw [getD_set_ne false hje]; exact ho
/-- Every tail operation that has not come up waits for i, or for others that do. -/
def waits2 (ops : Array Oper) (tl : List Nat) (listed : Array Bool) (i : Nat) : Prop :=
  ∀ j oj, ops[j]? = some oj → tl.contains j = true → listed.getD j true = false → ∃ e ∈ oj.after, Region.binds .any e = true ∧ dep ops listed i 4 e.on
theorem wpAnyU_first {S : World → Prop} {pu : List Nat} {i : Nat} {oi : Oper} {v : Value} (hi : ops[i]? = some oi) (hsel : ∀ (j : Nat) (o : Oper) cs b, ops[j]? = some o → o.op ≠ .select cs b)
    (hQ : ∀ c a w, Q (.panic c) (a.put oi.dst v) w → Q (.panic c) a w) :
    ∀ (fuel : Nat) (listed : Array Bool) (a : Act) (w : World),
      (∀ j oj, ops[j]? = some oj → j ≠ i → listed.getD j true = false → (∀ e ∈ oj.after, Region.binds .any e = true → e.on ≠ i) → oi.apart ops oj = true) →
      waits2 ops tl listed i →
      i ∈ Region.ready .any ops listed → YieldsIf P ops S oi v a → S w →
      wpAnyU P ops Q S tl pu fuel (listed.setIfInBounds i true) (a.put oi.dst v) w → wpAnyU P ops Q S tl pu (fuel + 1) listed a w := by
  intro fuel
  induction fuel with
  | zero =>
    intro listed a w _ _ hr hy hS H
    refine ⟨fun h => (by rw [h] at hr; cases hr), fun j hj => ?_⟩
    by_cases hji : j = i
    · subst hji; exact hy.wpOp hi hS ⟨fun _ _ => hS, H⟩
    · have := ready_mono hj hji
      rw [H.1] at this
      cases this
  | succ fuel ih =>
    intro listed a w hfree hwt hr hy hS H
    refine ⟨fun h => (by rw [h] at hr; cases hr), fun j hj => ?_⟩
    by_cases hji : j = i
    · subst hji; exact hy.wpOp hi hS ⟨fun _ _ => hS, H⟩
    · have h1 := H.2 j (ready_mono hj hji)
      obtain ⟨hjun, oj, hoj, hall⟩ := mem_ready.1 hj
      have hnot : ∀ e ∈ oj.after, Region.binds .any e = true → e.on ≠ i := fun e he hb heq => by
        have h1 := hall e he hb
        have h0 := (mem_ready.1 hr).1
        rw [heq] at h1
        rcases Nat.lt_or_ge i listed.size with h' | h'
        · simp [h'] at h0 h1; rw [h0] at h1; cases h1
        · simp [Array.getElem?_eq_none h'] at h1
      have htj : tl.contains j = false := by
        cases hc : tl.contains j with
        | false => rfl
        | true =>
          obtain ⟨e, he, hb, ho⟩ := hwt j oj hoj hc hjun
          rcases dep_top ho with ho | ho
          · exact absurd ho (hnot e he hb)
          · have := hall e he hb
            rw [ho] at this; cases this
      have h2 := wpOp_putIf hoj (hfree j oj hoj hji hjun hnot) (fun cs b => hsel i oi cs b hi) (fun cs b => hsel j oj cs b hoj) hQ hy h1
      have hfree' : ∀ k ok, ops[k]? = some ok → k ≠ i → (listed.setIfInBounds j true).getD k true = false →
          (∀ e ∈ ok.after, Region.binds .any e = true → e.on ≠ i) → oi.apart ops ok = true := fun k ok hk hki hun hno => by
        refine hfree k ok hk hki ?_ hno
        by_cases hjk : j = k
        · subst hjk; exact hjun
        · rw [getD_set_ne true hjk] at hun; exact hun
      have hwt' : waits2 ops tl (listed.setIfInBounds j true) i := fun k ok hk htk hun => by
        obtain ⟨e, he, hb, ho⟩ := hwt k ok hk htk (by
          by_cases hjk : j = k
          · subst hjk; exact hjun
          · rw [getD_set_ne true hjk] at hun; exact hun)
        exact ⟨e, he, hb, dep_set hoj hall hnot _ _ ho⟩
      refine wpOp_mono (fun a' w' h3 => ⟨h3.2.1, ih (listed.setIfInBounds j true) a' w' hfree' hwt' (ready_mono hr (Ne.symm hji)) h3.1 (h3.2.1 htj fun _ => hS) ?_⟩) h2
      rw [Array.setIfInBounds_comm _ _ hji]
      exact h3.2.2
theorem wpAnyU_pure {S : World → Prop} {pu : List Nat} {i : Nat} {oi : Oper} {v : Value} (hi : ops[i]? = some oi) (hsel : ∀ (j : Nat) (o : Oper) cs b, ops[j]? = some o → o.op ≠ .select cs b)
    (hpi : pu.contains i = true) (hQ : ∀ c a w, Q (.panic c) (a.put oi.dst v) w → Q (.panic c) a w) :
    ∀ (fuel : Nat) (listed : Array Bool) (a : Act) (w : World),
      (∀ j oj, ops[j]? = some oj → j ≠ i → listed.getD j true = false → (∀ e ∈ oj.after, Region.binds .any e = true → e.on ≠ i) → oi.apart ops oj = true) →
      i ∈ Region.ready .any ops listed → YieldsIf P ops (fun _ => True) oi v a →
      wpAnyU P ops Q S tl pu fuel (listed.setIfInBounds i true) (a.put oi.dst v) w → wpAnyU P ops Q S tl pu (fuel + 1) listed a w := by
  intro fuel
  induction fuel with
  | zero =>
    intro listed a w _ hr hy H
    refine ⟨fun h => (by rw [h] at hr; cases hr), fun j hj => ?_⟩
    by_cases hji : j = i
    · subst hji; exact hy.wpOp hi trivial ⟨fun _ h => h hpi, H⟩
    · have := ready_mono hj hji
      rw [H.1] at this
      cases this
  | succ fuel ih =>
    intro listed a w hfree hr hy H
    refine ⟨fun h => (by rw [h] at hr; cases hr), fun j hj => ?_⟩
    by_cases hji : j = i
    · subst hji; exact hy.wpOp hi trivial ⟨fun _ h => h hpi, H⟩
    · have h1 := H.2 j (ready_mono hj hji)
      obtain ⟨hjun, oj, hoj, hall⟩ := mem_ready.1 hj
      have hnot : ∀ e ∈ oj.after, Region.binds .any e = true → e.on ≠ i := fun e he hb heq => by
        have h1 := hall e he hb
        have h0 := (mem_ready.1 hr).1
        rw [heq] at h1
        rcases Nat.lt_or_ge i listed.size with h' | h'
        · simp [h'] at h0 h1; rw [h0] at h1; cases h1
        · simp [Array.getElem?_eq_none h'] at h1
      have h2 := wpOp_putIf hoj (hfree j oj hoj hji hjun hnot) (fun cs b => hsel i oi cs b hi) (fun cs b => hsel j oj cs b hoj) hQ hy h1
      have hfree' : ∀ k ok, ops[k]? = some ok → k ≠ i → (listed.setIfInBounds j true).getD k true = false →
          (∀ e ∈ ok.after, Region.binds .any e = true → e.on ≠ i) → oi.apart ops ok = true := fun k ok hk hki hun hno => by
        refine hfree k ok hk hki ?_ hno
        by_cases hjk : j = k
        · subst hjk; exact hjun
        · rw [getD_set_ne true hjk] at hun; exact hun
      refine wpOp_mono (fun a' w' h3 => ⟨h3.2.1, ih (listed.setIfInBounds j true) a' w' hfree' (ready_mono hr (Ne.symm hji)) h3.1 ?_⟩) h2
      rw [Array.setIfInBounds_comm _ _ hji]
      exact h3.2.2
/-- What ends the region, one behind the other. -/
def wpTl (P : Program) (ops : Array Oper) (Q : Exit → Act → World → Prop) : List Nat → Act → World → Prop
  | [], a, w => Q .normal a w
  | i :: rest, a, w => wpOp P ops Q i (wpTl P ops Q rest) a w
def tailOk (ops : Array Oper) (tl : List Nat) : Array Bool → List Nat → Bool
  | listed, [] => (Region.ready .any ops listed).isEmpty
  | listed, i :: rest => (Region.ready .any ops listed == [i]) && tl.contains i && tailOk ops tl (listed.setIfInBounds i true) rest
theorem wpTl_sound {S : World → Prop} {pu : List Nat} : ∀ (tp : List Nat) (listed : Array Bool) (a : Act) (w : World), tailOk ops tl listed tp = true → wpTl P ops Q tp a w → wpAnyU P ops Q S tl pu tp.length listed a w
  | [], listed, a, w, ho, h => ⟨by simpa [tailOk] using ho, h⟩
  | i :: rest, listed, a, w, ho, h => by
    simp only [tailOk, Bool.and_eq_true, beq_iff_eq] at ho
    obtain ⟨⟨h1, h2⟩, h3⟩ := ho
    refine ⟨fun h0 => (by rw [h1] at h0; cases h0), fun j hj => ?_⟩
    rw [h1] at hj
    obtain rfl : j = i := by simpa using hj
    exact wpOp_mono (fun a' w' h' => ⟨fun ht => (by rw [h2] at ht; cases ht), wpTl_sound rest _ _ _ h3 h'⟩) h
theorem wpTl_op {i : Nat} {o : Oper} {rest : List Nat} {a : Act} {w : World} (hi : ops.toList[i]? = some o) (hw : Region.wanted o (yielded ops a.tmps) = true) (h : ∀ K : Act → World → Prop, (∀ a' w', wpTl P ops Q rest a' w' → K a' w') → o.wp P a w K Q) :
    wpTl P ops Q (i :: rest) a w := by
  have hi' : ops[i]? = some o := by simpa using hi
  show wpOp _ _ _ _ _ _ _
  unfold wpOp
  simp only [hi', hw, if_true]
  exact .inl (h _ fun a' w' hk => hk)
theorem wpTl_nil {a : Act} {w : World} (h : Q .normal a w) : wpTl P ops Q [] a w := h
/-- The walk by a plan, whatever the new variables' turns. -/
def wpFp (P : Program) (ops : Array Oper) (Q : Exit → Act → World → Prop) (W0 : World) (fs : List FL) (tp : List Nat) : List (Nat × Nat) → Act → (World → Prop) → Prop
  | [], a, E => ∀ (β : Nat → Option Nat) (w : World), Ext W0 w → E w → (∀ x ∈ fs, ∃ b, β x.1 = some b ∧ w.heap[b]? = some x.2.2 ∧ W0.heap.size ≤ b) →
      (∀ x ∈ fs, ∀ y ∈ fs, ∀ b, β x.1 = some b → β y.1 = some b → x.1 = y.1) → wpTl P ops Q tp (putF fs β a) w
  | (i, 0) :: rest, a, E => ∃ o v, ops[i]? = some o ∧ YieldsIf P ops (Ext W0) o v a ∧ wpFp P ops Q W0 fs tp rest (a.put o.dst v) E
  | (i, 2) :: rest, a, E => ∃ o v, ops[i]? = some o ∧ YieldsIf P ops (fun _ => True) o v a ∧ wpFp P ops Q W0 fs tp rest (a.put o.dst v) E
  | (i, _) :: rest, a, E => ∀ w, Ext W0 w → E w → wpOp P ops Q i (fun a' w' => Ext w w' ∧ ∃ E' : World → Prop, (∀ w1 w2, Ext w1 w2 → E' w1 → E' w2) ∧ E' w' ∧ wpFp P ops Q W0 fs tp rest a' E') a w
def floatsOk (ops : Array Oper) (fs : List FL) (tl : List Nat) : Bool :=
  fs.all (fun x => match ops[x.1]? with
    | some o => o.guard.isNone && o.dst == some x.2.1 && o.after.all (fun e => !Region.binds .any e) && !tl.contains x.1
    | none => false) &&
  decide (fs.map (·.1)).Nodup && decide (fs.map (·.2.1)).Nodup &&
  (List.range ops.size).all (fun j => (fs.map (·.1)).contains j || match ops[j]? with
    | none => true
    | some oj =>
      if tl.contains j then fs.all (fun x => oj.after.any (fun e => Region.binds .any e && e.on == x.1))
      else oj.after.all (fun e => !Region.binds .any e || !(fs.map (·.1)).contains e.on) &&
        fs.all (fun x => !(oj.looksAt ops).contains x.2.1 && oj.dst != some x.2.1 && (match ops[x.1]? with | some o => oj.apart ops o | none => false)))
def depB (ops : Array Oper) (F : List Nat) (listed : Array Bool) (i : Nat) : Nat → Nat → Bool
  | 0, k => k == i
  | n + 1, k => k == i || (!F.contains k && !listed.getD k false && match ops[k]? with | some om => om.after.any (fun e' => Region.binds .any e' && depB ops F listed i n e'.on) | none => false)
def planF (ops : Array Oper) (F : List Nat) (tl pu : List Nat) : Array Bool → List (Nat × Nat) → Bool
  | listed, [] => (List.range ops.size).all (fun j => listed.getD j true || tl.contains j)
  | listed, (i, 0) :: rest => Region.free .any ops listed i && (Region.ready .any ops listed).contains i && !tl.contains i && !F.contains i &&
      tl.all (fun j => listed.getD j true || match ops[j]? with | some oj => oj.after.any (fun e => Region.binds .any e && depB ops F listed i 4 e.on) | none => true) && planF ops F tl pu (listed.setIfInBounds i true) rest
  | listed, (i, 2) :: rest => Region.free .any ops listed i && (Region.ready .any ops listed).contains i && !tl.contains i && !F.contains i && pu.contains i && planF ops F tl pu (listed.setIfInBounds i true) rest
  | listed, (i, _) :: rest => (Region.ready .any ops listed == [i]) && !tl.contains i && !F.contains i && !pu.contains i && planF ops F tl pu (listed.setIfInBounds i true) rest
def listAll (listed : Array Bool) (pl : List (Nat × Nat)) : Array Bool := pl.foldl (fun l x => l.setIfInBounds x.1 true) listed
/-- How far the floats have come up. -/
structure Rel (fs : List FL) (listed lF : Array Bool) (β : Nat → Option Nat) : Prop where
  size : listed.size = lF.size
  main : ∀ j, j ∉ fs.map (·.1) → listed[j]? = lF[j]?
  done : ∀ x ∈ fs, listed[x.1]? = some (β x.1).isSome ∧ lF[x.1]? = some true
theorem Rel.step {fs : List FL} {listed lF : Array Bool} {β : Nat → Option Nat} (h : Rel fs listed lF β) {i : Nat} (hi : i ∉ fs.map (·.1)) : Rel fs (listed.setIfInBounds i true) (lF.setIfInBounds i true) β := by
  refine ⟨by simp [h.size], fun j hj => ?_, fun x hx => ?_⟩
  · rw [Array.getElem?_setIfInBounds, Array.getElem?_setIfInBounds, h.size, h.main j hj]
  · have hne : i ≠ x.1 := fun e => hi (by rw [e]; exact List.mem_map.2 ⟨x, hx, rfl⟩)
    rw [Array.getElem?_setIfInBounds_ne hne, Array.getElem?_setIfInBounds_ne hne]
    exact h.done x hx
theorem Rel.float {fs : List FL} {listed lF : Array Bool} {β : Nat → Option Nat} (h : Rel fs listed lF β) {x : FL} (hx : x ∈ fs) (b : Nat) : Rel fs (listed.setIfInBounds x.1 true) lF (setB β x.1 b) := by
  refine ⟨by simp [h.size], fun j hj => ?_, fun y hy => ?_⟩
  · rw [Array.getElem?_setIfInBounds_ne (fun e => hj (by rw [← e]; exact List.mem_map.2 ⟨x, hx, rfl⟩))]; exact h.main j hj
  · refine ⟨?_, (h.done y hy).2⟩
    have hl := (h.done y hy).1
    by_cases hxy : x.1 = y.1
    · rw [← hxy, Array.getElem?_setIfInBounds_self]
      have : x.1 < listed.size := by rw [hxy]; exact (Array.getElem?_eq_some_iff.1 hl).1
      simp [this, setB]
    · rw [Array.getElem?_setIfInBounds_ne hxy, hl]
      unfold setB; rw [if_neg (fun e => hxy e.symm)]
theorem getD_of {l : Array Bool} {j : Nat} {b d : Bool} (h : l[j]? = some b) : l.getD j d = b := by simp [h]
theorem getD_same {l l' : Array Bool} {j : Nat} {d : Bool} (h : l[j]? = l'[j]?) : l.getD j d = l'.getD j d := by simp [h]
theorem dep_of {fs : List FL} {listed lF : Array Bool} {β : Nat → Option Nat} (hR : Rel fs listed lF β) {i : Nat} : ∀ (n k : Nat), depB ops (fs.map (·.1)) lF i n k = true → dep ops listed i n k
  | 0, k, h => by show k = i; simpa [depB] using h
  | n + 1, k, h => by
    simp only [depB, Bool.or_eq_true, beq_iff_eq, Bool.and_eq_true, Bool.not_eq_true'] at h
    rcases h with h | ⟨⟨hF, hun⟩, h⟩
    · exact .inl h
    · right
      refine ⟨by rw [getD_same (hR.main k (by simpa using hF))]; exact hun, ?_⟩
      cases hom : ops[k]? with
      | none => rw [hom] at h; cases h
      | some om =>
        rw [hom] at h
        obtain ⟨e', he', hb'⟩ := Array.any_eq_true'.1 h
        simp only [Bool.and_eq_true] at hb'
        exact ⟨om, rfl, e', he', hb'.1, dep_of hR n _ hb'.2⟩
/-- What floatsOk says. -/
structure FOk (ops : Array Oper) (fs : List FL) (tl : List Nat) : Prop where
  fl : ∀ x ∈ fs, ∃ o, ops[x.1]? = some o ∧ o.guard = none ∧ o.dst = some x.2.1 ∧ (∀ e ∈ o.after, Region.binds .any e = false) ∧ tl.contains x.1 = false
  n1 : (fs.map (·.1)).Nodup
  n2 : (fs.map (·.2.1)).Nodup
  tail : ∀ j oj, ops[j]? = some oj → j ∉ fs.map (·.1) → tl.contains j = true → ∀ x ∈ fs, ∃ e ∈ oj.after, Region.binds .any e = true ∧ e.on = x.1
  main : ∀ j oj, ops[j]? = some oj → j ∉ fs.map (·.1) → tl.contains j = false → (∀ e ∈ oj.after, Region.binds .any e = true → e.on ∉ fs.map (·.1)) ∧ ∀ x ∈ fs, x.2.1 ∉ oj.looksAt ops ∧ oj.dst ≠ some x.2.1 ∧ ∀ o, ops[x.1]? = some o → oj.apart ops o = true
theorem FOk.of {fs : List FL} (h : floatsOk ops fs tl = true) : FOk ops fs tl := by
  simp only [floatsOk, Bool.and_eq_true, decide_eq_true_eq, List.all_eq_true] at h
  obtain ⟨⟨⟨h1, h2⟩, h3⟩, h4⟩ := h
  refine ⟨fun x hx => ?_, h2, h3, fun j oj hj hn ht x hx => ?_, fun j oj hj hn ht => ?_⟩
  · have := h1 x hx
    cases ho : ops[x.1]? with
    | none => rw [ho] at this; cases this
    | some o =>
      rw [ho] at this
      simp only [Bool.and_eq_true, Bool.not_eq_true', Option.isNone_iff_eq_none, beq_iff_eq, Array.all_eq_true_iff_forall_mem] at this
      exact ⟨o, rfl, this.1.1.1, this.1.1.2, this.1.2, this.2⟩
  · have := h4 j (List.mem_range.2 (Array.getElem?_eq_some_iff.1 hj).1)
    rw [show (fs.map (·.1)).contains j = false by simpa using hn, hj] at this
    simp only [Bool.false_or, ht, if_true, List.all_eq_true] at this
    obtain ⟨e, he, hb⟩ := Array.any_eq_true'.1 (this x hx)
    simp only [Bool.and_eq_true, beq_iff_eq] at hb
    exact ⟨e, he, hb⟩
  · have := h4 j (List.mem_range.2 (Array.getElem?_eq_some_iff.1 hj).1)
    rw [show (fs.map (·.1)).contains j = false by simpa using hn, hj] at this
    simp only [Bool.false_or, ht, Bool.false_eq_true, if_false, Bool.and_eq_true, List.all_eq_true, Array.all_eq_true_iff_forall_mem] at this
    refine ⟨fun e he hb hin => ?_, fun x hx => ?_⟩
    · have := this.1 e he
      rw [hb] at this
      simp only [Bool.not_true, Bool.false_or, Bool.not_eq_true'] at this
      exact absurd hin (by simpa using this)
    · have := this.2 x hx
      obtain ⟨⟨a1, a2⟩, a3⟩ := this
      refine ⟨by simpa using a1, by simpa using a2, fun o ho => ?_⟩
      rw [ho] at a3
      exact a3
theorem wpFp_sound {W0 : World} {fs : List FL} {tp pu : List Nat} (hok : FOk ops fs tl) (hsel : Region.noSelect ops = true) (hQ : ∀ c a d v w, Q (.panic c) (a.put d v) w → Q (.panic c) a w) (hQ' : ∀ c a d v w, Q (.panic c) a w → Q (.panic c) (a.put d v) w)
    (hob : ∀ x ∈ fs, ∀ o, ops[x.1]? = some o → ∀ (a : Act) (w : World), (execOp a.eval o).run P w = .ok (.value (ptrB w.heap.size)) (w.alloc x.2.2)) :
    ∀ (m : Nat) (pl : List (Nat × Nat)) (listed lF : Array Bool) (β : Nat → Option Nat) (a : Act) (E : World → Prop) (w : World), pl.length + np fs β = m → Rel fs listed lF β →
      planF ops (fs.map (·.1)) tl pu lF pl = true → tailOk ops tl (listAll lF pl) tp = true → Ext W0 w → (∀ w1 w2, Ext w1 w2 → E w1 → E w2) → E w →
      (∀ x ∈ fs, ∀ b, β x.1 = some b → w.heap[b]? = some x.2.2 ∧ W0.heap.size ≤ b) → (∀ x ∈ fs, ∀ y ∈ fs, ∀ b, β x.1 = some b → β y.1 = some b → x.1 = y.1) →
      wpFp P ops Q W0 fs tp pl a E → wpAnyU P ops Q (Ext W0) tl pu (m + tp.length) listed (putF fs β a) w := by
  intro m
  induction m with
  | zero =>
    intro pl listed lF β a E w hm hR hpl htp hX hst hE hbl hinj h
    obtain rfl : pl = [] := List.eq_nil_of_length_eq_zero (by omega)
    have hz : np fs β = 0 := by simpa using hm
    have hdone := np_zero hz
    have hl : listed = lF := by
      apply Array.ext_getElem?
      intro j
      by_cases hj : j ∈ fs.map (·.1)
      · obtain ⟨x, hx, rfl⟩ := List.mem_map.1 hj
        obtain ⟨b, hb⟩ := hdone x hx
        rw [(hR.done x hx).1, (hR.done x hx).2, hb]; rfl
      · exact hR.main j hj
    subst hl
    rw [Nat.zero_add]
    exact wpTl_sound tp _ _ _ htp (h β w hX hE (fun x hx => by obtain ⟨b, hb⟩ := hdone x hx; exact ⟨b, hb, hbl x hx b hb⟩) hinj)
  | succ m ih =>
    intro pl listed lF β a E w hm hR hpl htp hX hst hE hbl hinj h
    have hal : ∀ x ∈ fs, β x.1 = none → wpOp P ops Q x.1 (fun a' w' => (tl.contains x.1 = false → (pu.contains x.1 = true → Ext W0 w) → Ext W0 w') ∧ wpAnyU P ops Q (Ext W0) tl pu (m + tp.length) (listed.setIfInBounds x.1 true) a' w') (putF fs β a) w := by
      intro x hx hb
      obtain ⟨o, ho, hg, hd, _, _⟩ := hok.fl x hx
      unfold wpOp
      simp only [ho]
      rw [if_pos (by simp [Region.wanted, hg])]
      refine .inl ?_
      unfold Oper.wp
      rw [hob x hx o ho]
      have hnp := np_set (b := w.heap.size) hx hok.n1 hb
      have hXa : Ext w (w.alloc x.2.2) := (Ext.refl w).alloc _
      have key := ih pl (listed.setIfInBounds x.1 true) lF (setB β x.1 w.heap.size) a E (w.alloc x.2.2) (by omega) (hR.float hx _) hpl htp (hX.trans hXa) hst (hst _ _ hXa hE) ?_ ?_ h
      · rw [putF_set hx hok.n1 hok.n2 hb] at key
        simp only [Oper.upon, hd]
        exact ⟨fun _ _ => hX.trans hXa, key⟩
      · intro y hy b hyb
        by_cases hxy : y.1 = x.1
        · have hyx : y = x := by
            have := hok.n1
            exact nodup_inj this hy hx hxy
          subst hyx
          simp only [setB, if_true, Option.some.injEq] at hyb
          subst hyb
          exact ⟨heap_alloc_new _ _, hX.size⟩
        · simp only [setB, hxy, if_false] at hyb
          obtain ⟨h1, h2⟩ := hbl y hy b hyb
          have hlt : b < w.heap.size := by
            rcases Nat.lt_or_ge b w.heap.size with hl | hl
            · exact hl
            · rw [Array.getElem?_eq_none hl] at h1; cases h1
          exact ⟨by rw [hXa.block hlt]; exact h1, h2⟩
      · intro y hy z hz b hyb hzb
        have hlt : ∀ u ∈ fs, β u.1 = some b → b < w.heap.size := fun u hu hub => by
          obtain ⟨h1, _⟩ := hbl u hu b hub
          rcases Nat.lt_or_ge b w.heap.size with hl | hl
          · exact hl
          · rw [Array.getElem?_eq_none hl] at h1; cases h1
        unfold setB at hyb hzb
        split at hyb
        · rename_i e1
          split at hzb
          · rename_i e2; rw [e1, e2]
          · have := hlt z hz hzb
            simp only [Option.some.injEq] at hyb
            omega
        · split at hzb
          · have := hlt y hy hyb
            simp only [Option.some.injEq] at hzb
            omega
          · exact hinj y hy z hz b hyb hzb
    have hfr : ∀ x ∈ fs, β x.1 = none → x.1 ∈ Region.ready .any ops listed := by
      intro x hx hb
      obtain ⟨o, ho, _, _, ha, _⟩ := hok.fl x hx
      refine mem_ready.2 ⟨?_, o, ho, fun e he hbi => ?_⟩
      · rw [getD_of (hR.done x hx).1, hb]; rfl
      · rw [ha e he] at hbi; cases hbi
    have hfl : ∀ x ∈ fs, x.1 ∈ Region.ready .any ops listed → β x.1 = none := by
      intro x hx hr
      have h0 := (mem_ready.1 hr).1
      rw [getD_of (hR.done x hx).1] at h0
      cases hb : β x.1 with
      | none => rfl
      | some b => rw [hb] at h0; cases h0
    have hto : ∀ j, j ∉ fs.map (·.1) → j ∈ Region.ready .any ops listed → j ∈ Region.ready .any ops lF := by
      intro j hj hr
      obtain ⟨h0, o, ho, ha⟩ := mem_ready.1 hr
      refine mem_ready.2 ⟨by rw [← getD_same (hR.main j hj)]; exact h0, o, ho, fun e he hb => ?_⟩
      have h1 := ha e he hb
      by_cases hin : e.on ∈ fs.map (·.1)
      · obtain ⟨x, hx, hxe⟩ := List.mem_map.1 hin
        rw [← hxe, getD_of (hR.done x hx).2]
      · rw [← getD_same (hR.main _ hin)]; exact h1
    have hfrom : ∀ j oj, ops[j]? = some oj → j ∉ fs.map (·.1) → tl.contains j = false → j ∈ Region.ready .any ops lF → j ∈ Region.ready .any ops listed := by
      intro j oj hoj hj ht hr
      obtain ⟨h0, o, ho, ha⟩ := mem_ready.1 hr
      obtain rfl : oj = o := by rw [hoj] at ho; exact Option.some.inj ho
      refine mem_ready.2 ⟨by rw [getD_same (hR.main j hj)]; exact h0, oj, hoj, fun e he hb => ?_⟩
      rw [getD_same (hR.main _ ((hok.main j oj hoj hj ht).1 e he hb))]
      exact ha e he hb
    match pl, hm, hpl, htp, h with
    | [], hm, hpl, htp, h =>
      have hnz : np fs β ≠ 0 := by simp at hm; omega
      obtain ⟨x0, hx0, hb0⟩ := np_pos hnz
      rw [show m + 1 + tp.length = (m + tp.length) + 1 by omega]
      refine ⟨fun h0 => (by have := hfr x0 hx0 hb0; rw [h0] at this; cases this), fun j hj => ?_⟩
      by_cases hin : j ∈ fs.map (·.1)
      · obtain ⟨x, hx, rfl⟩ := List.mem_map.1 hin
        exact hal x hx (hfl x hx hj)
      · exfalso
        obtain ⟨h0, oj, hoj, ha⟩ := mem_ready.1 hj
        rw [getD_same (hR.main j hin)] at h0
        simp only [planF, List.all_eq_true] at hpl
        have := hpl j (List.mem_range.2 (Array.getElem?_eq_some_iff.1 hoj).1)
        rw [h0, Bool.false_or] at this
        obtain ⟨e, he, hb, hon⟩ := hok.tail j oj hoj hin this x0 hx0
        have h1 := ha e he hb
        rw [hon, getD_of (hR.done x0 hx0).1, hb0] at h1
        cases h1
    | (i, 0) :: rest, hm, hpl, htp, h =>
      obtain ⟨o, v, hi, hy, h⟩ := h
      simp only [planF, Bool.and_eq_true, Bool.not_eq_true'] at hpl
      obtain ⟨⟨⟨⟨⟨h1, h2⟩, h3⟩, h3'⟩, h4⟩, h5⟩ := hpl
      have hiF : i ∉ fs.map (·.1) := by simpa using h3'
      obtain ⟨hm1, hm2⟩ := hok.main i o hi hiF h3
      have key := ih rest (listed.setIfInBounds i true) (lF.setIfInBounds i true) β (a.put o.dst v) E w (by simp at hm; omega) (hR.step hiF) h5 htp hX hst hE hbl hinj h
      rw [putF_put fun x hx => (hm2 x hx).2.1] at key
      rw [show m + 1 + tp.length = (m + tp.length) + 1 by omega]
      refine wpAnyU_first hi (Region.noSelect_spec hsel) (fun c a w => hQ c a _ _ w) _ _ _ _ ?_ ?_ (hfrom i o hi hiF h3 (by simpa using h2)) (yields_putF (Region.noSelect_spec hsel i o · · hi) hy fun x hx => (hm2 x hx).1) hX key
      · intro j oj hj hji hun hno
        by_cases hin : j ∈ fs.map (·.1)
        · obtain ⟨x, hx, rfl⟩ := List.mem_map.1 hin
          exact (hm2 x hx).2.2 oj hj
        · exact Region.free_spec hi h1 j oj hj hji (by rw [← getD_same (hR.main j hin)]; exact hun) hno
      · intro j oj hj htj hun
        have hjF : j ∉ fs.map (·.1) := fun hin => by
          obtain ⟨x, hx, rfl⟩ := List.mem_map.1 hin
          obtain ⟨_, _, _, _, _, ht⟩ := hok.fl x hx
          rw [ht] at htj; cases htj
        have h6 := List.all_eq_true.1 h4 j (by simpa using htj)
        rw [getD_same (hR.main j hjF)] at hun
        rw [hj] at h6
        simp only [hun, Bool.false_or] at h6
        obtain ⟨e, he, hb⟩ := Array.any_eq_true'.1 h6
        simp only [Bool.and_eq_true] at hb
        exact ⟨e, he, hb.1, dep_of hR _ _ hb.2⟩
    | (i, 2) :: rest, hm, hpl, htp, h =>
      obtain ⟨o, v, hi, hy, h⟩ := h
      simp only [planF, Bool.and_eq_true, Bool.not_eq_true'] at hpl
      obtain ⟨⟨⟨⟨⟨h1, h2⟩, h3⟩, h3'⟩, h4⟩, h5⟩ := hpl
      have hiF : i ∉ fs.map (·.1) := by simpa using h3'
      obtain ⟨hm1, hm2⟩ := hok.main i o hi hiF h3
      have key := ih rest (listed.setIfInBounds i true) (lF.setIfInBounds i true) β (a.put o.dst v) E w (by simp at hm; omega) (hR.step hiF) h5 htp hX hst hE hbl hinj h
      rw [putF_put fun x hx => (hm2 x hx).2.1] at key
      rw [show m + 1 + tp.length = (m + tp.length) + 1 by omega]
      refine wpAnyU_pure hi (Region.noSelect_spec hsel) h4 (fun c a w => hQ c a _ _ w) _ _ _ _ ?_ (hfrom i o hi hiF h3 (by simpa using h2)) (yields_putF (Region.noSelect_spec hsel i o · · hi) hy fun x hx => (hm2 x hx).1) key
      intro j oj hj hji hun hno
      by_cases hin : j ∈ fs.map (·.1)
      · obtain ⟨x, hx, rfl⟩ := List.mem_map.1 hin
        exact (hm2 x hx).2.2 oj hj
      · exact Region.free_spec hi h1 j oj hj hji (by rw [← getD_same (hR.main j hin)]; exact hun) hno
    | (i, 1) :: rest, hm, hpl, htp, h | (i, k + 3) :: rest, hm, hpl, htp, h =>
      simp only [planF, Bool.and_eq_true, Bool.not_eq_true', beq_iff_eq] at hpl
      obtain ⟨⟨⟨⟨h1, h2⟩, h3⟩, h4⟩, h5⟩ := hpl
      have hiF : i ∉ fs.map (·.1) := by simpa using h3
      have hir : i ∈ Region.ready .any ops lF := by rw [h1]; simp
      obtain ⟨_, o, hi, _⟩ := mem_ready.1 hir
      rw [show m + 1 + tp.length = (m + tp.length) + 1 by omega]
      refine ⟨fun h0 => (by have := hfrom i o hi hiF h2 hir; rw [h0] at this; cases this), fun j hj => ?_⟩
      by_cases hin : j ∈ fs.map (·.1)
      · obtain ⟨x, hx, rfl⟩ := List.mem_map.1 hin
        exact hal x hx (hfl x hx hj)
      · have hjr := hto j hin hj
        rw [h1] at hjr
        obtain rfl : j = i := by simpa using hjr
        obtain ⟨_, hm2⟩ := hok.main j o hi hiF h2
        refine wpOp_mono ?_ (wpOp_putF (β := β) hi (Region.noSelect_spec hsel j o · · hi) hQ' (h w hX hE) (fs := fs) fun x hx => ⟨(hm2 x hx).1, (hm2 x hx).2.1⟩)
        rintro a' w' ⟨a'', rfl, hXw, E', hst', hE', hk⟩
        refine ⟨fun _ _ => hX.trans hXw, ih rest (listed.setIfInBounds j true) (lF.setIfInBounds j true) β a'' E' w' (by simp at hm; omega) (hR.step hiF) h5 htp (hX.trans hXw) hst' hE' ?_ hinj hk⟩
        intro y hy b hyb
        obtain ⟨g1, g2⟩ := hbl y hy b hyb
        have hlt : b < w.heap.size := by
          rcases Nat.lt_or_ge b w.heap.size with hl | hl
          · exact hl
          · rw [Array.getElem?_eq_none hl] at g1; cases g1
        exact ⟨by rw [hXw.block hlt]; exact g1, g2⟩
/-- **The region, by a plan, with new variables at any time.** -/
theorem wp_float {id : Nat} {a : Act} {w : World} (fs : List FL) (pl : List (Nat × Nat)) (tp tl pu : List Nat) (hm : P.follows .mixedOrders = true) (hsel : Region.noSelect ops = true)
    (hok : (floatsOk ops fs tl && planF ops (fs.map (·.1)) tl pu (fs.foldl (fun l x => l.setIfInBounds x.1 true) (Array.replicate ops.size false)) pl && tailOk ops tl (listAll (fs.foldl (fun l x => l.setIfInBounds x.1 true) (Array.replicate ops.size false)) pl) tp && pl.length + fs.length + tp.length == ops.size) = true)
    (hQ : ∀ c a d v w, Q (.panic c) (a.put d v) w → Q (.panic c) a w) (hQ' : ∀ c a d v w, Q (.panic c) a w → Q (.panic c) (a.put d v) w)
    (hob : ∀ x ∈ fs, ∀ o, ops[x.1]? = some o → ∀ (a : Act) (w : World), (execOp a.eval o).run P w = .ok (.value (ptrB w.heap.size)) (w.alloc x.2.2))
    (h : wpFp P ops Q w.drew fs tp pl a (fun _ => True)) : (Code.region id ops true).wp P Q a w := by
  simp only [Bool.and_eq_true, beq_iff_eq] at hok
  obtain ⟨⟨⟨h1, h2⟩, h3⟩, h4⟩ := hok
  have hF := FOk.of h1
  refine wp_region_any hm (wpAny_of_U (S := Ext w.drew) (tl := tl) (pu := pu) _ _ _ _ ?_)
  have hnone : ∀ (fs' : List FL), np fs' (fun _ => none) = fs'.length := fun fs' => by
    unfold np; rw [List.countP_eq_length.2]; intro x hx; rfl
  have hput : ∀ (fs' : List FL) (a : Act), putF fs' (fun _ => none) a = a := fun fs' a => by
    induction fs' with
    | nil => rfl
    | cons x fs' ih => unfold putF; exact ih
  have hlF : ∀ (fs' : List FL) (l : Array Bool), l.size = ops.size → (∀ x ∈ fs', x.1 < ops.size) → (fs'.foldl (fun l x => l.setIfInBounds x.1 true) l).size = ops.size ∧ (∀ j : Nat, j ∉ fs'.map (·.1) → (fs'.foldl (fun l x => l.setIfInBounds x.1 true) l)[j]? = l[j]?) ∧
      (∀ x ∈ fs', (fs'.foldl (fun l x => l.setIfInBounds x.1 true) l)[x.1]? = some true) ∧ (∀ j : Nat, l[j]? = some true → (fs'.foldl (fun l x => l.setIfInBounds x.1 true) l)[j]? = some true) := by
    intro fs'
    induction fs' with
    | nil => intro l hl _; exact ⟨hl, fun _ _ => rfl, fun x hx => (by cases hx), fun _ h => h⟩
    | cons y fs' ih =>
      intro l hl hlt
      obtain ⟨i1, i2, i3, i4⟩ := ih (l.setIfInBounds y.1 true) (by simp [hl]) (fun x hx => hlt x (by simp [hx]))
      have hy : (l.setIfInBounds y.1 true)[y.1]? = some true := by
        have := hlt y (by simp)
        simp [hl, this]
      refine ⟨i1, fun j hj => ?_, fun x hx => ?_, fun j hj => ?_⟩
      · simp only [List.map_cons, List.mem_cons, not_or] at hj
        rw [List.foldl_cons, i2 j hj.2, Array.getElem?_setIfInBounds_ne (fun e => hj.1 e.symm)]
      · rcases List.mem_cons.1 hx with rfl | hx'
        · exact i4 _ hy
        · exact i3 x hx'
      · refine i4 j ?_
        by_cases e : y.1 = j
        · rw [← e]; exact hy
        · rw [Array.getElem?_setIfInBounds_ne e]; exact hj
  obtain ⟨l1, l2, l3, _⟩ := hlF fs (Array.replicate ops.size false) (by simp) (fun x hx => by
    obtain ⟨o, ho, _⟩ := hF.fl x hx
    exact (Array.getElem?_eq_some_iff.1 ho).1)
  have key := wpFp_sound (P := P) (Q := Q) (W0 := w.drew) (tp := tp) (pu := pu) hF hsel hQ hQ' hob (pl.length + fs.length) pl (Array.replicate ops.size false) _ (fun _ => none) a (fun _ => True) w.drew (by rw [hnone]) ⟨by rw [l1]; simp, fun j hj => (l2 j hj).symm, fun x hx => ⟨?_, l3 x hx⟩⟩ h2 h3 (Ext.refl _) (fun _ _ _ _ => trivial) trivial (fun x _ b hb => by cases hb) (fun x _ y _ b hb => by cases hb) h
  · rw [hput, h4] at key
    exact key
  · obtain ⟨o, ho, _⟩ := hF.fl x hx
    have := (Array.getElem?_eq_some_iff.1 ho).1
    simp [this]
variable {W0 : World} {fs : List FL} {tp : List Nat} {a : Act} {E : World → Prop} {i : Nat} {rest : List (Nat × Nat)} {o : Oper}
theorem wpFp_read {v : Value} (hi : ops.toList[i]? = some o) (hw : Region.wanted o (yielded ops a.tmps) = true) (h : ∀ w, Ext W0 w → (execOp a.eval o).run P w = .ok (.value v) w) (k : wpFp P ops Q W0 fs tp rest (a.put o.dst v) E) :
    wpFp P ops Q W0 fs tp ((i, 0) :: rest) a E := ⟨o, v, by simpa using hi, .inl ⟨hw, h⟩, k⟩
theorem wpFp_pure {v : Value} (hi : ops.toList[i]? = some o) (hw : Region.wanted o (yielded ops a.tmps) = true) (h : ∀ w, (execOp a.eval o).run P w = .ok (.value v) w) (k : wpFp P ops Q W0 fs tp rest (a.put o.dst v) E) :
    wpFp P ops Q W0 fs tp ((i, 2) :: rest) a E := ⟨o, v, by simpa using hi, .inl ⟨hw, fun w _ => h w⟩, k⟩
theorem wpFp_eff (hi : ops.toList[i]? = some o) (hw : Region.wanted o (yielded ops a.tmps) = true)
    (h : ∀ w, Ext W0 w → E w → ∀ K : Act → World → Prop, (∀ a' w' (E' : World → Prop), Ext w w' → (∀ w1 w2, Ext w1 w2 → E' w1 → E' w2) → E' w' → wpFp P ops Q W0 fs tp rest a' E' → K a' w') → o.wp P a w K Q) :
    wpFp P ops Q W0 fs tp ((i, 1) :: rest) a E := by
  have hi' : ops[i]? = some o := by simpa using hi
  intro w hX hE
  unfold wpOp
  simp only [hi', hw, if_true]
  exact .inl (h w hX hE _ fun a' w' E' h1 h2 h3 h4 => ⟨h1, E', h2, h3, h4⟩)
/-- One new variable: the world behind the others. -/
theorem wpFp_one {i t : Nat} {ob : Obj} (h : ∀ os1 d1 os2 d2, E (more ((more W0 os1 d1).alloc ob) os2 d2) → wpTl P ops Q tp (a.put (some t) (.pointer (some ⟨W0.heap.size + os1.size, 0, none⟩))) (more ((more W0 os1 d1).alloc ob) os2 d2)) :
    wpFp P ops Q W0 [(i, t, ob)] tp [] a E := by
  intro β w hX hE hb _
  obtain ⟨b, hb1, hb2, hb3⟩ := hb _ (List.mem_singleton.2 rfl)
  obtain ⟨os, d, rfl⟩ := hX.more
  obtain ⟨k, rfl⟩ : ∃ k, b = W0.heap.size + k := ⟨b - W0.heap.size, by omega⟩
  have hk : os[k]? = some ob := by
    have : (W0.heap ++ os)[W0.heap.size + k]? = some ob := hb2
    rw [Array.getElem?_append_right (by omega)] at this
    simpa using this
  have hklt : k < os.size := (Array.getElem?_eq_some_iff.1 hk).1
  have hos : os = (os.extract 0 k).push ob ++ os.extract (k + 1) os.size := by
    apply Array.ext_getElem?
    intro j
    have hs : (os.extract 0 k).size = k := by simp; omega
    rcases Nat.lt_trichotomy j k with hj | rfl | hj
    · rw [Array.getElem?_append_left (by simp; omega), Array.getElem?_push, if_neg (by omega), Array.getElem?_extract]
      simp
      omega
    · rw [Array.getElem?_append_left (by simp; omega), Array.getElem?_push, if_pos (by omega)]; exact hk
    · rw [Array.getElem?_append_right (by simp; omega), Array.getElem?_extract]
      by_cases h2 : j < os.size
      · rw [if_pos (by simp; omega)]
        congr 1
        simp
        omega
      · rw [if_neg (by simp; omega), Array.getElem?_eq_none (by omega)]
  have hw : more W0 os d = more ((more W0 (os.extract 0 k) d).alloc ob) (os.extract (k + 1) os.size) d := by
    simp only [more, World.alloc]
    congr 1
    conv => lhs; rw [hos]
    simp
  have hsz : (os.extract 0 k).size = k := by simp; omega
  have := h (os.extract 0 k) d (os.extract (k + 1) os.size) d (by rw [← hw]; exact hE)
  rw [← hw, hsz] at this
  have hp : putF [(i, t, ob)] β a = a.put (some t) (ptrB (W0.heap.size + k)) := by
    unfold putF
    rw [hb1]
    rfl
  rw [hp]
  exact this
/-- No new variable. -/
theorem wpFp_zero (h : ∀ os d, E (more W0 os d) → wpTl P ops Q tp a (more W0 os d)) : wpFp P ops Q W0 [] tp [] a E := by
  intro β w hX hE hb _
  obtain ⟨os, d, rfl⟩ := hX.more
  exact h os d hE
end
end Go.Proofs.YteigcfflljoioaaGreatDoor
namespace Go.Proofs.YteigcfflljoioaaGreatDoor
open Go.RowKit NM
theorem z64 : I64 0 := by unfold I64; omega
set_option maxHeartbeats 800000 in
theorem beside_any (k m ex f k' m' ex' f' : Int) (t t' : ByteArray) (b b' : Bool) (w : World) (y : Val) (hy : besideV ⟨k, m, ex, t, b, f⟩ ⟨k', m', ex', t', b', f'⟩ = y) :
    Calls Tryz.prog 167 #[VV k m ex t b f, VV k' m' ex' t' b' f'] w fun e w' => e = .returned (VV y.kind y.mant y.exp y.text y.truth y.fault) ∧ Ext w w' := by
  by_cases h0 : k = 0
  · have q0 : (k != 0) = false := by simp [h0]
    by_cases h1 : k' = 1 ∨ k' = 2 ∨ k' = 3
    · have e : y = Val.only k' := by rw [← hy]; simp [besideV, h0, h1]
      subst e
      clear hy
      rcases h1 with rfl | rfl | rfl
      · go_enter Tryz.func167, Tryz.ntmps167
        go_wp2_with fail
        exact bodyPost_ret (v := VV 1 0 0 ⟨#[]⟩ false 0) (by simp [results, Tryz.results167, go_sem]) rfl ⟨rfl, by with_reducible repeat (first | exact Ext.refl _ | apply Ext.drew | apply Ext.alloc | apply Ext.more_)⟩
      · go_enter Tryz.func167, Tryz.ntmps167
        go_wp2_with fail
        exact bodyPost_ret (v := VV 2 0 0 ⟨#[]⟩ false 0) (by simp [results, Tryz.results167, go_sem]) rfl ⟨rfl, by with_reducible repeat (first | exact Ext.refl _ | apply Ext.drew | apply Ext.alloc | apply Ext.more_)⟩
      · go_enter Tryz.func167, Tryz.ntmps167
        go_wp2_with fail
        exact bodyPost_ret (v := VV 3 0 0 ⟨#[]⟩ false 0) (by simp [results, Tryz.results167, go_sem]) rfl ⟨rfl, by with_reducible repeat (first | exact Ext.refl _ | apply Ext.drew | apply Ext.alloc | apply Ext.more_)⟩
    · have e : y = ⟨k, m, ex, t, b, f⟩ := by rw [← hy]; simp [besideV, h0, h1]
      subst e
      have q1 : (k' == 1) = false := by simp; omega
      have q2 : (k' == 2) = false := by simp; omega
      have q3 : (k' == 3) = false := by simp; omega
      subst h0
      clear hy h1
      go_enter Tryz.func167, Tryz.ntmps167
      go_wp2_with fail
      exact bodyPost_ret (v := VV 0 m ex t b f) (by simp [results, Tryz.results167, go_sem]) rfl ⟨rfl, by with_reducible repeat (first | exact Ext.refl _ | apply Ext.drew | apply Ext.alloc | apply Ext.more_)⟩
  · have e : y = ⟨k, m, ex, t, b, f⟩ := by rw [← hy]; simp [besideV, h0]
    subst e
    have q0 : (k != 0) = true := by simp [h0]
    clear hy
    go_enter Tryz.func167, Tryz.ntmps167
    go_wp2_with fail
    exact bodyPost_ret (v := VV k m ex t b f) (by simp [results, Tryz.results167, go_sem]) rfl ⟨rfl, by with_reducible repeat (first | exact Ext.refl _ | apply Ext.drew | apply Ext.alloc | apply Ext.more_)⟩
theorem truthOrder_any (a b : Bool) (w : World) :
    Calls Tryz.prog 170 #[.bool a, .bool b] w fun e w' => e = .returned (.int .i64 (sgB a b)) ∧ Ext w w' := by
  cases a <;> cases b
  all_goals
    go_enter Tryz.func170, Tryz.ntmps170
    go_wp2_with fail
    go_ret
    exact ⟨rfl, Ext.refl _⟩
theorem compare_any (a b : ByteArray) (w : World) :
    Calls Tryz.prog 169 #[.string a, .string b] w fun e w' => e = .returned (.int .i64 (Lib.compareBytes (tl a) (tl b))) ∧ Ext w w' :=
  (Tryz.strings_Compare a b w).mono fun e w' ⟨h1, h2⟩ => ⟨h1, by rw [h2]; exact Ext.refl _⟩
set_option maxHeartbeats 1000000 in
theorem vcmp_any (a b : Val) (w : World) (ha : a.ok) (hb : b.ok) :
    Calls Tryz.prog 143 #[VV a.kind a.mant a.exp a.text a.truth a.fault, VV b.kind b.mant b.exp b.text b.truth b.fault] w fun e w' => e = .returned (.int .i64 (cmpV a b)) ∧ Ext w w' := by
  have hA : (besideV a b).ok := by
    unfold besideV
    split
    · exact ha
    · split
      · exact ⟨hb.1, z64, z64, Nat.zero_le _, z64⟩
      · exact ha
  have hB : (besideV b a).ok := by
    unfold besideV
    split
    · exact hb
    · split
      · exact ⟨ha.1, z64, z64, Nat.zero_le _, z64⟩
      · exact hb
  have h1 := fun W => beside_any a.kind a.mant a.exp a.fault b.kind b.mant b.exp b.fault a.text b.text a.truth b.truth W (besideV a b) rfl
  have h2 := fun W => beside_any b.kind b.mant b.exp b.fault a.kind a.mant a.exp a.fault b.text a.text b.truth a.truth W (besideV b a) rfl
  unfold cmpV
  generalize besideV a b = A at *
  generalize besideV b a = B at *
  obtain ⟨k, m, ex, t, u, f⟩ := A
  obtain ⟨k', m', ex', t', u', f'⟩ := B
  obtain ⟨_, hm, _, ht, _⟩ := hA
  obtain ⟨_, hm', _, ht', _⟩ := hB
  simp only at h1 h2 hm ht hm' ht'
  unfold cmpK
  simp only
  clear ha hb
  by_cases hk : k = k'
  · subst hk
    rw [if_neg (show ¬ (k ≠ k) from fun h => h rfl)]
    have q0 : (k != k) = false := by simp
    by_cases k1 : k = 1
    · rw [if_pos k1]
      subst k1
      go_enter Tryz.func143, Tryz.ntmps143
      go_upto_region 1 with fail
      refine wp_float [] [(0, 0), (1, 0), (3, 0), (4, 0), (2, 1), (5, 1)] [6, 7] [6, 7] [] (by kernel_rfl) (by kernel_rfl) (by kernel_rfl) (fun _ _ d _ _ h => by cases d <;> exact h) (fun _ _ d _ _ h => by cases d <;> exact h) (fun x hx => by cases hx) ?_
      iterate 4 ((refine wpFp_read (v := ?_) rfl ?_ (fun w1 h1 => ?_) ?_; rotate_left 1; rfl; (obtain ⟨os1, d1, rfl⟩ := h1.more; go_simp; first | done | rfl)); try simp only [Act.put, zqA, zqB, zqC])
      (refine wpFp_eff rfl ?_ (fun wf hXf hE K hK => ?_); rfl; obtain ⟨osf, df, rfl⟩ := hXf.more; go_simp; refine (h1 _).mono ?_; rintro e w' ⟨rfl, hb⟩; refine hK _ _ (fun _ => True) (by (try simp only [more_drew, more_more]); exact hb) (fun _ _ _ _ => trivial) trivial ?_)
      try simp only [Act.put, zqA, zqB, zqC]
      (refine wpFp_eff rfl ?_ (fun wf hXf hE K hK => ?_); rfl; obtain ⟨osf, df, rfl⟩ := hXf.more; go_simp; refine (h2 _).mono ?_; rintro e w' ⟨rfl, hb⟩; refine hK _ _ (fun _ => True) (by (try simp only [more_drew, more_more]); exact hb) (fun _ _ _ _ => trivial) trivial ?_)
      try simp only [Act.put, zqA, zqB, zqC]
      refine wpFp_zero fun osa da hE => ?_
      try simp only [Act.put, zqA, zqB, zqC]
      iterate 2 ((refine wpTl_op rfl ?_ (fun K hK => ?_); rfl; go_simp; refine hK _ _ ?_); try simp only [Act.put, zqA, zqB, zqC])
      refine wpTl_nil ?_
      go_wp2_with (go_at_call 168; refine (cmp_any _ _ _ _ _ (by assumption) (by assumption)).mono ?_; rintro e w' ⟨rfl, hb⟩; obtain ⟨os5, d5, rfl⟩ := hb.more; clear hb)
      go_ret
      exact ⟨rfl, by with_reducible repeat (first | exact Ext.refl _ | apply Ext.drew | apply Ext.alloc | apply Ext.more_)⟩
    · rw [if_neg k1]
      by_cases k2 : k = 2
      · rw [if_pos k2]
        subst k2
        go_enter Tryz.func143, Tryz.ntmps143
        go_upto_region 1 with fail
        refine wp_float [] [(0, 0), (1, 0), (3, 0), (4, 0), (2, 1), (5, 1)] [6, 7] [6, 7] [] (by kernel_rfl) (by kernel_rfl) (by kernel_rfl) (fun _ _ d _ _ h => by cases d <;> exact h) (fun _ _ d _ _ h => by cases d <;> exact h) (fun x hx => by cases hx) ?_
        iterate 4 ((refine wpFp_read (v := ?_) rfl ?_ (fun w1 h1 => ?_) ?_; rotate_left 1; rfl; (obtain ⟨os1, d1, rfl⟩ := h1.more; go_simp; first | done | rfl)); try simp only [Act.put, zqA, zqB, zqC])
        (refine wpFp_eff rfl ?_ (fun wf hXf hE K hK => ?_); rfl; obtain ⟨osf, df, rfl⟩ := hXf.more; go_simp; refine (h1 _).mono ?_; rintro e w' ⟨rfl, hb⟩; refine hK _ _ (fun _ => True) (by (try simp only [more_drew, more_more]); exact hb) (fun _ _ _ _ => trivial) trivial ?_)
        try simp only [Act.put, zqA, zqB, zqC]
        (refine wpFp_eff rfl ?_ (fun wf hXf hE K hK => ?_); rfl; obtain ⟨osf, df, rfl⟩ := hXf.more; go_simp; refine (h2 _).mono ?_; rintro e w' ⟨rfl, hb⟩; refine hK _ _ (fun _ => True) (by (try simp only [more_drew, more_more]); exact hb) (fun _ _ _ _ => trivial) trivial ?_)
        try simp only [Act.put, zqA, zqB, zqC]
        refine wpFp_zero fun osa da hE => ?_
        try simp only [Act.put, zqA, zqB, zqC]
        iterate 2 ((refine wpTl_op rfl ?_ (fun K hK => ?_); rfl; go_simp; refine hK _ _ ?_); try simp only [Act.put, zqA, zqB, zqC])
        refine wpTl_nil ?_
        go_upto_region 10 with fail
        refine wp_plan (S := Ext _) [(0, 0), (1, 0), (3, 0), (4, 0), (2, 1), (5, 1), (6, 1), (7, 0)] [] (by kernel_rfl) (by kernel_rfl) (by kernel_rfl) (fun _ _ d _ _ h => by cases d <;> exact h) (Ext.drew (Ext.refl _)) ?_
        iterate 4 ((refine wpPl_read (v := ?_) rfl ?_ (fun _ h => ?_) ?_; rotate_left 1; rfl; (obtain ⟨_, _, rfl⟩ := h.more; go_simp; try rfl)); try simp only [Act.put, zqA, zqB, zqC])
        (refine wpPl_eff rfl ?_ (fun K hK => ?_); rfl; go_simp; refine (fold_any _ _ (by assumption)).mono ?_; rintro e w' ⟨rfl, hb⟩; obtain ⟨os5, d5, rfl⟩ := hb.more; clear hb; refine hK _ _ ?_ ?_; (repeat (first | (with_reducible (first | exact Ext.refl _ | exact ext_d _ _ _ _ | exact ext_app _ _ _ _ _ | exact ext_app2 _ _ _ _ _ _ | exact ext_app3 _ _ _ _ _ _ _ | exact ext_app4 _ _ _ _ _ _ _ _ | exact ext_app5 _ _ _ _ _ _ _ _ _)) | ((with_reducible refine ext_suffix ⟨_, ?_⟩); (try simp only [Array.append_assoc]); rfl) | (with_reducible (first | apply Ext.drew | apply Ext.alloc | apply Ext.more_)) | apply Ext.drew | apply Ext.alloc | apply Ext.more_)))
        try simp only [Act.put, zqA, zqB, zqC]
        (refine wpPl_eff rfl ?_ (fun K hK => ?_); rfl; go_simp; refine (fold_any _ _ (by assumption)).mono ?_; rintro e w' ⟨rfl, hb⟩; obtain ⟨os6, d6, rfl⟩ := hb.more; clear hb; refine hK _ _ ?_ ?_; (repeat (first | (with_reducible (first | exact Ext.refl _ | exact ext_d _ _ _ _ | exact ext_app _ _ _ _ _ | exact ext_app2 _ _ _ _ _ _ | exact ext_app3 _ _ _ _ _ _ _ | exact ext_app4 _ _ _ _ _ _ _ _ | exact ext_app5 _ _ _ _ _ _ _ _ _)) | ((with_reducible refine ext_suffix ⟨_, ?_⟩); (try simp only [Array.append_assoc]); rfl) | (with_reducible (first | apply Ext.drew | apply Ext.alloc | apply Ext.more_)) | apply Ext.drew | apply Ext.alloc | apply Ext.more_)))
        try simp only [Act.put, zqA, zqB, zqC]
        (refine wpPl_eff rfl ?_ (fun K hK => ?_); rfl; go_simp; refine (compare_any _ _ _).mono ?_; rintro e w' ⟨rfl, hb⟩; obtain ⟨os7, d7, rfl⟩ := hb.more; clear hb; refine hK _ _ ?_ ?_; (repeat (first | (with_reducible (first | exact Ext.refl _ | exact ext_d _ _ _ _ | exact ext_app _ _ _ _ _ | exact ext_app2 _ _ _ _ _ _ | exact ext_app3 _ _ _ _ _ _ _ | exact ext_app4 _ _ _ _ _ _ _ _ | exact ext_app5 _ _ _ _ _ _ _ _ _)) | ((with_reducible refine ext_suffix ⟨_, ?_⟩); (try simp only [Array.append_assoc]); rfl) | (with_reducible (first | apply Ext.drew | apply Ext.alloc | apply Ext.more_)) | apply Ext.drew | apply Ext.alloc | apply Ext.more_)))
        try simp only [Act.put, zqA, zqB, zqC]
        (refine wpPl_read (v := ?_) rfl ?_ (fun _ h => ?_) ?_; rotate_left 1; rfl; (obtain ⟨_, _, rfl⟩ := h.more; go_simp; try rfl))
        try simp only [Act.put, zqA, zqB, zqC]
        refine wpPl_nil ?_
        go_wp2_with fail
        go_ret
        exact ⟨rfl, by with_reducible repeat (first | exact Ext.refl _ | apply Ext.drew | apply Ext.alloc | apply Ext.more_)⟩
      · rw [if_neg k2]
        by_cases k3 : k = 3
        · rw [if_pos k3]
          subst k3
          go_enter Tryz.func143, Tryz.ntmps143
          go_upto_region 1 with fail
          refine wp_float [] [(0, 0), (1, 0), (3, 0), (4, 0), (2, 1), (5, 1)] [6, 7] [6, 7] [] (by kernel_rfl) (by kernel_rfl) (by kernel_rfl) (fun _ _ d _ _ h => by cases d <;> exact h) (fun _ _ d _ _ h => by cases d <;> exact h) (fun x hx => by cases hx) ?_
          iterate 4 ((refine wpFp_read (v := ?_) rfl ?_ (fun w1 h1 => ?_) ?_; rotate_left 1; rfl; (obtain ⟨os1, d1, rfl⟩ := h1.more; go_simp; first | done | rfl)); try simp only [Act.put, zqA, zqB, zqC])
          (refine wpFp_eff rfl ?_ (fun wf hXf hE K hK => ?_); rfl; obtain ⟨osf, df, rfl⟩ := hXf.more; go_simp; refine (h1 _).mono ?_; rintro e w' ⟨rfl, hb⟩; refine hK _ _ (fun _ => True) (by (try simp only [more_drew, more_more]); exact hb) (fun _ _ _ _ => trivial) trivial ?_)
          try simp only [Act.put, zqA, zqB, zqC]
          (refine wpFp_eff rfl ?_ (fun wf hXf hE K hK => ?_); rfl; obtain ⟨osf, df, rfl⟩ := hXf.more; go_simp; refine (h2 _).mono ?_; rintro e w' ⟨rfl, hb⟩; refine hK _ _ (fun _ => True) (by (try simp only [more_drew, more_more]); exact hb) (fun _ _ _ _ => trivial) trivial ?_)
          try simp only [Act.put, zqA, zqB, zqC]
          refine wpFp_zero fun osa da hE => ?_
          try simp only [Act.put, zqA, zqB, zqC]
          iterate 2 ((refine wpTl_op rfl ?_ (fun K hK => ?_); rfl; go_simp; refine hK _ _ ?_); try simp only [Act.put, zqA, zqB, zqC])
          refine wpTl_nil ?_
          go_wp2_with (go_at_call 170; refine (truthOrder_any _ _ _).mono ?_; rintro e w' ⟨rfl, hb⟩; obtain ⟨os5, d5, rfl⟩ := hb.more; clear hb)
          go_ret
          exact ⟨rfl, by with_reducible repeat (first | exact Ext.refl _ | apply Ext.drew | apply Ext.alloc | apply Ext.more_)⟩
        · rw [if_neg k3]
          by_cases k4 : k = 4
          · rw [if_pos k4]
            subst k4
            unfold sgI
            by_cases hl : f < f'
            · rw [if_pos hl]
              go_enter Tryz.func143, Tryz.ntmps143
              go_upto_region 1 with fail
              refine wp_float [] [(0, 0), (1, 0), (3, 0), (4, 0), (2, 1), (5, 1)] [6, 7] [6, 7] [] (by kernel_rfl) (by kernel_rfl) (by kernel_rfl) (fun _ _ d _ _ h => by cases d <;> exact h) (fun _ _ d _ _ h => by cases d <;> exact h) (fun x hx => by cases hx) ?_
              iterate 4 ((refine wpFp_read (v := ?_) rfl ?_ (fun w1 h1 => ?_) ?_; rotate_left 1; rfl; (obtain ⟨os1, d1, rfl⟩ := h1.more; go_simp; first | done | rfl)); try simp only [Act.put, zqA, zqB, zqC])
              (refine wpFp_eff rfl ?_ (fun wf hXf hE K hK => ?_); rfl; obtain ⟨osf, df, rfl⟩ := hXf.more; go_simp; refine (h1 _).mono ?_; rintro e w' ⟨rfl, hb⟩; refine hK _ _ (fun _ => True) (by (try simp only [more_drew, more_more]); exact hb) (fun _ _ _ _ => trivial) trivial ?_)
              try simp only [Act.put, zqA, zqB, zqC]
              (refine wpFp_eff rfl ?_ (fun wf hXf hE K hK => ?_); rfl; obtain ⟨osf, df, rfl⟩ := hXf.more; go_simp; refine (h2 _).mono ?_; rintro e w' ⟨rfl, hb⟩; refine hK _ _ (fun _ => True) (by (try simp only [more_drew, more_more]); exact hb) (fun _ _ _ _ => trivial) trivial ?_)
              try simp only [Act.put, zqA, zqB, zqC]
              refine wpFp_zero fun osa da hE => ?_
              try simp only [Act.put, zqA, zqB, zqC]
              iterate 2 ((refine wpTl_op rfl ?_ (fun K hK => ?_); rfl; go_simp; refine hK _ _ ?_); try simp only [Act.put, zqA, zqB, zqC])
              refine wpTl_nil ?_
              go_wp2_with fail
              go_ret
              exact ⟨rfl, by with_reducible repeat (first | exact Ext.refl _ | apply Ext.drew | apply Ext.alloc | apply Ext.more_)⟩
            · rw [if_neg hl]
              by_cases hg : f' < f
              · rw [if_pos hg]
                go_enter Tryz.func143, Tryz.ntmps143
                go_upto_region 1 with fail
                refine wp_float [] [(0, 0), (1, 0), (3, 0), (4, 0), (2, 1), (5, 1)] [6, 7] [6, 7] [] (by kernel_rfl) (by kernel_rfl) (by kernel_rfl) (fun _ _ d _ _ h => by cases d <;> exact h) (fun _ _ d _ _ h => by cases d <;> exact h) (fun x hx => by cases hx) ?_
                iterate 4 ((refine wpFp_read (v := ?_) rfl ?_ (fun w1 h1 => ?_) ?_; rotate_left 1; rfl; (obtain ⟨os1, d1, rfl⟩ := h1.more; go_simp; first | done | rfl)); try simp only [Act.put, zqA, zqB, zqC])
                (refine wpFp_eff rfl ?_ (fun wf hXf hE K hK => ?_); rfl; obtain ⟨osf, df, rfl⟩ := hXf.more; go_simp; refine (h1 _).mono ?_; rintro e w' ⟨rfl, hb⟩; refine hK _ _ (fun _ => True) (by (try simp only [more_drew, more_more]); exact hb) (fun _ _ _ _ => trivial) trivial ?_)
                try simp only [Act.put, zqA, zqB, zqC]
                (refine wpFp_eff rfl ?_ (fun wf hXf hE K hK => ?_); rfl; obtain ⟨osf, df, rfl⟩ := hXf.more; go_simp; refine (h2 _).mono ?_; rintro e w' ⟨rfl, hb⟩; refine hK _ _ (fun _ => True) (by (try simp only [more_drew, more_more]); exact hb) (fun _ _ _ _ => trivial) trivial ?_)
                try simp only [Act.put, zqA, zqB, zqC]
                refine wpFp_zero fun osa da hE => ?_
                try simp only [Act.put, zqA, zqB, zqC]
                iterate 2 ((refine wpTl_op rfl ?_ (fun K hK => ?_); rfl; go_simp; refine hK _ _ ?_); try simp only [Act.put, zqA, zqB, zqC])
                refine wpTl_nil ?_
                go_wp2_with fail
                go_ret
                exact ⟨rfl, by with_reducible repeat (first | exact Ext.refl _ | apply Ext.drew | apply Ext.alloc | apply Ext.more_)⟩
              · rw [if_neg hg]
                go_enter Tryz.func143, Tryz.ntmps143
                go_upto_region 1 with fail
                refine wp_float [] [(0, 0), (1, 0), (3, 0), (4, 0), (2, 1), (5, 1)] [6, 7] [6, 7] [] (by kernel_rfl) (by kernel_rfl) (by kernel_rfl) (fun _ _ d _ _ h => by cases d <;> exact h) (fun _ _ d _ _ h => by cases d <;> exact h) (fun x hx => by cases hx) ?_
                iterate 4 ((refine wpFp_read (v := ?_) rfl ?_ (fun w1 h1 => ?_) ?_; rotate_left 1; rfl; (obtain ⟨os1, d1, rfl⟩ := h1.more; go_simp; first | done | rfl)); try simp only [Act.put, zqA, zqB, zqC])
                (refine wpFp_eff rfl ?_ (fun wf hXf hE K hK => ?_); rfl; obtain ⟨osf, df, rfl⟩ := hXf.more; go_simp; refine (h1 _).mono ?_; rintro e w' ⟨rfl, hb⟩; refine hK _ _ (fun _ => True) (by (try simp only [more_drew, more_more]); exact hb) (fun _ _ _ _ => trivial) trivial ?_)
                try simp only [Act.put, zqA, zqB, zqC]
                (refine wpFp_eff rfl ?_ (fun wf hXf hE K hK => ?_); rfl; obtain ⟨osf, df, rfl⟩ := hXf.more; go_simp; refine (h2 _).mono ?_; rintro e w' ⟨rfl, hb⟩; refine hK _ _ (fun _ => True) (by (try simp only [more_drew, more_more]); exact hb) (fun _ _ _ _ => trivial) trivial ?_)
                try simp only [Act.put, zqA, zqB, zqC]
                refine wpFp_zero fun osa da hE => ?_
                try simp only [Act.put, zqA, zqB, zqC]
                iterate 2 ((refine wpTl_op rfl ?_ (fun K hK => ?_); rfl; go_simp; refine hK _ _ ?_); try simp only [Act.put, zqA, zqB, zqC])
                refine wpTl_nil ?_
                go_wp2_with fail
                go_ret
                exact ⟨rfl, by with_reducible repeat (first | exact Ext.refl _ | apply Ext.drew | apply Ext.alloc | apply Ext.more_)⟩
          · rw [if_neg k4]
            have q1 : (k == 1) = false := by simp [k1]
            have q2 : (k == 2) = false := by simp [k2]
            have q3 : (k == 3) = false := by simp [k3]
            have q4 : (k == 4) = false := by simp [k4]
            clear k1 k2 k3 k4
            go_enter Tryz.func143, Tryz.ntmps143
            go_upto_region 1 with fail
            refine wp_float [] [(0, 0), (1, 0), (3, 0), (4, 0), (2, 1), (5, 1)] [6, 7] [6, 7] [] (by kernel_rfl) (by kernel_rfl) (by kernel_rfl) (fun _ _ d _ _ h => by cases d <;> exact h) (fun _ _ d _ _ h => by cases d <;> exact h) (fun x hx => by cases hx) ?_
            iterate 4 ((refine wpFp_read (v := ?_) rfl ?_ (fun w1 h1 => ?_) ?_; rotate_left 1; rfl; (obtain ⟨os1, d1, rfl⟩ := h1.more; go_simp; first | done | rfl)); try simp only [Act.put, zqA, zqB, zqC])
            (refine wpFp_eff rfl ?_ (fun wf hXf hE K hK => ?_); rfl; obtain ⟨osf, df, rfl⟩ := hXf.more; go_simp; refine (h1 _).mono ?_; rintro e w' ⟨rfl, hb⟩; refine hK _ _ (fun _ => True) (by (try simp only [more_drew, more_more]); exact hb) (fun _ _ _ _ => trivial) trivial ?_)
            try simp only [Act.put, zqA, zqB, zqC]
            (refine wpFp_eff rfl ?_ (fun wf hXf hE K hK => ?_); rfl; obtain ⟨osf, df, rfl⟩ := hXf.more; go_simp; refine (h2 _).mono ?_; rintro e w' ⟨rfl, hb⟩; refine hK _ _ (fun _ => True) (by (try simp only [more_drew, more_more]); exact hb) (fun _ _ _ _ => trivial) trivial ?_)
            try simp only [Act.put, zqA, zqB, zqC]
            refine wpFp_zero fun osa da hE => ?_
            try simp only [Act.put, zqA, zqB, zqC]
            iterate 2 ((refine wpTl_op rfl ?_ (fun K hK => ?_); rfl; go_simp; refine hK _ _ ?_); try simp only [Act.put, zqA, zqB, zqC])
            refine wpTl_nil ?_
            go_wp2_with fail
            go_ret
            exact ⟨rfl, by with_reducible repeat (first | exact Ext.refl _ | apply Ext.drew | apply Ext.alloc | apply Ext.more_)⟩
  · rw [if_pos (show k ≠ k' from hk)]
    have q0 : (k != k') = true := by simpa using hk
    by_cases hl : k < k'
    · rw [if_pos hl]
      go_enter Tryz.func143, Tryz.ntmps143
      go_upto_region 1 with fail
      refine wp_float [] [(0, 0), (1, 0), (3, 0), (4, 0), (2, 1), (5, 1)] [6, 7] [6, 7] [] (by kernel_rfl) (by kernel_rfl) (by kernel_rfl) (fun _ _ d _ _ h => by cases d <;> exact h) (fun _ _ d _ _ h => by cases d <;> exact h) (fun x hx => by cases hx) ?_
      iterate 4 ((refine wpFp_read (v := ?_) rfl ?_ (fun w1 h1 => ?_) ?_; rotate_left 1; rfl; (obtain ⟨os1, d1, rfl⟩ := h1.more; go_simp; first | done | rfl)); try simp only [Act.put, zqA, zqB, zqC])
      (refine wpFp_eff rfl ?_ (fun wf hXf hE K hK => ?_); rfl; obtain ⟨osf, df, rfl⟩ := hXf.more; go_simp; refine (h1 _).mono ?_; rintro e w' ⟨rfl, hb⟩; refine hK _ _ (fun _ => True) (by (try simp only [more_drew, more_more]); exact hb) (fun _ _ _ _ => trivial) trivial ?_)
      try simp only [Act.put, zqA, zqB, zqC]
      (refine wpFp_eff rfl ?_ (fun wf hXf hE K hK => ?_); rfl; obtain ⟨osf, df, rfl⟩ := hXf.more; go_simp; refine (h2 _).mono ?_; rintro e w' ⟨rfl, hb⟩; refine hK _ _ (fun _ => True) (by (try simp only [more_drew, more_more]); exact hb) (fun _ _ _ _ => trivial) trivial ?_)
      try simp only [Act.put, zqA, zqB, zqC]
      refine wpFp_zero fun osa da hE => ?_
      try simp only [Act.put, zqA, zqB, zqC]
      iterate 2 ((refine wpTl_op rfl ?_ (fun K hK => ?_); rfl; go_simp; refine hK _ _ ?_); try simp only [Act.put, zqA, zqB, zqC])
      refine wpTl_nil ?_
      go_wp2_with fail
      go_ret
      exact ⟨rfl, by with_reducible repeat (first | exact Ext.refl _ | apply Ext.drew | apply Ext.alloc | apply Ext.more_)⟩
    · rw [if_neg hl]
      go_enter Tryz.func143, Tryz.ntmps143
      go_upto_region 1 with fail
      refine wp_float [] [(0, 0), (1, 0), (3, 0), (4, 0), (2, 1), (5, 1)] [6, 7] [6, 7] [] (by kernel_rfl) (by kernel_rfl) (by kernel_rfl) (fun _ _ d _ _ h => by cases d <;> exact h) (fun _ _ d _ _ h => by cases d <;> exact h) (fun x hx => by cases hx) ?_
      iterate 4 ((refine wpFp_read (v := ?_) rfl ?_ (fun w1 h1 => ?_) ?_; rotate_left 1; rfl; (obtain ⟨os1, d1, rfl⟩ := h1.more; go_simp; first | done | rfl)); try simp only [Act.put, zqA, zqB, zqC])
      (refine wpFp_eff rfl ?_ (fun wf hXf hE K hK => ?_); rfl; obtain ⟨osf, df, rfl⟩ := hXf.more; go_simp; refine (h1 _).mono ?_; rintro e w' ⟨rfl, hb⟩; refine hK _ _ (fun _ => True) (by (try simp only [more_drew, more_more]); exact hb) (fun _ _ _ _ => trivial) trivial ?_)
      try simp only [Act.put, zqA, zqB, zqC]
      (refine wpFp_eff rfl ?_ (fun wf hXf hE K hK => ?_); rfl; obtain ⟨osf, df, rfl⟩ := hXf.more; go_simp; refine (h2 _).mono ?_; rintro e w' ⟨rfl, hb⟩; refine hK _ _ (fun _ => True) (by (try simp only [more_drew, more_more]); exact hb) (fun _ _ _ _ => trivial) trivial ?_)
      try simp only [Act.put, zqA, zqB, zqC]
      refine wpFp_zero fun osa da hE => ?_
      try simp only [Act.put, zqA, zqB, zqC]
      iterate 2 ((refine wpTl_op rfl ?_ (fun K hK => ?_); rfl; go_simp; refine hK _ _ ?_); try simp only [Act.put, zqA, zqB, zqC])
      refine wpTl_nil ?_
      go_wp2_with fail
      go_ret
      exact ⟨rfl, by with_reducible repeat (first | exact Ext.refl _ | apply Ext.drew | apply Ext.alloc | apply Ext.more_)⟩
end Go.Proofs.YteigcfflljoioaaGreatDoor
namespace Go.Proofs.YteigcfflljoioaaGreatDoor
open Go.RowKit NM
/-- The first place, and the last one, from place k on; -1: there is none. -/
def firstN (p : Val → Bool) : List Val → Nat → Int
  | [], _ => -1
  | x :: l, k => if p x then k else firstN p l (k + 1)
def lastN (p : Val → Bool) : List Val → Nat → Int → Int
  | [], _, a => a
  | x :: l, k, a => lastN p l (k + 1) (if p x then k else a)
/-- What counts, and stands so. -/
def stP (q : Int → Bool) (x v : Val) : Bool := decide (v.kind = x.kind) && q (cmpV v x)
theorem firstN_yes {p : Val → Bool} {l : List Val} {k : Nat} {v : Val} (h : l[k]? = some v) (hp : p v = true) : firstN p (l.drop k) k = k := by
  obtain ⟨hk, rfl⟩ := List.getElem?_eq_some_iff.1 h
  rw [List.drop_eq_getElem_cons hk]; simp [firstN, hp]
theorem firstN_no {p : Val → Bool} {l : List Val} {k : Nat} {v : Val} (h : l[k]? = some v) (hp : p v = false) : firstN p (l.drop k) k = firstN p (l.drop (k + 1)) (k + 1) := by
  obtain ⟨hk, rfl⟩ := List.getElem?_eq_some_iff.1 h
  rw [List.drop_eq_getElem_cons hk]; simp [firstN, hp]
theorem lastN_yes {p : Val → Bool} {l : List Val} {k : Nat} {v : Val} {a : Int} (h : l[k]? = some v) (hp : p v = true) : lastN p (l.drop k) k a = lastN p (l.drop (k + 1)) (k + 1) k := by
  obtain ⟨hk, rfl⟩ := List.getElem?_eq_some_iff.1 h
  rw [List.drop_eq_getElem_cons hk]; simp [lastN, hp]
theorem lastN_no {p : Val → Bool} {l : List Val} {k : Nat} {v : Val} {a : Int} (h : l[k]? = some v) (hp : p v = false) : lastN p (l.drop k) k a = lastN p (l.drop (k + 1)) (k + 1) a := by
  obtain ⟨hk, rfl⟩ := List.getElem?_eq_some_iff.1 h
  rw [List.drop_eq_getElem_cons hk]; simp [lastN, hp]
def Want (fid : FuncId) (q : Int → Bool) : Prop := ∀ (sg : Int) (W : World), Calls Tryz.prog fid #[.int .i64 sg] W fun e W' => e = .returned (.bool (q sg)) ∧ Ext W W'
set_option maxHeartbeats 1000000 in
theorem first_any (fid : FuncId) (q : Int → Bool) (hq : Want fid q) (hent : ∀ (args : Array Value) (W : World), (callFunc fid args).run Tryz.prog W = .ok (.enter fid args) W)
    (A : Option Addr) (n cap : Nat) (l : List Val) (x : Val) (w : World) (h : ArrIn w A n cap l) (hx : x.ok) (r : Int) (hr : firstN (stP q x) l 0 = r) :
    Calls Tryz.prog 156 #[.slice A n cap, VV x.kind x.mant x.exp x.text x.truth x.fault, fn0 fid] w fun e w' => e = .returned (.int .i64 r) ∧ Ext w w' := by
  have hsm := h.small
  have HR := Lib.hid hr
  clear hr
  have hlen := h.len
  go_enter Tryz.func156, Tryz.ntmps156
  go_wp2_with fail
  go_loopw [11] (fun i wr => ∃ k : Nat, k ≤ n ∧ i = .int .i64 k ∧ Ext (w.alloc (Obj.cells #[.int .i64 x.kind, .int .i64 x.mant, .int .i64 x.exp, .string x.text, .bool x.truth, .int .i64 x.fault] 26)) wr ∧ Hid (firstN (stP q x) (l.drop k) k = r)) (fun i _ => n - (intOf i).toNat)
  case atStart => exact ⟨0, Nat.zero_le _, rfl, Ext.refl _, HR⟩
  case round =>
    obtain ⟨k, hk, rfl, hX, H⟩ := hrel
    obtain ⟨os, d, rfl⟩ := hX.more
    clear hX
    by_cases hlt : k < n
    · obtain ⟨v, b, off, hv, hvo, rfl, hat⟩ := h.at hlt
      obtain ⟨v0, v1, v2, v3, v4, v5⟩ := hat
      have hbl : b < w.heap.size := lt_of_cell v0
      by_cases hkd : v.kind = x.kind
      · have hkd' : (v.kind == x.kind) = true := by simpa using hkd
        have hst : stP q x v = q (cmpV v x) := by simp [stP, hkd]
        generalize hs : cmpV v x = sg at *
        have hc := fun W => hs ▸ vcmp_any v x W hvo hx
        cases hqs : q sg
        · have H' := (firstN_no hv (hst.trans hqs)).symm.trans H.out
          have HQ := fun W => hqs ▸ hq sg W
          have H2 := Lib.hid H'
          clear H' H hqs hst hs hkd
          go_wp2_with (first | (go_at_call 143; (with_reducible refine (hc _).mono ?_); rintro e w' ⟨rfl, hb⟩; obtain ⟨os, d, rfl⟩ := hb.more; clear hb) | ((with_reducible refine (HQ _).mono ?_); rintro e w' ⟨rfl, hb⟩; obtain ⟨os2, d2, rfl⟩ := hb.more; clear hb))
          refine ⟨⟨k + 1, by omega, by go_num, by with_reducible repeat (first | exact Ext.refl _ | apply Ext.drew | apply Ext.alloc | apply Ext.more_), H2⟩, by simp [intOf]; omega⟩
        · have H' := (firstN_yes hv (hst.trans hqs)).symm.trans H.out
          have HQ := fun W => hqs ▸ hq sg W
          subst H'
          clear H hqs hst hs hkd
          go_wp2_with (first | (go_at_call 143; (with_reducible refine (hc _).mono ?_); rintro e w' ⟨rfl, hb⟩; obtain ⟨os, d, rfl⟩ := hb.more; clear hb) | ((with_reducible refine (HQ _).mono ?_); rintro e w' ⟨rfl, hb⟩; obtain ⟨os2, d2, rfl⟩ := hb.more; clear hb))
          go_ret
          exact ⟨rfl, by with_reducible repeat (first | exact Ext.refl _ | apply Ext.drew | apply Ext.alloc | apply Ext.more_)⟩
      · have hkd' : (v.kind == x.kind) = false := by simpa using hkd
        have H2 := Lib.hid ((firstN_no hv (by simp [stP, hkd])).symm.trans H.out)
        clear H
        go_wp2_with fail
        refine ⟨⟨k + 1, by omega, by go_num, by with_reducible repeat (first | exact Ext.refl _ | apply Ext.drew | apply Ext.alloc | apply Ext.more_), H2⟩, by simp [intOf]; omega⟩
    · have hd : l.drop k = [] := List.drop_eq_nil_of_le (by omega)
      have hr : (-1 : Int) = r := by have := H.out; rw [hd] at this; exact this
      subst hr
      clear H hd
      go_wp2_with fail
      go_ret
      exact ⟨rfl, by with_reducible repeat (first | exact Ext.refl _ | apply Ext.drew | apply Ext.alloc | apply Ext.more_)⟩
set_option maxHeartbeats 1000000 in
theorem last_any (fid : FuncId) (q : Int → Bool) (hq : Want fid q) (hent : ∀ (args : Array Value) (W : World), (callFunc fid args).run Tryz.prog W = .ok (.enter fid args) W)
    (A : Option Addr) (n cap : Nat) (l : List Val) (x : Val) (w : World) (h : ArrIn w A n cap l) (hx : x.ok) (r : Int) (hr : lastN (stP q x) l 0 (-1) = r) :
    Calls Tryz.prog 158 #[.slice A n cap, VV x.kind x.mant x.exp x.text x.truth x.fault, fn0 fid] w fun e w' => e = .returned (.int .i64 r) ∧ Ext w w' := by
  have hsm := h.small
  have HR := Lib.hid hr
  clear hr
  have hlen := h.len
  go_enter Tryz.func158, Tryz.ntmps158
  go_wp2_with fail
  go_loopw [7, 12] (fun t i wr => ∃ (k : Nat) (a : Int), k ≤ n ∧ t = .int .i64 a ∧ i = .int .i64 k ∧ Ext (w.alloc (Obj.cells #[.int .i64 x.kind, .int .i64 x.mant, .int .i64 x.exp, .string x.text, .bool x.truth, .int .i64 x.fault] 26)) wr ∧ Hid (lastN (stP q x) (l.drop k) k a = r)) (fun _ i _ => n - (intOf i).toNat)
  case atStart => exact ⟨0, -1, Nat.zero_le _, rfl, rfl, Ext.refl _, HR⟩
  case round =>
    obtain ⟨k, a, hk, rfl, rfl, hX, H⟩ := hrel
    obtain ⟨os, d, rfl⟩ := hX.more
    clear hX
    by_cases hlt : k < n
    · obtain ⟨v, b, off, hv, hvo, rfl, hat⟩ := h.at hlt
      obtain ⟨v0, v1, v2, v3, v4, v5⟩ := hat
      have hbl : b < w.heap.size := lt_of_cell v0
      by_cases hkd : v.kind = x.kind
      · have hkd' : (v.kind == x.kind) = true := by simpa using hkd
        have hst : stP q x v = q (cmpV v x) := by simp [stP, hkd]
        generalize hs : cmpV v x = sg at *
        have hc := fun W => hs ▸ vcmp_any v x W hvo hx
        cases hqs : q sg
        · have H' := (lastN_no hv (hst.trans hqs)).symm.trans H.out
          have HQ := fun W => hqs ▸ hq sg W
          have H2 := Lib.hid H'
          clear H' H hqs hst hs hkd
          go_wp2_with (first | (go_at_call 143; (with_reducible refine (hc _).mono ?_); rintro e w' ⟨rfl, hb⟩; obtain ⟨os, d, rfl⟩ := hb.more; clear hb) | ((with_reducible refine (HQ _).mono ?_); rintro e w' ⟨rfl, hb⟩; obtain ⟨os2, d2, rfl⟩ := hb.more; clear hb))
          refine ⟨⟨k + 1, a, by omega, rfl, by go_num, by with_reducible repeat (first | exact Ext.refl _ | apply Ext.drew | apply Ext.alloc | apply Ext.more_), H2⟩, by simp [intOf]; omega⟩
        · have H' := (lastN_yes hv (hst.trans hqs)).symm.trans H.out
          have HQ := fun W => hqs ▸ hq sg W
          have H2 := Lib.hid H'
          clear H' H hqs hst hs hkd
          go_wp2_with (first | (go_at_call 143; (with_reducible refine (hc _).mono ?_); rintro e w' ⟨rfl, hb⟩; obtain ⟨os, d, rfl⟩ := hb.more; clear hb) | ((with_reducible refine (HQ _).mono ?_); rintro e w' ⟨rfl, hb⟩; obtain ⟨os2, d2, rfl⟩ := hb.more; clear hb))
          refine ⟨⟨k + 1, k, by omega, rfl, by go_num, by with_reducible repeat (first | exact Ext.refl _ | apply Ext.drew | apply Ext.alloc | apply Ext.more_), H2⟩, by simp [intOf]; omega⟩
      · have hkd' : (v.kind == x.kind) = false := by simpa using hkd
        have H2 := Lib.hid ((lastN_no hv (by simp [stP, hkd])).symm.trans H.out)
        clear H
        go_wp2_with fail
        refine ⟨⟨k + 1, a, by omega, rfl, by go_num, by with_reducible repeat (first | exact Ext.refl _ | apply Ext.drew | apply Ext.alloc | apply Ext.more_), H2⟩, by simp [intOf]; omega⟩
    · have hd : l.drop k = [] := List.drop_eq_nil_of_le (by omega)
      have hr : a = r := by have := H.out; rw [hd] at this; exact this
      subst hr
      clear H hd
      go_wp2_with fail
      go_ret
      exact ⟨rfl, by with_reducible repeat (first | exact Ext.refl _ | apply Ext.drew | apply Ext.alloc | apply Ext.more_)⟩
theorem want_just : Want 157 (fun s => decide (s = 0)) := fun sg W => by go_enter Tryz.func157, Tryz.ntmps157; go_wp2_with fail; go_ret; exact ⟨rfl, by with_reducible repeat (first | exact Ext.refl _ | apply Ext.drew | apply Ext.alloc | apply Ext.more_)⟩
theorem want_upTo : Want 159 (fun s => decide (s ≤ 0)) := fun sg W => by go_enter Tryz.func159, Tryz.ntmps159; go_wp2_with fail; go_ret; exact ⟨rfl, by with_reducible repeat (first | exact Ext.refl _ | apply Ext.drew | apply Ext.alloc | apply Ext.more_)⟩
def justN (l : List Val) (x : Val) : Int := firstN (stP (fun s => decide (s = 0)) x) l 0
def upToN (l : List Val) (x : Val) : Int := lastN (stP (fun s => decide (s ≤ 0)) x) l 0 (-1)
theorem just_any (A : Option Addr) (n cap : Nat) (l : List Val) (x : Val) (w : World) (h : ArrIn w A n cap l) (hx : x.ok) : Calls Tryz.prog 122 #[.slice A n cap, VV x.kind x.mant x.exp x.text x.truth x.fault] w fun e w' => e = .returned (.int .i64 (justN l x)) ∧ Ext w w' := by go_enter Tryz.func122, Tryz.ntmps122; go_wp2_with (go_at_call 156; (with_reducible refine (first_any 157 _ want_just (fun args W => by go_simp) A n cap l x _ (h.ext (by with_reducible repeat (first | exact Ext.refl _ | apply Ext.drew | apply Ext.alloc | apply Ext.more_))) hx _ rfl).mono ?_); rintro e w' ⟨rfl, hb⟩; obtain ⟨os, d, rfl⟩ := hb.more; clear hb); go_ret; exact ⟨rfl, by with_reducible repeat (first | exact Ext.refl _ | apply Ext.drew | apply Ext.alloc | apply Ext.more_)⟩
theorem upTo_any (A : Option Addr) (n cap : Nat) (l : List Val) (x : Val) (w : World) (h : ArrIn w A n cap l) (hx : x.ok) : Calls Tryz.prog 123 #[.slice A n cap, VV x.kind x.mant x.exp x.text x.truth x.fault] w fun e w' => e = .returned (.int .i64 (upToN l x)) ∧ Ext w w' := by go_enter Tryz.func123, Tryz.ntmps123; go_wp2_with (go_at_call 158; (with_reducible refine (last_any 159 _ want_upTo (fun args W => by go_simp) A n cap l x _ (h.ext (by with_reducible repeat (first | exact Ext.refl _ | apply Ext.drew | apply Ext.alloc | apply Ext.more_))) hx _ rfl).mono ?_); rintro e w' ⟨rfl, hb⟩; obtain ⟨os, d, rfl⟩ := hb.more; clear hb); go_ret; exact ⟨rfl, by with_reducible repeat (first | exact Ext.refl _ | apply Ext.drew | apply Ext.alloc | apply Ext.more_)⟩
end Go.Proofs.YteigcfflljoioaaGreatDoor
namespace Go.Proofs.YteigcfflljoioaaGreatDoor
open Go.RowKit NM
abbrev tnV (x : Val) : Value := .tuple #[NV (tnP x).1 (tnP x).2, .int .i64 (tnF x)]
theorem tn_blank : tnV (Val.only 0) = .tuple #[NV 0 0, .int .i64 0] := rfl
theorem tn_num (m e : Int) : tnV ⟨1, m, e, ⟨#[]⟩, false, 0⟩ = .tuple #[NV m e, .int .i64 0] := rfl
theorem tn_true : tnV (truthV true) = .tuple #[NV 1 0, .int .i64 0] := rfl
theorem tn_false : tnV (truthV false) = .tuple #[NV 0 0, .int .i64 0] := rfl
theorem tn_bad (f : Int) : tnV (badV f) = .tuple #[NV 0 0, .int .i64 f] := rfl
theorem tn_text_no {t : ByteArray} (h : parS t = none) : tnV ⟨2, 0, 0, t, false, 0⟩ = .tuple #[NV 0 0, .int .i64 2] := by unfold tnV tnP tnF; simp [h]
theorem tn_text_yes {t : ByteArray} {p : Int × Int} (h : parS t = some p) : tnV ⟨2, 0, 0, t, false, 0⟩ = .tuple #[NV p.1 p.2, .int .i64 0] := by unfold tnV tnP tnF; simp [h]
set_option maxHeartbeats 1000000 in
theorem toNum_any (x : Val) (w : World) (hx : x.right) :
    Calls Tryz.prog 149 #[VV x.kind x.mant x.exp x.text x.truth x.fault] w fun e w' => e = .returned (tnV x) ∧ Ext w w' := by
  rcases hx.form with rfl | ⟨m, e, rfl, hr⟩ | ⟨t, rfl, ht⟩ | ⟨b, rfl⟩ | ⟨f, rfl, hf⟩
  · rw [tn_blank]
    simp only [Val.only]
    go_enter Tryz.func149, Tryz.ntmps149
    go_wp2_with fail
    exact bodyPost_ret (v := .tuple #[NV 0 0, .int .i64 0]) (by simp [results, Tryz.results149, go_sem]) rfl ⟨rfl, by with_reducible repeat (first | exact Ext.refl _ | apply Ext.drew | apply Ext.alloc | apply Ext.more_)⟩
  · rw [tn_num]
    clear hx hr
    simp only
    go_enter Tryz.func149, Tryz.ntmps149
    go_wp2_with fail
    exact bodyPost_ret (v := .tuple #[NV m e, .int .i64 0]) (by simp [results, Tryz.results149, go_sem]) rfl ⟨rfl, by with_reducible repeat (first | exact Ext.refl _ | apply Ext.drew | apply Ext.alloc | apply Ext.more_)⟩
  · have hp := fun W => parse_any t W (by omega)
    simp only
    cases h : parS t with
    | none =>
      rw [tn_text_no h]
      rw [h] at hp
      simp only [rnV, rm, re, Option.getD_none, Option.isSome_none] at hp
      clear h hx
      go_enter Tryz.func149, Tryz.ntmps149
      go_wp2_with (go_at_call 171; (with_reducible refine (hp _).mono ?_); rintro e w' ⟨rfl, hb⟩; obtain ⟨os, d, rfl⟩ := hb.more; clear hb)
      exact bodyPost_ret (v := .tuple #[NV 0 0, .int .i64 2]) (by simp [results, Tryz.results149, go_sem]) rfl ⟨rfl, by with_reducible repeat (first | exact Ext.refl _ | apply Ext.drew | apply Ext.alloc | apply Ext.more_)⟩
    | some p =>
      rw [tn_text_yes h]
      rw [h] at hp
      simp only [rnV, rm, re, Option.getD_some, Option.isSome_some] at hp
      clear h hx
      go_enter Tryz.func149, Tryz.ntmps149
      go_wp2_with (go_at_call 171; (with_reducible refine (hp _).mono ?_); rintro e w' ⟨rfl, hb⟩; obtain ⟨os, d, rfl⟩ := hb.more; clear hb)
      exact bodyPost_ret (v := .tuple #[NV p.1 p.2, .int .i64 0]) (by simp [results, Tryz.results149, go_sem]) rfl ⟨rfl, by with_reducible repeat (first | exact Ext.refl _ | apply Ext.drew | apply Ext.alloc | apply Ext.more_)⟩
  · cases b
    · rw [tn_false]
      simp only [truthV]
      clear hx
      go_enter Tryz.func149, Tryz.ntmps149
      go_wp2_with fail
      exact bodyPost_ret (v := .tuple #[NV 0 0, .int .i64 0]) (by simp [results, Tryz.results149, go_sem]) rfl ⟨rfl, by with_reducible repeat (first | exact Ext.refl _ | apply Ext.drew | apply Ext.alloc | apply Ext.more_)⟩
    · rw [tn_true]
      simp only [truthV]
      clear hx
      go_enter Tryz.func149, Tryz.ntmps149
      go_wp2_with fail
      exact bodyPost_ret (v := .tuple #[NV 1 0, .int .i64 0]) (by simp [results, Tryz.results149, go_sem]) rfl ⟨rfl, by with_reducible repeat (first | exact Ext.refl _ | apply Ext.drew | apply Ext.alloc | apply Ext.more_)⟩
  · rw [tn_bad]
    simp only [badV]
    clear hx hf
    go_enter Tryz.func149, Tryz.ntmps149
    go_upto_region 13 with fail
    go_region
    all_goals
      go_wp2_with fail
      exact bodyPost_ret (v := .tuple #[NV 0 0, .int .i64 f]) (by simp [results, Tryz.results149, go_sem]) rfl ⟨rfl, by with_reducible repeat (first | exact Ext.refl _ | apply Ext.drew | apply Ext.alloc | apply Ext.more_)⟩
end Go.Proofs.YteigcfflljoioaaGreatDoor
namespace Go.Proofs.YteigcfflljoioaaGreatDoor
open Go.RowKit NM
/-- A number of at most 15 digits is what it is. -/
theorem exactx {x e : Int} (hx : x.natAbs < T 15) (h1 : -40 ≤ e) (h2 : e ≤ 25) : ∃ m k, rndI x e = some (m, k) ∧ Rt m k ∧ sc m k = sc x e ∧ (m = 0 ↔ x = 0) ∧ (x ≠ 0 → e ≤ k) := by
  have hn : nd x.natAbs ≤ 15 := (nd_le_iff _ _).2 hx
  have hz : nd x.natAbs - 15 = 0 := by omega
  by_cases h0 : x = 0
  · subst h0
    refine ⟨0, 0, ?_, rt_zero, ?_, ⟨fun _ => rfl, fun _ => rfl⟩, fun h => absurd rfl h⟩
    · unfold rndI; exact rnd_nought _ _ _
    · unfold sc; rw [Int.zero_mul, Int.zero_mul]
  · have hN : x.natAbs ≠ 0 := by omega
    have e1 : n1 x.natAbs false = x.natAbs := by unfold n1; rw [hz, cutN_zero]
    have e2' : n2 x.natAbs false e = x.natAbs := by
      unfold n2; rw [e1, hz, show (-40 - (e + ((0 : Nat) : Int))).toNat = 0 by omega, cutN_zero]
    have e3 : NM.e2 x.natAbs e = e := by unfold NM.e2; rw [hz]; omega
    have hr : rndI x e = some (sg (decide (x < 0)) (trim x.natAbs e).1, (trim x.natAbs e).2) := by
      unfold rndI
      rw [rnd_fin, e2', e3]
      unfold fin
      rw [if_neg hN, if_neg (by omega)]
    obtain ⟨k, g1, g2, g3⟩ := trim_spec x.natAbs e hN
    have g4 : (trim x.natAbs e).1 ≠ 0 := fun h => g3 (by rw [h])
    refine ⟨_, _, hr, ?_, ?_, ⟨fun h => absurd (sg_zero.1 h) g4, fun h => absurd h h0⟩, fun _ => by rw [g2]; omega⟩
    · have := hr; unfold rndI at this; exact rnd_right this
    · have g5 := sc_trim (N := x.natAbs) (e := e) hN (by omega)
      unfold sc
      rw [← sg_mul_nat, g5, sg_mul_nat, sg_nat]
/-- The number of a whole number. -/
def wholeN (n : Int) : Int × Int := (rndI n 0).getD (0, 0)
theorem wholex {n : Int} (h : n.natAbs < T 15) : rndI n 0 = some (wholeN n) ∧ Rt (wholeN n).1 (wholeN n).2 ∧ sc (wholeN n).1 (wholeN n).2 = sc n 0 ∧ ((wholeN n).1 = 0 ↔ n = 0) ∧ 0 ≤ (wholeN n).2 := by
  obtain ⟨m, k, h1, h2, h3, h4, h5⟩ := exactx h (e := 0) (by omega) (by omega)
  have hw : wholeN n = (m, k) := by unfold wholeN; rw [h1]; rfl
  rw [hw]
  refine ⟨h1, h2, h3, h4, ?_⟩
  by_cases h0 : n = 0
  · have hm := h4.2 h0
    rcases h2 with ⟨_, hk⟩ | ⟨hm', _⟩
    · show 0 ≤ k; omega
    · exact absurd hm hm'
  · exact h5 h0
theorem sc_whole0 (n : Int) : sc n 0 = n * (T 100 : Nat) := rfl
end Go.Proofs.YteigcfflljoioaaGreatDoor
namespace Go.Proofs.YteigcfflljoioaaGreatDoor
open NM
/-- 10 to the power 140: what no right number reaches, scaled. -/
def MX : Nat := T 140
/-- A value without its sign, scaled, to the nearest of so many, a half up; but beyond the greatest one itself. -/
def GU (U x : Nat) : Nat := (if U ≤ 2 * (x % U) then x / U + 1 else x / U) * U
def HU (U x : Nat) : Nat := if GU U x < MX then GU U x else x
/-- The same with a sign. -/
def HI (U : Nat) (x : Int) : Int := if x < 0 then -(HU U x.natAbs : Int) else HU U x.natAbs
theorem sc_sg (neg : Bool) (N : Nat) (e : Int) : sc (sg neg N) e = sg neg (N * T (e + 100).toNat) := by unfold sc; rw [sg_mul_nat]
theorem sg_nought (b : Bool) : sg b 0 = 0 := by cases b <;> rfl
end Go.Proofs.YteigcfflljoioaaGreatDoor
namespace Go.Proofs.YteigcfflljoioaaGreatDoor
open Go.RowKit NM
theorem fin_whole {neg : Bool} {N : Nat} (h : nd N ≤ 15) : rnd neg N false 0 = some (sg neg (trim N 0).1, (trim N 0).2) := by
  rw [rnd_small h (by omega)]
  unfold fin
  by_cases h0 : N = 0
  · subst h0; rw [if_pos rfl, trim_zero]; cases neg <;> rfl
  · rw [if_neg h0, if_neg (by omega)]
theorem floorN_nd {m e : Int} {k : Nat} (h : Rt m e) (hk : 0 < k) : nd (floorN m k) ≤ 15 := by
  obtain ⟨b1, _, _⟩ := Rt_bd h
  have hT15 : T 15 = 1000000000000000 := by decide
  have h1 : m.natAbs / T k ≤ m.natAbs / T 1 := Nat.div_le_div_left (T_mono hk) (T_pos 1)
  have h2 : T 1 = 10 := by decide
  rw [h2] at h1
  rw [nd_le_iff]
  unfold floorN
  split <;> omega
end Go.Proofs.YteigcfflljoioaaGreatDoor
namespace Go.Proofs.YteigcfflljoioaaGreatDoor
open Go.RowKit NM
/-- 10 to the power 100, as a word. -/
def HX : Int := ((T 100 : Nat) : Int)
theorem HX_pos : 0 < HX := by have := T_pos 100; unfold HX; omega
theorem whole_sc {neg : Bool} {N : Nat} (h : nd N ≤ 15) : Rt (sg neg (trim N 0).1) (trim N 0).2 ∧ sc (sg neg (trim N 0).1) (trim N 0).2 = sg neg N * HX ∧ 0 ≤ (trim N 0).2 := by
  have h1 := fin_whole (neg := neg) h
  refine ⟨rnd_right h1, ?_, ?_⟩
  · rw [sc_sg]
    by_cases h0 : N = 0
    · rw [h0, trim_zero, Nat.zero_mul, sg_nought, Int.zero_mul]
    · rw [sc_trim h0 (by omega), sg_mul_nat]; rfl
  · by_cases h0 : N = 0
    · rw [h0, trim_zero]; exact Int.le_refl _
    · obtain ⟨k, _, hb, _⟩ := trim_spec N 0 h0
      rw [hb]; omega
theorem floor_spec {m e : Int} (h : Rt m e) : Rt (floorS m e).1 (floorS m e).2 ∧ 0 ≤ (floorS m e).2 ∧ sc (floorS m e).1 (floorS m e).2 ≤ sc m e ∧ sc m e < sc (floorS m e).1 (floorS m e).2 + HX := by
  have hH := HX_pos
  unfold floorS
  rw [if_neg (by simpa using h)]
  by_cases h0 : 0 ≤ e
  · rw [if_pos h0]; exact ⟨h, h0, Int.le_refl _, by show sc m e < sc m e + HX; omega⟩
  · rw [if_neg h0]
    obtain ⟨b1, b2, b3⟩ := Rt_bd h
    obtain ⟨k, hk⟩ : ∃ k : Nat, -e = (k : Int) := ⟨(-e).toNat, by omega⟩
    rw [hk, Int.toNat_natCast]
    have hk0 : 0 < k := by omega
    have hk100 : k ≤ 100 := by omega
    obtain ⟨w1, w2, w3⟩ := whole_sc (neg := decide (m < 0)) (floorN_nd h hk0)
    refine ⟨w1, w3, ?_⟩
    show sc (sg (decide (m < 0)) (trim (floorN m k) 0).1) (trim (floorN m k) 0).2 ≤ sc m e ∧ sc m e < sc (sg (decide (m < 0)) (trim (floorN m k) 0).1) (trim (floorN m k) 0).2 + HX
    rw [w2]
    have hdm := Nat.div_add_mod m.natAbs (T k)
    have hml := Nat.mod_lt m.natAbs (T_pos k)
    have hsc : sc m e = m * ((T (100 - k) : Nat) : Int) := by unfold sc; congr 3; omega
    have hHX : HX = ((T k : Nat) : Int) * ((T (100 - k) : Nat) : Int) := by unfold HX; rw [← T_cast_mul]; congr 2; omega
    have hr0 : m < 0 → m.natAbs % T k ≠ 0 := by
      intro hm
      rcases h with ⟨h1, _⟩ | ⟨_, _, h3, _, _⟩
      · omega
      · exact mod_T_ne h3 hk0
    have ht := T_pos (100 - k)
    unfold floorN
    rw [hsc, hHX]
    generalize T (100 - k) = t at *
    generalize m.natAbs / T k = q at *
    generalize m.natAbs % T k = r at *
    generalize T k = u at *
    have htI : (0 : Int) < (t : Int) := by omega
    have hrt : (r : Int) * (t : Int) < (u : Int) * (t : Int) := Int.mul_lt_mul_of_pos_right (by omega) htI
    have hrp : 0 ≤ (r : Int) * (t : Int) := Int.mul_nonneg (by omega) (by omega)
    by_cases hm : m < 0
    · have hmr : m = -((u : Int) * (q : Int) + (r : Int)) := by rw [← Int.natCast_mul]; omega
      have hr1 : 0 < (r : Int) * (t : Int) := Int.mul_pos (by have := hr0 hm; omega) htI
      rw [if_pos hm, decide_eq_true hm]
      have e1 : sg true (q + 1) * ((u : Int) * (t : Int)) = -((q : Int) * ((u : Int) * (t : Int))) - (u : Int) * (t : Int) := by
        simp only [sg, if_true]; rw [Int.neg_mul, Int.natCast_add, Int.add_mul]; simp; omega
      have e2 : m * (t : Int) = -((q : Int) * ((u : Int) * (t : Int))) - (r : Int) * (t : Int) := by
        rw [hmr, Int.neg_mul, Int.add_mul, Int.mul_comm (u : Int) (q : Int), Int.mul_assoc]; omega
      rw [e1, e2]
      omega
    · have hmr : m = (u : Int) * (q : Int) + (r : Int) := by rw [← Int.natCast_mul]; omega
      rw [if_neg hm, show decide (m < 0) = false by simp [hm]]
      have e1 : sg false q * ((u : Int) * (t : Int)) = (q : Int) * ((u : Int) * (t : Int)) := by simp [sg]
      have e2 : m * (t : Int) = (q : Int) * ((u : Int) * (t : Int)) + (r : Int) * (t : Int) := by
        rw [hmr, Int.add_mul, Int.mul_comm (u : Int) (q : Int), Int.mul_assoc]
      rw [e1, e2]
      omega
theorem int_go : ∀ (k : Nat) (n : Int), (n * (T k : Nat)).natAbs ≤ 1000000000000000 → intGo n k = some (n * (T k : Nat))
  | 0, n, _ => by simp [intGo, T]
  | k + 1, n, h => by
    have h1 : n * ((T (k + 1) : Nat) : Int) = n * 10 * ((T k : Nat) : Int) := by rw [T_succ, Int.natCast_mul, ← Int.mul_assoc]; rfl
    rw [h1] at h ⊢
    have h2 : n.natAbs * 10 ≤ 1000000000000000 := by
      have h3 : (n * 10 * ((T k : Nat) : Int)).natAbs = n.natAbs * 10 * T k := by rw [Int.natAbs_mul, Int.natAbs_mul, Int.natAbs_natCast]; rfl
      rw [h3] at h
      exact Nat.le_trans (Nat.le_mul_of_pos_right _ (T_pos k)) h
    rw [intGo, if_neg (by omega)]
    exact int_go k (n * 10) h
theorem sc_whole {m e : Int} (h : 0 ≤ e) : sc m e = m * (T e.toNat : Nat) * HX := by
  unfold sc HX
  rw [Int.mul_assoc, ← T_cast_mul]; congr 3; omega
end Go.Proofs.YteigcfflljoioaaGreatDoor
namespace Go.Proofs.YteigcfflljoioaaGreatDoor
open Go.RowKit
theorem part_prod {R C row col rows cols i j : Nat} (hi : i < rows) (hj : j < cols) (h1 : row + rows ≤ R) (h2 : col + cols ≤ C) (hN : R * C ≤ 4096) : (row + i) * C + col + j < R * C ∧ (row + i) * C ≤ 4096 := by
  have : (row + i + 1) * C ≤ R * C := Nat.mul_le_mul_right C (by omega)
  rw [Nat.succ_mul] at this
  omega
set_option maxHeartbeats 400000 in
theorem part1_any (pa pr pc R C row col rows cols : Nat) (A : Option Addr) (n cap : Nat) (l : List Val) (i j : Nat) (W : World) (hb : ABox pa R C A n cap W) (hpr : pr < W.heap.size) (hpc : pc < W.heap.size) (cr : W.cell? ⟨pr, 0, none⟩ = some (.int .i64 row)) (cc : W.cell? ⟨pc, 0, none⟩ = some (.int .i64 col)) (h : ArrIn W A n cap l) (hn : n = R * C) (hN : n ≤ 4096)
    (hi : i < rows) (hj : j < cols) (h1 : row + rows ≤ R) (h2 : col + cols ≤ C) (hR : R ≤ 4096) (hC : C ≤ 4096) (x : Val) (hx : getV l ((row + i) * C + col + j) = x) :
    Calls Tryz.prog 173 #[.int .i64 i, .int .i64 j, .pointer (some ⟨pa, 0, none⟩), .pointer (some ⟨pr, 0, none⟩), .pointer (some ⟨pc, 0, none⟩)] W fun e W' => e = .returned (VV x.kind x.mant x.exp x.text x.truth x.fault) ∧ Ext W W' := by
  subst hn
  obtain ⟨hk, hk2⟩ := part_prod hi hj h1 h2 hN
  obtain ⟨b, off, rfl, hv, ho⟩ := h.get hk
  rw [hx] at hv
  clear hx ho
  obtain ⟨v0, v1, v2, v3, v4, v5⟩ := hv
  have hbl : b < W.heap.size := lt_of_cell v0
  obtain ⟨hp, b0, b1, b2⟩ := hb
  have w1 : IntKind.i64.wrap (((row : Int) + (i : Int)) * (C : Int)) = (((row + i) * C : Nat) : Int) := by
    rw [IntKind.wrap_i64, Int.natCast_mul, Int.natCast_add]
    have : (((row + i) * C : Nat) : Int) ≤ 4096 := by omega
    rw [Int.natCast_mul, Int.natCast_add] at this
    have h0 : (0 : Int) ≤ ((row : Int) + (i : Int)) * (C : Int) := Int.mul_nonneg (by omega) (by omega)
    omega
  generalize hjc : (row + i) * C = jc at *
  generalize hrc : R * C = rc at *
  clear hjc hrc
  go_enter Tryz.func173, Tryz.ntmps173
  go_wp2
  exact bodyPost_ret (v := VV x.kind x.mant x.exp x.text x.truth x.fault) (by simp [results, Tryz.results173, go_sem]) rfl ⟨rfl, by repeat (first | exact Ext.refl _ | exact ext_app _ _ _ _ _ | exact ext_app2 _ _ _ _ _ _ | apply Ext.drew | apply Ext.alloc | apply Ext.more_)⟩
def partL (C row col rows cols : Nat) (l : List Val) : List Val := vals (fun i j => getV l ((row + i) * C + col + j)) cols (rows * cols)
set_option maxHeartbeats 600000 in
theorem part_yes (R C row col rows cols : Nat) (A : Option Addr) (n cap : Nat) (l : List Val) (w : World) (h : ArrIn w A n cap l) (hr : rightA R C l = true) (hr1 : 1 ≤ rows) (hc1 : 1 ≤ cols) (h1 : row + rows ≤ R) (h2 : col + cols ≤ C) :
    Calls Tryz.prog 155 #[AV R C (.slice A n cap), .int .i64 row, .int .i64 col, .int .i64 rows, .int .i64 cols] w fun e w' => ∃ D c, e = .returned (.tuple #[AV rows cols (.slice D (rows * cols) c), .bool true]) ∧ SlV w.heap.size w' D (partL C row col rows cols l) ∧ rows * cols ≤ c ∧ Ext w w' := by
  obtain ⟨r1, r2, r3, r4, r5, r6⟩ := right_bd hr
  have hln := h.len
  have HN := Lib.hid (show n = R * C by omega)
  have hN : n ≤ 4096 := by omega
  clear r4 hln
  have hh : hasB R C row col = true := by simp [hasB]; omega
  have hT : rows * cols ≤ 4096 := by
    have a1 : rows * cols ≤ rows * C := Nat.mul_le_mul_left _ (by omega)
    have a2 : rows * C ≤ R * C := Nat.mul_le_mul_right _ (by omega)
    omega
  generalize hL : partL C row col rows cols l = LL
  have HL := Lib.hid hL
  clear hL
  generalize hTT : rows * cols = T at *
  have HT := Lib.hid hTT
  clear hTT
  go_enter Tryz.func155, Tryz.ntmps155
  go_wp2_with fail
  refine (right_any _ _ _ _ _ _ _ (h.ext (by repeat (first | exact Ext.refl _ | exact ext_app _ _ _ _ _ | exact ext_app2 _ _ _ _ _ _ | apply Ext.drew | apply Ext.alloc | apply Ext.more_)))).mono ?_; rintro e w' ⟨rfl, hb⟩; obtain ⟨os1, d1, rfl⟩ := hb.more; clear hb
  go_wp2_with fail
  refine (has_any _ _ _ _ _ _ rfl).mono ?_; rintro e w' ⟨rfl, hb⟩; obtain ⟨os2, d2, rfl⟩ := hb.more; clear hb
  go_wp2_with fail
  refine (build_pure rows cols 173 #[.pointer (some ⟨w.heap.size, 0, none⟩), .pointer (some ⟨w.heap.size + 1, 0, none⟩), .pointer (some ⟨w.heap.size + 1 + 1, 0, none⟩)] (fun i j => getV l ((row + i) * C + col + j)) _ hr1 hc1 (by rw [HT.out]; exact hT) (fun _ _ => by kernel_rfl) ?_).mono ?_
  · intro i j W hi hj hx
    have hz := hx.size
    refine part1_any w.heap.size (w.heap.size + 1) (w.heap.size + 1 + 1) R C row col rows cols A n cap l i j W (ABox.ext ?_ hx) ?_ ?_ (hx.cell_some ?_) (hx.cell_some ?_) (h.ext (Ext.trans ?_ hx)) HN.out hN hi hj h1 h2 r5 r6 _ rfl
    · refine ⟨?_, ?_, ?_, ?_⟩ <;> simp [go_sem]
    · simp at hz; omega
    · simp at hz; omega
    · simp [go_sem]
    · simp [go_sem]
    · exact (by repeat (first | exact Ext.refl _ | exact ext_app _ _ _ _ _ | exact ext_app2 _ _ _ _ _ _ | apply Ext.drew | apply Ext.alloc | apply Ext.more_))
  rintro e w' ⟨D, c', rfl, hs, hc', hb⟩
  obtain ⟨os', d', rfl⟩ := hb.more
  rw [HT.out] at hs hc' ⊢
  change SlV _ _ _ (vals _ _ _) at hs
  have hs' := hs
  rw [show vals (fun i j => getV l ((row + i) * C + col + j)) cols T = LL by rw [← HL.out, partL, HT.out]] at hs'
  clear hs
  go_wp2
  exact bodyPost_ret (v := .tuple #[AV rows cols (.slice D T c'), .bool true]) (by simp [results, Tryz.results155, go_sem]) rfl ⟨D, c', rfl, (by (try simp only [more_more] at hs'); (try simp only [drew_more] at hs'); (try simp only [more_drew] at hs'); (try simp only [Array.append_assoc] at hs'); exact Rd.swap hs' (by first | (simp; done) | (simp; omega) | omega) (by first | (simp; done) | (simp; omega) | omega) (by first | (simp; done) | (simp; omega) | omega)), hc', by repeat (first | exact Ext.refl _ | exact ext_app _ _ _ _ _ | exact ext_app2 _ _ _ _ _ _ | apply Ext.drew | apply Ext.alloc | apply Ext.more_)⟩
end Go.Proofs.YteigcfflljoioaaGreatDoor
namespace Go.Proofs.YteigcfflljoioaaGreatDoor
open Go.RowKit NM
theorem rt_i64 {m e : Int} (h : Rt m e) : I64 m := by
  obtain ⟨h1, h2, h3⟩ := Rt_bd h
  unfold I64; omega
def cntV (n : Int) : Val := ⟨1, (wholeN n).1, (wholeN n).2, ⟨#[]⟩, false, 0⟩
set_option maxHeartbeats 1000000 in
theorem fcount_any (n : Int) (w : World) (htab : Tab w) (hn : n.natAbs < T 15) :
    Calls Tryz.prog 125 #[.int .i64 n] w fun e w' => e = .returned (VV (cntV n).kind (cntV n).mant (cntV n).exp (cntV n).text (cntV n).truth (cntV n).fault) ∧ Ext w w' := by
  have hi : I64 n := by have : T 15 = 1000000000000000 := (by decide); unfold I64; omega
  have hm := fun W h => make_any n 0 W h hi (by unfold I64; omega)
  rw [show rnd (decide (n < 0)) n.natAbs false 0 = some (wholeN n) from (wholex hn).1] at hm
  simp only [rnV, rm, re, Option.getD_some, Option.isSome_some] at hm
  have HT := Lib.hid htab
  unfold cntV
  clear htab hn hi
  go_enter Tryz.func125, Tryz.ntmps125
  go_wp2_with (first | (go_at_call 161; (with_reducible refine (hm _ (HT.out.ext (by with_reducible repeat (first | exact Ext.refl _ | apply Ext.drew | apply Ext.alloc | apply Ext.more_)))).mono ?_); rintro e w' ⟨rfl, hb⟩; obtain ⟨os, d, rfl⟩ := hb.more; clear hb) | (go_at_call 57; (with_reducible refine (of_any _ _ _).mono ?_); rintro e w' ⟨rfl, hb⟩; obtain ⟨os, d, rfl⟩ := hb.more; clear hb))
  exact bodyPost_ret (v := VV 1 (wholeN n).1 (wholeN n).2 ⟨#[]⟩ false 0) (by simp [results, Tryz.results125, go_sem]) rfl ⟨rfl, by with_reducible repeat (first | exact Ext.refl _ | apply Ext.drew | apply Ext.alloc | apply Ext.more_)⟩
/-- A value's whole number, and a fault. -/
def wholeO (v : Val) : Int × Int := if tnF v = 0 then ((intS (floorS (tnP v).1 (tnP v).2).1 (floorS (tnP v).1 (tnP v).2).2).getD 0, if (intS (floorS (tnP v).1 (tnP v).2).1 (floorS (tnP v).1 (tnP v).2).2).isSome then 0 else 5) else (0, tnF v)
set_option maxHeartbeats 1000000 in
theorem whole_any (r c : Int) (A : Option Addr) (n cap : Nat) (l : List Val) (w : World) (h : ArrIn w A n cap l) (v : Val) (hv : l[0]? = some v) (hr : v.right) (y : Int × Int) (hy : wholeO v = y) :
    Calls Tryz.prog 119 #[AV r c (.slice A n cap)] w fun e w' => e = .returned (.tuple #[.int .i64 y.1, .int .i64 y.2]) ∧ Ext w w' := by
  have hn : 0 < n := by rw [← h.len]; exact (List.getElem?_eq_some_iff.1 hv).1
  obtain ⟨v', b, off, hv', hvo, rfl, hat⟩ := h.at hn
  obtain rfl : v' = v := by rw [hv] at hv'; simpa using hv'.symm
  obtain ⟨v0, v1, v2, v3, v4, v5⟩ := hat
  simp only [Nat.zero_mul, Nat.add_zero] at v0 v1 v2 v3 v4 v5
  have hbl : b < w.heap.size := lt_of_cell v0
  have ht := fun W => toNum_any v' W hr
  have hi1 : I64 (tnP v').1 := rt_i64 (tn_rt hr)
  subst hy
  unfold wholeO
  generalize htp : tnP v' = p at *
  generalize htf : tnF v' = f at *
  by_cases hf : f = 0
  · subst hf
    rw [if_pos rfl]
    have hfl := fun W => floor_any p.1 p.2 W hi1
    have hi2 : I64 (floorS p.1 p.2).1 := rt_i64 (by exact (floor_spec (by rw [← htp]; exact tn_rt hr)).1)
    generalize hq : floorS p.1 p.2 = q at *
    have hin := fun W => int_any q.1 q.2 W hi2
    cases hI : intS q.1 q.2 with
    | none =>
      rw [hI] at hin
      simp only [inV, Option.getD_none, Option.isSome_none] at hin ⊢
      simp only [tnV, htp, htf] at ht
      clear hI hq htp htf hv hv' hvo hr hi1 hi2
      go_enter Tryz.func119, Tryz.ntmps119
      go_wp2_with (first | (go_at_call 149; (with_reducible refine (ht _).mono ?_); rintro e w' ⟨rfl, hb⟩; obtain ⟨os, d, rfl⟩ := hb.more; clear hb) | (go_at_call 138; (with_reducible refine (hfl _).mono ?_); rintro e w' ⟨rfl, hb⟩; obtain ⟨os, d, rfl⟩ := hb.more; clear hb) | (go_at_call 139; (with_reducible refine (hin _).mono ?_); rintro e w' ⟨rfl, hb⟩; obtain ⟨os, d, rfl⟩ := hb.more; clear hb))
      exact bodyPost_ret (v := .tuple #[.int .i64 0, .int .i64 5]) (by simp [results, Tryz.results119, go_sem]) rfl ⟨rfl, by with_reducible repeat (first | exact Ext.refl _ | apply Ext.drew | apply Ext.alloc | apply Ext.more_)⟩
    | some i =>
      rw [hI] at hin
      simp only [inV, Option.getD_some, Option.isSome_some] at hin ⊢
      simp only [tnV, htp, htf] at ht
      clear hI hq htp htf hv hv' hvo hr hi1 hi2
      go_enter Tryz.func119, Tryz.ntmps119
      go_wp2_with (first | (go_at_call 149; (with_reducible refine (ht _).mono ?_); rintro e w' ⟨rfl, hb⟩; obtain ⟨os, d, rfl⟩ := hb.more; clear hb) | (go_at_call 138; (with_reducible refine (hfl _).mono ?_); rintro e w' ⟨rfl, hb⟩; obtain ⟨os, d, rfl⟩ := hb.more; clear hb) | (go_at_call 139; (with_reducible refine (hin _).mono ?_); rintro e w' ⟨rfl, hb⟩; obtain ⟨os, d, rfl⟩ := hb.more; clear hb))
      exact bodyPost_ret (v := .tuple #[.int .i64 i, .int .i64 0]) (by simp [results, Tryz.results119, go_sem]) rfl ⟨rfl, by with_reducible repeat (first | exact Ext.refl _ | apply Ext.drew | apply Ext.alloc | apply Ext.more_)⟩
  · rw [if_neg hf]
    have hf' : (f != 0) = true := by simpa using hf
    simp only [tnV, htp, htf] at ht
    clear htp htf hv hv' hvo hr hi1
    go_enter Tryz.func119, Tryz.ntmps119
    go_wp2_with (first | (go_at_call 149; (with_reducible refine (ht _).mono ?_); rintro e w' ⟨rfl, hb⟩; obtain ⟨os, d, rfl⟩ := hb.more; clear hb))
    exact bodyPost_ret (v := .tuple #[.int .i64 0, .int .i64 f]) (by simp [results, Tryz.results119, go_sem]) rfl ⟨rfl, by with_reducible repeat (first | exact Ext.refl _ | apply Ext.drew | apply Ext.alloc | apply Ext.more_)⟩
/-- What is sought, and a fault. -/
def soughtO (v : Val) : Val × Int := if v.kind = 4 then (Val.zero, v.fault) else if v.kind = 0 then (cntV 0, 0) else (v, 0)
abbrev vfV (p : Val × Int) : Value := .tuple #[VV p.1.kind p.1.mant p.1.exp p.1.text p.1.truth p.1.fault, .int .i64 p.2]
set_option maxHeartbeats 1000000 in
theorem sought_any (r c : Int) (A : Option Addr) (n cap : Nat) (l : List Val) (w : World) (htab : Tab w) (h : ArrIn w A n cap l) (v : Val) (hv : l[0]? = some v) :
    Calls Tryz.prog 121 #[AV r c (.slice A n cap)] w fun e w' => e = .returned (vfV (soughtO v)) ∧ Ext w w' := by
  have hn : 0 < n := by rw [← h.len]; exact (List.getElem?_eq_some_iff.1 hv).1
  obtain ⟨v', b, off, hv', hvo, rfl, hat⟩ := h.at hn
  obtain rfl : v' = v := by rw [hv] at hv'; simpa using hv'.symm
  obtain ⟨v0, v1, v2, v3, v4, v5⟩ := hat
  simp only [Nat.zero_mul, Nat.add_zero] at v0 v1 v2 v3 v4 v5
  have hbl : b < w.heap.size := lt_of_cell v0
  have HT := Lib.hid htab
  have hc := fun W (h : Tab W) => fcount_any 0 W h (by decide)
  unfold soughtO
  obtain ⟨k, m, ex, t, bb, f⟩ := v'
  simp only at v0 v1 v2 v3 v4 v5
  clear htab hv hv' hvo
  by_cases h4 : k = 4
  · subst h4
    rw [if_pos rfl]
    simp only [vfV, Val.zero]
    go_enter Tryz.func121, Tryz.ntmps121
    go_upto_region 5 with fail
    go_region
    all_goals
      go_wp2_with fail
      exact bodyPost_ret (v := .tuple #[VV 0 0 0 ⟨#[]⟩ false 0, .int .i64 f]) (by simp [results, Tryz.results121, go_sem]) rfl ⟨rfl, by with_reducible repeat (first | exact Ext.refl _ | apply Ext.drew | apply Ext.alloc | apply Ext.more_)⟩
  · have h4' : (k == 4) = false := by simpa using h4
    rw [if_neg h4]
    by_cases h0 : k = 0
    · subst h0
      rw [if_pos rfl]
      clear h4 h4'
      generalize hcv : cntV 0 = y at *
      go_enter Tryz.func121, Tryz.ntmps121
      go_wp2_with (first | (go_at_call 125; (with_reducible refine (hc _ (HT.out.ext (by with_reducible repeat (first | exact Ext.refl _ | apply Ext.drew | apply Ext.alloc | apply Ext.more_)))).mono ?_); rintro e w' ⟨rfl, hb⟩; obtain ⟨os, d, rfl⟩ := hb.more; clear hb))
      exact bodyPost_ret (v := .tuple #[VV y.kind y.mant y.exp y.text y.truth y.fault, .int .i64 0]) (by simp [results, Tryz.results121, go_sem]) rfl ⟨rfl, by with_reducible repeat (first | exact Ext.refl _ | apply Ext.drew | apply Ext.alloc | apply Ext.more_)⟩
    · have h0' : (k == 0) = false := by simpa using h0
      rw [if_neg h0]
      go_enter Tryz.func121, Tryz.ntmps121
      go_wp2_with fail
      exact bodyPost_ret (v := .tuple #[VV k m ex t bb f, .int .i64 0]) (by simp [results, Tryz.results121, go_sem]) rfl ⟨rfl, by with_reducible repeat (first | exact Ext.refl _ | apply Ext.drew | apply Ext.alloc | apply Ext.more_)⟩
end Go.Proofs.YteigcfflljoioaaGreatDoor
namespace Go.Proofs.YteigcfflljoioaaGreatDoor
open Go.RowKit NM
/-- A part of an array. -/
def partA (a : NA) (row col rows cols : Nat) : NA := ⟨rows, cols, partL a.C row col rows cols a.l⟩
theorem partL_mem {C row col rows cols : Nat} {l : List Val} {v : Val} {R : Nat} (hl : l.length = R * C) (h1 : row + rows ≤ R) (h2 : col + cols ≤ C) (h : v ∈ partL C row col rows cols l) : v ∈ l := by
  unfold partL vals at h
  simp only [List.mem_map, List.mem_range] at h
  obtain ⟨t, ht, rfl⟩ := h
  have hc : 0 < cols := by rcases Nat.eq_zero_or_pos cols with h | h; (subst h; simp at ht); exact h
  have hi : t / cols < rows := Nat.div_lt_of_lt_mul (by rw [Nat.mul_comm]; exact ht)
  have hj : t % cols < cols := Nat.mod_lt _ hc
  have hk : (row + t / cols) * C + col + t % cols < l.length := by
    rw [hl]
    have : (row + t / cols) * C + C ≤ R * C := by
      have := Nat.mul_le_mul_right C (show row + t / cols + 1 ≤ R by omega)
      rw [Nat.add_mul, Nat.one_mul] at this
      exact this
    omega
  unfold getV
  rw [List.getElem?_eq_getElem hk]
  exact List.getElem_mem hk
theorem partA_ok {a : NA} (ha : a.ok) (hr : a.right) {row col rows cols : Nat} (h1 : row + rows ≤ a.R) (h2 : col + cols ≤ a.C) : (partA a row col rows cols).ok := fun x hx =>
  ha x (partL_mem (rightA_nat.1 hr).2.2.2.1 h1 h2 hx)
set_option maxHeartbeats 1000000 in
theorem fpart_any (a : NA) (row col rows cols : Nat) (A : Option Addr) (n cap : Nat) (w : World) (h : ArrIn w A n cap a.l) (hr : a.right) (hr1 : 1 ≤ rows) (hc1 : 1 ≤ cols) (h1 : row + rows ≤ a.R) (h2 : col + cols ≤ a.C) :
    Calls Tryz.prog 120 #[AV a.R a.C (.slice A n cap), .int .i64 row, .int .i64 col, .int .i64 rows, .int .i64 cols] w fun e w' => ResA w (partA a row col rows cols) e w' := by
  have hok := partA_ok h.ok hr h1 h2
  have hp := fun W (hW : ArrIn W A n cap a.l) => part_yes a.R a.C row col rows cols A n cap a.l W hW hr hr1 hc1 h1 h2
  have hle : rows * cols ≤ 4096 := by
    have := (rightA_nat.1 hr).2.2.1
    exact Nat.le_trans (Nat.mul_le_mul (by omega) (by omega)) this
  have hl : (partL a.C row col rows cols a.l).length = rows * cols := by unfold partL; rw [vals_length]
  unfold partA at hok ⊢
  generalize partL a.C row col rows cols a.l = L at *
  generalize rows * cols = N at *
  obtain ⟨R, C, l⟩ := a
  simp only at h hp
  clear hr hr1 hc1 h1 h2
  go_enter Tryz.func120, Tryz.ntmps120
  go_wp2_with (go_at_call 155; (with_reducible refine (hp _ (h.ext (by with_reducible repeat (first | exact Ext.refl _ | apply Ext.drew | apply Ext.alloc | apply Ext.more_)))).mono ?_); rintro e w' ⟨D, c, rfl, hD, hc, hb⟩; obtain ⟨os, d, rfl⟩ := hb.more; clear hb)
  exact bodyPost_ret (v := AV rows cols (.slice D N c)) (by simp [results, Tryz.results120, go_sem]) rfl ⟨D, N, c, rfl, ⟨Rd.alloc ((by (try simp only [more_more] at hD); (try simp only [drew_more] at hD); (try simp only [more_drew] at hD); (try simp only [Array.append_assoc] at hD); exact Rd.swap hD (by first | (simp; done) | (simp; omega) | omega) (by first | (simp; done) | (simp; omega) | omega) (by first | (simp; done) | (simp; omega) | omega))) _, hl, hc, by omega, hok⟩, by with_reducible repeat (first | exact Ext.refl _ | apply Ext.drew | apply Ext.alloc | apply Ext.more_)⟩
theorem args2 {w : World} {A : Option Addr} {cap : Nat} {a p : Ar} (h : ArgsIn w A 2 cap [a, p]) : ∃ b off, A = some ⟨b, off, none⟩ ∧ b < w.heap.size ∧ ArAt w b off a ∧ ArAt w b (off + 3) p ∧ ArOk w a ∧ ArOk w p := by
  obtain ⟨b, off, rfl, h1, h2⟩ := h.get (k := 0) (a := a) rfl
  obtain ⟨b', off', e, h3, h4⟩ := h.get (k := 1) (a := p) rfl
  simp only [Option.some.injEq, Addr.mk.injEq, and_true] at e
  obtain ⟨rfl, rfl⟩ := e
  exact ⟨b, off, rfl, lt_of_cell h1.1, h1, h3, h2, h4⟩
theorem args3 {w : World} {A : Option Addr} {cap : Nat} {a p q : Ar} (h : ArgsIn w A 3 cap [a, p, q]) : ∃ b off, A = some ⟨b, off, none⟩ ∧ b < w.heap.size ∧ ArAt w b off a ∧ ArAt w b (off + 3) p ∧ ArAt w b (off + 6) q ∧ ArOk w a ∧ ArOk w p ∧ ArOk w q := by
  obtain ⟨b, off, rfl, h1, h2⟩ := h.get (k := 0) (a := a) rfl
  obtain ⟨b', off', e, h3, h4⟩ := h.get (k := 1) (a := p) rfl
  obtain ⟨b2, off2, e2, h5, h6⟩ := h.get (k := 2) (a := q) rfl
  simp only [Option.some.injEq, Addr.mk.injEq, and_true] at e e2
  obtain ⟨rfl, rfl⟩ := e
  obtain ⟨rfl, rfl⟩ := e2
  exact ⟨b, off, rfl, lt_of_cell h1.1, h1, h3, h5, h2, h4, h6⟩
set_option maxHeartbeats 1000000 in
/-- INDEX of a row and a place. -/
theorem index_row (A : Option Addr) (cap : Nat) (a p : Ar) (v : Val) (k : Nat) (w : World) (h : ArgsIn w A 2 cap [a, p]) (hR : a.x.R = 1) (hv : p.x.l[0]? = some v) (hvr : v.right) (hk : wholeO v = ((k : Int), 0)) (hk1 : 1 ≤ k) (hkC : k ≤ a.x.C) :
    Calls Tryz.prog 68 #[.slice A 2 cap] w fun e w' => ResA w (partA a.x 0 (k - 1) 1 1) e w' := by
  obtain ⟨b, off, rfl, hbl, ⟨u0, u1, u2⟩, ⟨v0, v1, v2⟩, ha, hp⟩ := args2 h
  have hcap := h.cap
  have hw := fun W (hW : ArrIn W p.A p.n p.cap p.x.l) => whole_any p.x.R p.x.C p.A p.n p.cap p.x.l W hW v hv hvr _ hk
  have hpt := fun W (hW : ArrIn W a.A a.n a.cap a.x.l) => fpart_any a.x 0 (k - 1) 1 1 a.A a.n a.cap W hW ha.right (by omega) (by omega) (by omega) (by omega)
  have harr := ha.arr
  have hC : a.x.C ≤ 4096 := by
    have := (rightA_nat.1 ha.right).2.2.1
    rw [hR, Nat.one_mul] at this; exact this
  have e1 : ((k - 1 : Nat) : Int) = (k : Int) - 1 := by omega
  generalize partA a.x 0 (k - 1) 1 1 = X at *
  rw [e1] at hpt
  clear e1 h hv hvr hk ha
  have hpa := hp.arr
  clear hp
  obtain ⟨⟨R, C, l⟩, A1, n1, cap1⟩ := a
  obtain ⟨⟨R2, C2, l2⟩, A2, n2, cap2⟩ := p
  simp only at u0 u1 u2 v0 v1 v2 hw hpt harr hpa hR hkC hC
  subst hR
  simp only [show ((1 : Nat) : Int) = 1 from rfl, show ((0 : Nat) : Int) = 0 from rfl] at hpt u0
  have hk0 : ((k : Int) == 0) = false := by simp; omega
  have hkn : decide ((k : Int) < 0) = false := by simp
  go_enter Tryz.func68, Tryz.ntmps68
  go_upto_region 18 with (go_at_call 119; (with_reducible refine (hw _ (hpa.ext (by with_reducible repeat (first | exact Ext.refl _ | apply Ext.drew | apply Ext.alloc | apply Ext.more_)))).mono ?_); rintro e w' ⟨rfl, hb⟩; obtain ⟨os, d, rfl⟩ := hb.more; clear hb)
  go_region
  all_goals
    go_wp2_with (go_at_call 120; (with_reducible refine (hpt _ (harr.ext (by with_reducible repeat (first | exact Ext.refl _ | apply Ext.drew | apply Ext.alloc | apply Ext.more_)))).mono ?_); rintro e w' ⟨D, m, cc, rfl, hD, hb⟩; obtain ⟨os2, d2, rfl⟩ := hb.more; clear hb; have hDr := hD.rd)
    exact bodyPost_ret (v := AV X.R X.C (.slice D m cc)) (by simp [results, Tryz.results68, go_sem]) rfl ⟨D, m, cc, rfl, ⟨(by (try simp only [more_more] at hDr); (try simp only [drew_more] at hDr); (try simp only [more_drew] at hDr); (try simp only [Array.append_assoc] at hDr); exact Rd.swap hDr (by first | (simp; done) | (simp; omega) | omega) (by first | (simp; done) | (simp; omega) | omega) (by first | (simp; done) | (simp; omega) | omega)), hD.len, hD.cap, hD.small, hD.ok⟩, by with_reducible repeat (first | exact Ext.refl _ | apply Ext.drew | apply Ext.alloc | apply Ext.more_)⟩
end Go.Proofs.YteigcfflljoioaaGreatDoor
namespace Go.Proofs.YteigcfflljoioaaGreatDoor
open Go.RowKit NM
theorem firstN_range (p : Val → Bool) : ∀ (l : List Val) (k : Nat), firstN p l k = -1 ∨ ((k : Int) ≤ firstN p l k ∧ firstN p l k < k + l.length)
  | [], k => Or.inl rfl
  | x :: l, k => by
    unfold firstN
    split
    · right; simp only [List.length_cons]; omega
    · rcases firstN_range p l (k + 1) with h | h
      · exact Or.inl h
      · right; simp only [List.length_cons]; omega
theorem lastN_range (p : Val → Bool) : ∀ (l : List Val) (k : Nat) (a : Int), lastN p l k a = a ∨ ((k : Int) ≤ lastN p l k a ∧ lastN p l k a < k + l.length)
  | [], k, a => Or.inl rfl
  | x :: l, k, a => by
    unfold lastN
    rcases lastN_range p l (k + 1) (if p x then (k : Int) else a) with h | h
    · rw [h]
      split
      · right; simp only [List.length_cons]; omega
      · exact Or.inl rfl
    · right; simp only [List.length_cons]; omega
theorem justN_range (l : List Val) (x : Val) : justN l x = -1 ∨ (0 ≤ justN l x ∧ justN l x < l.length) := by
  have := firstN_range (stP (fun s => decide (s = 0)) x) l 0
  unfold justN; simpa using this
theorem upToN_range (l : List Val) (x : Val) : upToN l x = -1 ∨ (0 ≤ upToN l x ∧ upToN l x < l.length) := by
  have := lastN_range (stP (fun s => decide (s ≤ 0)) x) l 0 (-1)
  unfold upToN; simpa using this
/-- The array of a place; -1: there is none. -/
def placeO (k : Int) : NA := if k < 0 then aloneO 6 else oneA (cntV (k + 1))
theorem cnt_right {n : Int} (h : n.natAbs < T 15) : (cntV n).right := right_num (wholex h).2.1
theorem soughtO_self {v : Val} (h0 : v.kind ≠ 0) (h4 : v.kind ≠ 4) : soughtO v = (v, 0) := by unfold soughtO; rw [if_neg h4, if_neg h0]
set_option maxHeartbeats 1000000 in
theorem match3_just (A : Option Addr) (cap : Nat) (a p q : Ar) (v u : Val) (w : World) (htab : Tab w) (h : ArgsIn w A 3 cap [a, p, q]) (hv : a.x.l[0]? = some v) (hvr : v.right) (h0 : v.kind ≠ 0) (h4 : v.kind ≠ 4)
    (hu : q.x.l[0]? = some u) (hur : u.right) (hk : wholeO u = (0, 0)) (hl : p.x.R ≤ 1 ∨ p.x.C ≤ 1) :
    Calls Tryz.prog 69 #[.slice A 3 cap] w fun e w' => ResA w (placeO (justN p.x.l v)) e w' := by
  obtain ⟨b, off, rfl, hbl, ⟨u0, u1, u2⟩, ⟨v0, v1, v2⟩, ⟨t0, t1, t2⟩, ha, hp, hq⟩ := args3 h
  have hcap := h.cap
  have hso := fun W (hT : Tab W) (hW : ArrIn W a.A a.n a.cap a.x.l) => sought_any a.x.R a.x.C a.A a.n a.cap a.x.l W hT hW v hv
  rw [soughtO_self h0 h4] at hso
  have hw := fun W (hW : ArrIn W q.A q.n q.cap q.x.l) => whole_any q.x.R q.x.C q.A q.n q.cap q.x.l W hW u hu hur _ hk
  have hf := fun W (hW : ArrIn W p.A p.n p.cap p.x.l) => just_any p.A p.n p.cap p.x.l v W hW hvr.ok
  have hrg := justN_range p.x.l v
  have hlen : p.x.l.length ≤ 4096 := by
    have := rightA_nat.1 hp.right
    omega
  generalize justN p.x.l v = t at *
  have hpa := hp.arr
  have haa := ha.arr
  have hqa := hq.arr
  have HT := Lib.hid htab
  obtain ⟨⟨R, C, l⟩, A1, n1, cap1⟩ := a
  obtain ⟨⟨R2, C2, l2⟩, A2, n2, cap2⟩ := p
  obtain ⟨⟨R3, C3, l3⟩, A3, n3, cap3⟩ := q
  obtain ⟨vk, vm, ve, vt, vb, vf⟩ := v
  simp only at u0 u1 u2 v0 v1 v2 t0 t1 t2 hso hw hf hpa haa hqa hl hlen hrg
  clear h hv hvr h0 h4 hu hur hk ha hp hq htab
  have hz : ¬ (1 < R2 ∧ 1 < C2) := by omega
  by_cases ht : t < 0
  · have hx : placeO t = aloneO 6 := by unfold placeO; rw [if_pos ht]
    rw [hx]
    clear hx hrg
    go_enter Tryz.func69, Tryz.ntmps69
    go_wp2_with (first | (go_at_call 121; (with_reducible refine (hso _ (HT.out.ext (by with_reducible repeat (first | exact Ext.refl _ | apply Ext.drew | apply Ext.alloc | apply Ext.more_))) (haa.ext (by with_reducible repeat (first | exact Ext.refl _ | apply Ext.drew | apply Ext.alloc | apply Ext.more_)))).mono ?_); rintro e w' ⟨rfl, hb⟩; obtain ⟨os0, d0, rfl⟩ := hb.more; clear hb) | (go_at_call 119; (with_reducible refine (hw _ (hqa.ext (by with_reducible repeat (first | exact Ext.refl _ | apply Ext.drew | apply Ext.alloc | apply Ext.more_)))).mono ?_); rintro e w' ⟨rfl, hb⟩; obtain ⟨os1, d1, rfl⟩ := hb.more; clear hb) | (go_at_call 122; (with_reducible refine (hf _ (hpa.ext (by with_reducible repeat (first | exact Ext.refl _ | apply Ext.drew | apply Ext.alloc | apply Ext.more_)))).mono ?_); rintro e w' ⟨rfl, hb⟩; obtain ⟨os, d, rfl⟩ := hb.more; clear hb) | (go_at_call 44; (with_reducible refine (alone_any _ _).mono ?_); rintro e w' ⟨D, m, cc, rfl, hD, hb⟩; obtain ⟨os5, d5, rfl⟩ := hb.more; clear hb; have hDr := hD.rd))
    all_goals exact bodyPost_ret (v := AV (aloneO 6).R (aloneO 6).C (.slice D m cc)) (by simp [results, Tryz.results69, go_sem]) rfl ⟨D, m, cc, rfl, ⟨(by (try simp only [more_more] at hDr); (try simp only [drew_more] at hDr); (try simp only [more_drew] at hDr); (try simp only [Array.append_assoc] at hDr); exact Rd.swap hDr (by first | (simp; done) | (simp; omega) | omega) (by first | (simp; done) | (simp; omega) | omega) (by first | (simp; done) | (simp; omega) | omega)), hD.len, hD.cap, hD.small, hD.ok⟩, by with_reducible repeat (first | exact Ext.refl _ | apply Ext.drew | apply Ext.alloc | apply Ext.more_)⟩
  · have hx : placeO t = oneA (cntV (t + 1)) := by unfold placeO; rw [if_neg ht]
    have hT15 : (t + 1).natAbs < T 15 := by have : T 15 = 1000000000000000 := (by decide); omega
    have hc := fun W (hW : Tab W) => fcount_any (t + 1) W hW hT15
    have hcr := cnt_right hT15
    have hw1 : IntKind.i64.wrap (t + 1) = t + 1 := by rw [IntKind.wrap_i64]; omega
    have hon := fun W => one_res (cntV (t + 1)) W hcr.ok hcr
    rw [hx]
    clear hx hrg hT15 hcr
    generalize cntV (t + 1) = y at *
    go_enter Tryz.func69, Tryz.ntmps69
    go_wp2_with (first | (go_at_call 121; (with_reducible refine (hso _ (HT.out.ext (by with_reducible repeat (first | exact Ext.refl _ | apply Ext.drew | apply Ext.alloc | apply Ext.more_))) (haa.ext (by with_reducible repeat (first | exact Ext.refl _ | apply Ext.drew | apply Ext.alloc | apply Ext.more_)))).mono ?_); rintro e w' ⟨rfl, hb⟩; obtain ⟨os0, d0, rfl⟩ := hb.more; clear hb) | (go_at_call 119; (with_reducible refine (hw _ (hqa.ext (by with_reducible repeat (first | exact Ext.refl _ | apply Ext.drew | apply Ext.alloc | apply Ext.more_)))).mono ?_); rintro e w' ⟨rfl, hb⟩; obtain ⟨os1, d1, rfl⟩ := hb.more; clear hb) | (go_at_call 122; (with_reducible refine (hf _ (hpa.ext (by with_reducible repeat (first | exact Ext.refl _ | apply Ext.drew | apply Ext.alloc | apply Ext.more_)))).mono ?_); rintro e w' ⟨rfl, hb⟩; obtain ⟨os, d, rfl⟩ := hb.more; clear hb) | (go_at_call 125; (with_reducible refine (hc _ (HT.out.ext (by with_reducible repeat (first | exact Ext.refl _ | apply Ext.drew | apply Ext.alloc | apply Ext.more_)))).mono ?_); rintro e w' ⟨rfl, hb⟩; obtain ⟨os4, d4, rfl⟩ := hb.more; clear hb) | (go_at_call 73; (with_reducible refine (hon _).mono ?_); rintro e w' ⟨D, m, cc, rfl, hD, hb⟩; obtain ⟨os5, d5, rfl⟩ := hb.more; clear hb; have hDr := hD.rd))
    all_goals exact bodyPost_ret (v := AV (oneA y).R (oneA y).C (.slice D m cc)) (by simp [results, Tryz.results69, go_sem]) rfl ⟨D, m, cc, rfl, ⟨(by (try simp only [more_more] at hDr); (try simp only [drew_more] at hDr); (try simp only [more_drew] at hDr); (try simp only [Array.append_assoc] at hDr); exact Rd.swap hDr (by first | (simp; done) | (simp; omega) | omega) (by first | (simp; done) | (simp; omega) | omega) (by first | (simp; done) | (simp; omega) | omega)), hD.len, hD.cap, hD.small, hD.ok⟩, by with_reducible repeat (first | exact Ext.refl _ | apply Ext.drew | apply Ext.alloc | apply Ext.more_)⟩
set_option maxHeartbeats 1000000 in
theorem match3_upTo (A : Option Addr) (cap : Nat) (a p q : Ar) (v u : Val) (w : World) (htab : Tab w) (h : ArgsIn w A 3 cap [a, p, q]) (hv : a.x.l[0]? = some v) (hvr : v.right) (h0 : v.kind ≠ 0) (h4 : v.kind ≠ 4)
    (hu : q.x.l[0]? = some u) (hur : u.right) (hk : wholeO u = (1, 0)) (hl : p.x.R ≤ 1 ∨ p.x.C ≤ 1) :
    Calls Tryz.prog 69 #[.slice A 3 cap] w fun e w' => ResA w (placeO (upToN p.x.l v)) e w' := by
  obtain ⟨b, off, rfl, hbl, ⟨u0, u1, u2⟩, ⟨v0, v1, v2⟩, ⟨t0, t1, t2⟩, ha, hp, hq⟩ := args3 h
  have hcap := h.cap
  have hso := fun W (hT : Tab W) (hW : ArrIn W a.A a.n a.cap a.x.l) => sought_any a.x.R a.x.C a.A a.n a.cap a.x.l W hT hW v hv
  rw [soughtO_self h0 h4] at hso
  have hw := fun W (hW : ArrIn W q.A q.n q.cap q.x.l) => whole_any q.x.R q.x.C q.A q.n q.cap q.x.l W hW u hu hur _ hk
  have hf := fun W (hW : ArrIn W p.A p.n p.cap p.x.l) => upTo_any p.A p.n p.cap p.x.l v W hW hvr.ok
  have hrg := upToN_range p.x.l v
  have hlen : p.x.l.length ≤ 4096 := by
    have := rightA_nat.1 hp.right
    omega
  generalize upToN p.x.l v = t at *
  have hpa := hp.arr
  have haa := ha.arr
  have hqa := hq.arr
  have HT := Lib.hid htab
  obtain ⟨⟨R, C, l⟩, A1, n1, cap1⟩ := a
  obtain ⟨⟨R2, C2, l2⟩, A2, n2, cap2⟩ := p
  obtain ⟨⟨R3, C3, l3⟩, A3, n3, cap3⟩ := q
  obtain ⟨vk, vm, ve, vt, vb, vf⟩ := v
  simp only at u0 u1 u2 v0 v1 v2 t0 t1 t2 hso hw hf hpa haa hqa hl hlen hrg
  clear h hv hvr h0 h4 hu hur hk ha hp hq htab
  have hz : ¬ (1 < R2 ∧ 1 < C2) := by omega
  by_cases ht : t < 0
  · have hx : placeO t = aloneO 6 := by unfold placeO; rw [if_pos ht]
    rw [hx]
    clear hx hrg
    go_enter Tryz.func69, Tryz.ntmps69
    go_wp2_with (first | (go_at_call 121; (with_reducible refine (hso _ (HT.out.ext (by with_reducible repeat (first | exact Ext.refl _ | apply Ext.drew | apply Ext.alloc | apply Ext.more_))) (haa.ext (by with_reducible repeat (first | exact Ext.refl _ | apply Ext.drew | apply Ext.alloc | apply Ext.more_)))).mono ?_); rintro e w' ⟨rfl, hb⟩; obtain ⟨os0, d0, rfl⟩ := hb.more; clear hb) | (go_at_call 119; (with_reducible refine (hw _ (hqa.ext (by with_reducible repeat (first | exact Ext.refl _ | apply Ext.drew | apply Ext.alloc | apply Ext.more_)))).mono ?_); rintro e w' ⟨rfl, hb⟩; obtain ⟨os1, d1, rfl⟩ := hb.more; clear hb) | (go_at_call 123; (with_reducible refine (hf _ (hpa.ext (by with_reducible repeat (first | exact Ext.refl _ | apply Ext.drew | apply Ext.alloc | apply Ext.more_)))).mono ?_); rintro e w' ⟨rfl, hb⟩; obtain ⟨os, d, rfl⟩ := hb.more; clear hb) | (go_at_call 44; (with_reducible refine (alone_any _ _).mono ?_); rintro e w' ⟨D, m, cc, rfl, hD, hb⟩; obtain ⟨os5, d5, rfl⟩ := hb.more; clear hb; have hDr := hD.rd))
    all_goals exact bodyPost_ret (v := AV (aloneO 6).R (aloneO 6).C (.slice D m cc)) (by simp [results, Tryz.results69, go_sem]) rfl ⟨D, m, cc, rfl, ⟨(by (try simp only [more_more] at hDr); (try simp only [drew_more] at hDr); (try simp only [more_drew] at hDr); (try simp only [Array.append_assoc] at hDr); exact Rd.swap hDr (by first | (simp; done) | (simp; omega) | omega) (by first | (simp; done) | (simp; omega) | omega) (by first | (simp; done) | (simp; omega) | omega)), hD.len, hD.cap, hD.small, hD.ok⟩, by with_reducible repeat (first | exact Ext.refl _ | apply Ext.drew | apply Ext.alloc | apply Ext.more_)⟩
  · have hx : placeO t = oneA (cntV (t + 1)) := by unfold placeO; rw [if_neg ht]
    have hT15 : (t + 1).natAbs < T 15 := by have : T 15 = 1000000000000000 := (by decide); omega
    have hc := fun W (hW : Tab W) => fcount_any (t + 1) W hW hT15
    have hcr := cnt_right hT15
    have hw1 : IntKind.i64.wrap (t + 1) = t + 1 := by rw [IntKind.wrap_i64]; omega
    have hon := fun W => one_res (cntV (t + 1)) W hcr.ok hcr
    rw [hx]
    clear hx hrg hT15 hcr
    generalize cntV (t + 1) = y at *
    go_enter Tryz.func69, Tryz.ntmps69
    go_wp2_with (first | (go_at_call 121; (with_reducible refine (hso _ (HT.out.ext (by with_reducible repeat (first | exact Ext.refl _ | apply Ext.drew | apply Ext.alloc | apply Ext.more_))) (haa.ext (by with_reducible repeat (first | exact Ext.refl _ | apply Ext.drew | apply Ext.alloc | apply Ext.more_)))).mono ?_); rintro e w' ⟨rfl, hb⟩; obtain ⟨os0, d0, rfl⟩ := hb.more; clear hb) | (go_at_call 119; (with_reducible refine (hw _ (hqa.ext (by with_reducible repeat (first | exact Ext.refl _ | apply Ext.drew | apply Ext.alloc | apply Ext.more_)))).mono ?_); rintro e w' ⟨rfl, hb⟩; obtain ⟨os1, d1, rfl⟩ := hb.more; clear hb) | (go_at_call 123; (with_reducible refine (hf _ (hpa.ext (by with_reducible repeat (first | exact Ext.refl _ | apply Ext.drew | apply Ext.alloc | apply Ext.more_)))).mono ?_); rintro e w' ⟨rfl, hb⟩; obtain ⟨os, d, rfl⟩ := hb.more; clear hb) | (go_at_call 125; (with_reducible refine (hc _ (HT.out.ext (by with_reducible repeat (first | exact Ext.refl _ | apply Ext.drew | apply Ext.alloc | apply Ext.more_)))).mono ?_); rintro e w' ⟨rfl, hb⟩; obtain ⟨os4, d4, rfl⟩ := hb.more; clear hb) | (go_at_call 73; (with_reducible refine (hon _).mono ?_); rintro e w' ⟨D, m, cc, rfl, hD, hb⟩; obtain ⟨os5, d5, rfl⟩ := hb.more; clear hb; have hDr := hD.rd))
    all_goals exact bodyPost_ret (v := AV (oneA y).R (oneA y).C (.slice D m cc)) (by simp [results, Tryz.results69, go_sem]) rfl ⟨D, m, cc, rfl, ⟨(by (try simp only [more_more] at hDr); (try simp only [drew_more] at hDr); (try simp only [more_drew] at hDr); (try simp only [Array.append_assoc] at hDr); exact Rd.swap hDr (by first | (simp; done) | (simp; omega) | omega) (by first | (simp; done) | (simp; omega) | omega) (by first | (simp; done) | (simp; omega) | omega)), hD.len, hD.cap, hD.small, hD.ok⟩, by with_reducible repeat (first | exact Ext.refl _ | apply Ext.drew | apply Ext.alloc | apply Ext.more_)⟩
set_option maxHeartbeats 1000000 in
theorem match2_upTo (A : Option Addr) (cap : Nat) (a p : Ar) (v : Val) (w : World) (htab : Tab w) (h : ArgsIn w A 2 cap [a, p]) (hv : a.x.l[0]? = some v) (hvr : v.right) (h0 : v.kind ≠ 0) (h4 : v.kind ≠ 4)
    (hl : p.x.R ≤ 1 ∨ p.x.C ≤ 1) :
    Calls Tryz.prog 69 #[.slice A 2 cap] w fun e w' => ResA w (placeO (upToN p.x.l v)) e w' := by
  obtain ⟨b, off, rfl, hbl, ⟨u0, u1, u2⟩, ⟨v0, v1, v2⟩, ha, hp⟩ := args2 h
  have hcap := h.cap
  have hso := fun W (hT : Tab W) (hW : ArrIn W a.A a.n a.cap a.x.l) => sought_any a.x.R a.x.C a.A a.n a.cap a.x.l W hT hW v hv
  rw [soughtO_self h0 h4] at hso
  have hf := fun W (hW : ArrIn W p.A p.n p.cap p.x.l) => upTo_any p.A p.n p.cap p.x.l v W hW hvr.ok
  have hrg := upToN_range p.x.l v
  have hlen : p.x.l.length ≤ 4096 := by
    have := rightA_nat.1 hp.right
    omega
  generalize upToN p.x.l v = t at *
  have hpa := hp.arr
  have haa := ha.arr
  have HT := Lib.hid htab
  obtain ⟨⟨R, C, l⟩, A1, n1, cap1⟩ := a
  obtain ⟨⟨R2, C2, l2⟩, A2, n2, cap2⟩ := p
  obtain ⟨vk, vm, ve, vt, vb, vf⟩ := v
  simp only at u0 u1 u2 v0 v1 v2 hso hf hpa haa hl hlen hrg
  clear h hv hvr h0 h4 ha hp htab
  have hz : ¬ (1 < R2 ∧ 1 < C2) := by omega
  by_cases ht : t < 0
  · have hx : placeO t = aloneO 6 := by unfold placeO; rw [if_pos ht]
    rw [hx]
    clear hx hrg
    go_enter Tryz.func69, Tryz.ntmps69
    go_wp2_with (first | (go_at_call 121; (with_reducible refine (hso _ (HT.out.ext (by with_reducible repeat (first | exact Ext.refl _ | apply Ext.drew | apply Ext.alloc | apply Ext.more_))) (haa.ext (by with_reducible repeat (first | exact Ext.refl _ | apply Ext.drew | apply Ext.alloc | apply Ext.more_)))).mono ?_); rintro e w' ⟨rfl, hb⟩; obtain ⟨os0, d0, rfl⟩ := hb.more; clear hb) | (go_at_call 123; (with_reducible refine (hf _ (hpa.ext (by with_reducible repeat (first | exact Ext.refl _ | apply Ext.drew | apply Ext.alloc | apply Ext.more_)))).mono ?_); rintro e w' ⟨rfl, hb⟩; obtain ⟨os, d, rfl⟩ := hb.more; clear hb) | (go_at_call 44; (with_reducible refine (alone_any _ _).mono ?_); rintro e w' ⟨D, m, cc, rfl, hD, hb⟩; obtain ⟨os5, d5, rfl⟩ := hb.more; clear hb; have hDr := hD.rd))
    all_goals exact bodyPost_ret (v := AV (aloneO 6).R (aloneO 6).C (.slice D m cc)) (by simp [results, Tryz.results69, go_sem]) rfl ⟨D, m, cc, rfl, ⟨(by (try simp only [more_more] at hDr); (try simp only [drew_more] at hDr); (try simp only [more_drew] at hDr); (try simp only [Array.append_assoc] at hDr); exact Rd.swap hDr (by first | (simp; done) | (simp; omega) | omega) (by first | (simp; done) | (simp; omega) | omega) (by first | (simp; done) | (simp; omega) | omega)), hD.len, hD.cap, hD.small, hD.ok⟩, by with_reducible repeat (first | exact Ext.refl _ | apply Ext.drew | apply Ext.alloc | apply Ext.more_)⟩
  · have hx : placeO t = oneA (cntV (t + 1)) := by unfold placeO; rw [if_neg ht]
    have hT15 : (t + 1).natAbs < T 15 := by have : T 15 = 1000000000000000 := (by decide); omega
    have hc := fun W (hW : Tab W) => fcount_any (t + 1) W hW hT15
    have hcr := cnt_right hT15
    have hw1 : IntKind.i64.wrap (t + 1) = t + 1 := by rw [IntKind.wrap_i64]; omega
    have hon := fun W => one_res (cntV (t + 1)) W hcr.ok hcr
    rw [hx]
    clear hx hrg hT15 hcr
    generalize cntV (t + 1) = y at *
    go_enter Tryz.func69, Tryz.ntmps69
    go_wp2_with (first | (go_at_call 121; (with_reducible refine (hso _ (HT.out.ext (by with_reducible repeat (first | exact Ext.refl _ | apply Ext.drew | apply Ext.alloc | apply Ext.more_))) (haa.ext (by with_reducible repeat (first | exact Ext.refl _ | apply Ext.drew | apply Ext.alloc | apply Ext.more_)))).mono ?_); rintro e w' ⟨rfl, hb⟩; obtain ⟨os0, d0, rfl⟩ := hb.more; clear hb) | (go_at_call 123; (with_reducible refine (hf _ (hpa.ext (by with_reducible repeat (first | exact Ext.refl _ | apply Ext.drew | apply Ext.alloc | apply Ext.more_)))).mono ?_); rintro e w' ⟨rfl, hb⟩; obtain ⟨os, d, rfl⟩ := hb.more; clear hb) | (go_at_call 125; (with_reducible refine (hc _ (HT.out.ext (by with_reducible repeat (first | exact Ext.refl _ | apply Ext.drew | apply Ext.alloc | apply Ext.more_)))).mono ?_); rintro e w' ⟨rfl, hb⟩; obtain ⟨os4, d4, rfl⟩ := hb.more; clear hb) | (go_at_call 73; (with_reducible refine (hon _).mono ?_); rintro e w' ⟨D, m, cc, rfl, hD, hb⟩; obtain ⟨os5, d5, rfl⟩ := hb.more; clear hb; have hDr := hD.rd))
    all_goals exact bodyPost_ret (v := AV (oneA y).R (oneA y).C (.slice D m cc)) (by simp [results, Tryz.results69, go_sem]) rfl ⟨D, m, cc, rfl, ⟨(by (try simp only [more_more] at hDr); (try simp only [drew_more] at hDr); (try simp only [more_drew] at hDr); (try simp only [Array.append_assoc] at hDr); exact Rd.swap hDr (by first | (simp; done) | (simp; omega) | omega) (by first | (simp; done) | (simp; omega) | omega) (by first | (simp; done) | (simp; omega) | omega)), hD.len, hD.cap, hD.small, hD.ok⟩, by with_reducible repeat (first | exact Ext.refl _ | apply Ext.drew | apply Ext.alloc | apply Ext.more_)⟩
end Go.Proofs.YteigcfflljoioaaGreatDoor
namespace Go.Proofs.YteigcfflljoioaaGreatDoor
open Go.RowKit NM
set_option maxHeartbeats 1000000 in
theorem lookup_col (A : Option Addr) (cap : Nat) (a p q : Ar) (v : Val) (w : World) (htab : Tab w) (h : ArgsIn w A 3 cap [a, p, q]) (hv : a.x.l[0]? = some v) (hvr : v.right) (h0 : v.kind ≠ 0) (h4 : v.kind ≠ 4)
    (hl : p.x.C = 1) (hl2 : q.x.R = p.x.l.length) :
    Calls Tryz.prog 70 #[.slice A 3 cap] w fun e w' => ResA w (if justN p.x.l v < 0 then aloneO 6 else partA q.x (justN p.x.l v).toNat 0 1 q.x.C) e w' := by
  obtain ⟨b, off, rfl, hbl, ⟨u0, u1, u2⟩, ⟨v0, v1, v2⟩, ⟨t0, t1, t2⟩, ha, hp, hq⟩ := args3 h
  have hcap := h.cap
  have hso := fun W (hT : Tab W) (hW : ArrIn W a.A a.n a.cap a.x.l) => sought_any a.x.R a.x.C a.A a.n a.cap a.x.l W hT hW v hv
  rw [soughtO_self h0 h4] at hso
  have hf := fun W (hW : ArrIn W p.A p.n p.cap p.x.l) => just_any p.A p.n p.cap p.x.l v W hW hvr.ok
  have hrg := justN_range p.x.l v
  have hpl : p.x.l.length = p.n := hp.arr.len
  have hqR := rightA_nat.1 hq.right
  have hpa := hp.arr
  have haa := ha.arr
  have hqa := hq.arr
  have HT := Lib.hid htab
  by_cases ht : justN p.x.l v < 0
  · rw [if_pos ht]
    generalize justN p.x.l v = t at *
    obtain ⟨⟨R, C, l⟩, A1, n1, cap1⟩ := a
    obtain ⟨⟨R2, C2, l2⟩, A2, n2, cap2⟩ := p
    obtain ⟨⟨R3, C3, l3⟩, A3, n3, cap3⟩ := q
    obtain ⟨vk, vm, ve, vt, vb, vf⟩ := v
    simp only at u0 u1 u2 v0 v1 v2 t0 t1 t2 hso hf hpa haa hqa hl hl2 hrg hpl
    clear h hv hvr h0 h4 ha hp hq htab hrg hqR
    rw [hpl] at hl2; subst hl hl2
    go_enter Tryz.func70, Tryz.ntmps70
    go_upto_region 9 with (go_at_call 121; (with_reducible refine (hso _ (HT.out.ext (by with_reducible repeat (first | exact Ext.refl _ | apply Ext.drew | apply Ext.alloc | apply Ext.more_))) (haa.ext (by with_reducible repeat (first | exact Ext.refl _ | apply Ext.drew | apply Ext.alloc | apply Ext.more_)))).mono ?_); rintro e w' ⟨rfl, hb⟩; obtain ⟨os0, d0, rfl⟩ := hb.more; clear hb)
    go_region
    all_goals go_wp2_with (first | (go_at_call 122; (with_reducible refine (hf _ (hpa.ext (by with_reducible repeat (first | exact Ext.refl _ | apply Ext.drew | apply Ext.alloc | apply Ext.more_)))).mono ?_); rintro e w' ⟨rfl, hb⟩; obtain ⟨os, d, rfl⟩ := hb.more; clear hb) | (go_at_call 44; (with_reducible refine (alone_any _ _).mono ?_); rintro e w' ⟨D, m, cc, rfl, hD, hb⟩; obtain ⟨os5, d5, rfl⟩ := hb.more; clear hb; have hDr := hD.rd))
    all_goals exact bodyPost_ret (v := AV (aloneO 6).R (aloneO 6).C (.slice D m cc)) (by simp [results, Tryz.results70, go_sem]) rfl ⟨D, m, cc, rfl, ⟨(by (try simp only [more_more] at hDr); (try simp only [drew_more] at hDr); (try simp only [more_drew] at hDr); (try simp only [Array.append_assoc] at hDr); exact Rd.swap hDr (by first | (simp; done) | (simp; omega) | omega) (by first | (simp; done) | (simp; omega) | omega) (by first | (simp; done) | (simp; omega) | omega)), hD.len, hD.cap, hD.small, hD.ok⟩, by with_reducible repeat (first | exact Ext.refl _ | apply Ext.drew | apply Ext.alloc | apply Ext.more_)⟩
  · rw [if_neg ht]
    have hpt := fun W (hW : ArrIn W q.A q.n q.cap q.x.l) => fpart_any q.x (justN p.x.l v).toNat 0 1 q.x.C q.A q.n q.cap W hW hq.right (by omega) (by omega) (by omega) (by omega)
    have hti : ((justN p.x.l v).toNat : Int) = justN p.x.l v := by omega
    rw [hti] at hpt
    generalize partA q.x (justN p.x.l v).toNat 0 1 q.x.C = X at *
    generalize justN p.x.l v = t at *
    obtain ⟨⟨R, C, l⟩, A1, n1, cap1⟩ := a
    obtain ⟨⟨R2, C2, l2⟩, A2, n2, cap2⟩ := p
    obtain ⟨⟨R3, C3, l3⟩, A3, n3, cap3⟩ := q
    obtain ⟨vk, vm, ve, vt, vb, vf⟩ := v
    simp only [show ((1 : Nat) : Int) = 1 from rfl, show ((0 : Nat) : Int) = 0 from rfl] at u0 u1 u2 v0 v1 v2 t0 t1 t2 hso hf hpa haa hqa hl hl2 hpt hpl
    clear h hv hvr h0 h4 ha hp hq htab hrg hti hqR
    rw [hpl] at hl2; subst hl hl2
    go_enter Tryz.func70, Tryz.ntmps70
    go_upto_region 9 with (go_at_call 121; (with_reducible refine (hso _ (HT.out.ext (by with_reducible repeat (first | exact Ext.refl _ | apply Ext.drew | apply Ext.alloc | apply Ext.more_))) (haa.ext (by with_reducible repeat (first | exact Ext.refl _ | apply Ext.drew | apply Ext.alloc | apply Ext.more_)))).mono ?_); rintro e w' ⟨rfl, hb⟩; obtain ⟨os0, d0, rfl⟩ := hb.more; clear hb)
    go_region
    all_goals go_wp2_with (first | (go_at_call 122; (with_reducible refine (hf _ (hpa.ext (by with_reducible repeat (first | exact Ext.refl _ | apply Ext.drew | apply Ext.alloc | apply Ext.more_)))).mono ?_); rintro e w' ⟨rfl, hb⟩; obtain ⟨os, d, rfl⟩ := hb.more; clear hb) | (go_at_call 120; (with_reducible refine (hpt _ (hqa.ext (by with_reducible repeat (first | exact Ext.refl _ | apply Ext.drew | apply Ext.alloc | apply Ext.more_)))).mono ?_); rintro e w' ⟨D, m, cc, rfl, hD, hb⟩; obtain ⟨os5, d5, rfl⟩ := hb.more; clear hb; have hDr := hD.rd))
    all_goals exact bodyPost_ret (v := AV X.R X.C (.slice D m cc)) (by simp [results, Tryz.results70, go_sem]) rfl ⟨D, m, cc, rfl, ⟨(by (try simp only [more_more] at hDr); (try simp only [drew_more] at hDr); (try simp only [more_drew] at hDr); (try simp only [Array.append_assoc] at hDr); exact Rd.swap hDr (by first | (simp; done) | (simp; omega) | omega) (by first | (simp; done) | (simp; omega) | omega) (by first | (simp; done) | (simp; omega) | omega)), hD.len, hD.cap, hD.small, hD.ok⟩, by with_reducible repeat (first | exact Ext.refl _ | apply Ext.drew | apply Ext.alloc | apply Ext.more_)⟩
set_option maxHeartbeats 1000000 in
theorem lookup_row (A : Option Addr) (cap : Nat) (a p q : Ar) (v : Val) (w : World) (htab : Tab w) (h : ArgsIn w A 3 cap [a, p, q]) (hv : a.x.l[0]? = some v) (hvr : v.right) (h0 : v.kind ≠ 0) (h4 : v.kind ≠ 4)
    (hl : p.x.C ≠ 1 ∧ p.x.R ≤ 1) (hl2 : q.x.C = p.x.l.length) :
    Calls Tryz.prog 70 #[.slice A 3 cap] w fun e w' => ResA w (if justN p.x.l v < 0 then aloneO 6 else partA q.x 0 (justN p.x.l v).toNat q.x.R 1) e w' := by
  obtain ⟨b, off, rfl, hbl, ⟨u0, u1, u2⟩, ⟨v0, v1, v2⟩, ⟨t0, t1, t2⟩, ha, hp, hq⟩ := args3 h
  have hcap := h.cap
  have hso := fun W (hT : Tab W) (hW : ArrIn W a.A a.n a.cap a.x.l) => sought_any a.x.R a.x.C a.A a.n a.cap a.x.l W hT hW v hv
  rw [soughtO_self h0 h4] at hso
  have hf := fun W (hW : ArrIn W p.A p.n p.cap p.x.l) => just_any p.A p.n p.cap p.x.l v W hW hvr.ok
  have hrg := justN_range p.x.l v
  have hpl : p.x.l.length = p.n := hp.arr.len
  have hqR := rightA_nat.1 hq.right
  have hpa := hp.arr
  have haa := ha.arr
  have hqa := hq.arr
  have HT := Lib.hid htab
  by_cases ht : justN p.x.l v < 0
  · rw [if_pos ht]
    generalize justN p.x.l v = t at *
    obtain ⟨⟨R, C, l⟩, A1, n1, cap1⟩ := a
    obtain ⟨⟨R2, C2, l2⟩, A2, n2, cap2⟩ := p
    obtain ⟨⟨R3, C3, l3⟩, A3, n3, cap3⟩ := q
    obtain ⟨vk, vm, ve, vt, vb, vf⟩ := v
    simp only at u0 u1 u2 v0 v1 v2 t0 t1 t2 hso hf hpa haa hqa hl hl2 hrg hpl
    clear h hv hvr h0 h4 ha hp hq htab hrg hqR
    rw [hpl] at hl2; subst hl2; have hn1 : ((C2 : Int) == 1) = false := by (simp; omega)
    go_enter Tryz.func70, Tryz.ntmps70
    go_upto_region 9 with (go_at_call 121; (with_reducible refine (hso _ (HT.out.ext (by with_reducible repeat (first | exact Ext.refl _ | apply Ext.drew | apply Ext.alloc | apply Ext.more_))) (haa.ext (by with_reducible repeat (first | exact Ext.refl _ | apply Ext.drew | apply Ext.alloc | apply Ext.more_)))).mono ?_); rintro e w' ⟨rfl, hb⟩; obtain ⟨os0, d0, rfl⟩ := hb.more; clear hb)
    go_region
    all_goals go_wp2_with (first | (go_at_call 122; (with_reducible refine (hf _ (hpa.ext (by with_reducible repeat (first | exact Ext.refl _ | apply Ext.drew | apply Ext.alloc | apply Ext.more_)))).mono ?_); rintro e w' ⟨rfl, hb⟩; obtain ⟨os, d, rfl⟩ := hb.more; clear hb) | (go_at_call 44; (with_reducible refine (alone_any _ _).mono ?_); rintro e w' ⟨D, m, cc, rfl, hD, hb⟩; obtain ⟨os5, d5, rfl⟩ := hb.more; clear hb; have hDr := hD.rd))
    all_goals exact bodyPost_ret (v := AV (aloneO 6).R (aloneO 6).C (.slice D m cc)) (by simp [results, Tryz.results70, go_sem]) rfl ⟨D, m, cc, rfl, ⟨(by (try simp only [more_more] at hDr); (try simp only [drew_more] at hDr); (try simp only [more_drew] at hDr); (try simp only [Array.append_assoc] at hDr); exact Rd.swap hDr (by first | (simp; done) | (simp; omega) | omega) (by first | (simp; done) | (simp; omega) | omega) (by first | (simp; done) | (simp; omega) | omega)), hD.len, hD.cap, hD.small, hD.ok⟩, by with_reducible repeat (first | exact Ext.refl _ | apply Ext.drew | apply Ext.alloc | apply Ext.more_)⟩
  · rw [if_neg ht]
    have hpt := fun W (hW : ArrIn W q.A q.n q.cap q.x.l) => fpart_any q.x 0 (justN p.x.l v).toNat q.x.R 1 q.A q.n q.cap W hW hq.right (by omega) (by omega) (by omega) (by omega)
    have hti : ((justN p.x.l v).toNat : Int) = justN p.x.l v := by omega
    rw [hti] at hpt
    generalize partA q.x 0 (justN p.x.l v).toNat q.x.R 1 = X at *
    generalize justN p.x.l v = t at *
    obtain ⟨⟨R, C, l⟩, A1, n1, cap1⟩ := a
    obtain ⟨⟨R2, C2, l2⟩, A2, n2, cap2⟩ := p
    obtain ⟨⟨R3, C3, l3⟩, A3, n3, cap3⟩ := q
    obtain ⟨vk, vm, ve, vt, vb, vf⟩ := v
    simp only [show ((1 : Nat) : Int) = 1 from rfl, show ((0 : Nat) : Int) = 0 from rfl] at u0 u1 u2 v0 v1 v2 t0 t1 t2 hso hf hpa haa hqa hl hl2 hpt hpl
    clear h hv hvr h0 h4 ha hp hq htab hrg hti hqR
    rw [hpl] at hl2; subst hl2; have hn1 : ((C2 : Int) == 1) = false := by (simp; omega)
    go_enter Tryz.func70, Tryz.ntmps70
    go_upto_region 9 with (go_at_call 121; (with_reducible refine (hso _ (HT.out.ext (by with_reducible repeat (first | exact Ext.refl _ | apply Ext.drew | apply Ext.alloc | apply Ext.more_))) (haa.ext (by with_reducible repeat (first | exact Ext.refl _ | apply Ext.drew | apply Ext.alloc | apply Ext.more_)))).mono ?_); rintro e w' ⟨rfl, hb⟩; obtain ⟨os0, d0, rfl⟩ := hb.more; clear hb)
    go_region
    all_goals go_wp2_with (first | (go_at_call 122; (with_reducible refine (hf _ (hpa.ext (by with_reducible repeat (first | exact Ext.refl _ | apply Ext.drew | apply Ext.alloc | apply Ext.more_)))).mono ?_); rintro e w' ⟨rfl, hb⟩; obtain ⟨os, d, rfl⟩ := hb.more; clear hb) | (go_at_call 120; (with_reducible refine (hpt _ (hqa.ext (by with_reducible repeat (first | exact Ext.refl _ | apply Ext.drew | apply Ext.alloc | apply Ext.more_)))).mono ?_); rintro e w' ⟨D, m, cc, rfl, hD, hb⟩; obtain ⟨os5, d5, rfl⟩ := hb.more; clear hb; have hDr := hD.rd))
    all_goals exact bodyPost_ret (v := AV X.R X.C (.slice D m cc)) (by simp [results, Tryz.results70, go_sem]) rfl ⟨D, m, cc, rfl, ⟨(by (try simp only [more_more] at hDr); (try simp only [drew_more] at hDr); (try simp only [more_drew] at hDr); (try simp only [Array.append_assoc] at hDr); exact Rd.swap hDr (by first | (simp; done) | (simp; omega) | omega) (by first | (simp; done) | (simp; omega) | omega) (by first | (simp; done) | (simp; omega) | omega)), hD.len, hD.cap, hD.small, hD.ok⟩, by with_reducible repeat (first | exact Ext.refl _ | apply Ext.drew | apply Ext.alloc | apply Ext.more_)⟩
end Go.Proofs.YteigcfflljoioaaGreatDoor
namespace Go.Proofs.YteigcfflljoioaaGreatDoor
open Go.RowKit NM
theorem sgI_flip (a b : Int) : sgI b a = - sgI a b := by
  unfold sgI
  by_cases h : a < b
  · rw [if_pos h, if_neg (by omega), if_pos h]; rfl
  · rw [if_neg h]
    by_cases h' : b < a
    · rw [if_pos h', if_neg h, if_pos h']
    · rw [if_neg h', if_neg h, if_neg h']; rfl
theorem sgB_flip (a b : Bool) : sgB b a = - sgB a b := by cases a <;> cases b <;> rfl
theorem cmpT_flip (a b : ByteArray) : cmpT b a = - cmpT a b := cb_flip _ _
theorem cmpK_same {a b : Val} (h : a.kind = b.kind) : cmpK a b = if a.kind = 1 then cmpS a.mant a.exp b.mant b.exp else if a.kind = 2 then cmpT a.text b.text else if a.kind = 3 then sgB a.truth b.truth else if a.kind = 4 then sgI a.fault b.fault else 0 := by
  unfold cmpK
  rw [if_neg (fun h' => h' h)]
theorem cmpK_flip (a b : Val) : cmpK b a = - cmpK a b := by
  by_cases h : a.kind = b.kind
  · rw [cmpK_same h, cmpK_same h.symm, ← h]
    by_cases h1 : a.kind = 1
    · rw [if_pos h1, if_pos h1]; exact cmp_flip _ _ _ _
    · rw [if_neg h1, if_neg h1]
      by_cases h2 : a.kind = 2
      · rw [if_pos h2, if_pos h2]; exact cmpT_flip _ _
      · rw [if_neg h2, if_neg h2]
        by_cases h3 : a.kind = 3
        · rw [if_pos h3, if_pos h3]; exact sgB_flip _ _
        · rw [if_neg h3, if_neg h3]
          by_cases h4 : a.kind = 4
          · rw [if_pos h4, if_pos h4]; exact sgI_flip _ _
          · rw [if_neg h4, if_neg h4]; rfl
  · unfold cmpK
    rw [if_pos (fun h' => h h'.symm), if_pos h]
    by_cases h2 : a.kind < b.kind
    · rw [if_pos h2, if_neg (by omega)]; rfl
    · rw [if_neg h2, if_pos (by omega)]
theorem cmpV_flip (a b : Val) : cmpV b a = - cmpV a b := cmpK_flip _ _
def Tri (n : Int) : Prop := n = -1 ∨ n = 0 ∨ n = 1
theorem sgI_tri (a b : Int) : Tri (sgI a b) := by
  unfold sgI Tri; split
  · exact Or.inl rfl
  · split
    · exact Or.inr (Or.inr rfl)
    · exact Or.inr (Or.inl rfl)
theorem cmpS_tri (a b c d : Int) : Tri (cmpS a b c d) := by
  have := cmp_bd a b c d
  unfold Tri; omega
theorem cmpK_tri (a b : Val) : Tri (cmpK a b) := by
  by_cases h : a.kind = b.kind
  · rw [cmpK_same h]
    by_cases h1 : a.kind = 1
    · rw [if_pos h1]; exact cmpS_tri _ _ _ _
    · rw [if_neg h1]
      by_cases h2 : a.kind = 2
      · rw [if_pos h2]; exact cb_vals _ _
      · rw [if_neg h2]
        by_cases h3 : a.kind = 3
        · rw [if_pos h3]
          cases a.truth <;> cases b.truth <;> (unfold Tri sgB; simp)
        · rw [if_neg h3]
          by_cases h4 : a.kind = 4
          · rw [if_pos h4]; exact sgI_tri _ _
          · rw [if_neg h4]; exact Or.inr (Or.inl rfl)
  · unfold cmpK
    rw [if_pos h]
    split
    · exact Or.inl rfl
    · exact Or.inr (Or.inr rfl)
theorem cmpV_tri (a b : Val) : Tri (cmpV a b) := cmpK_tri _ _
end Go.Proofs.YteigcfflljoioaaGreatDoor
namespace Go.Proofs.YteigcfflljoioaaGreatDoor
open Go.RowKit NM
theorem floor_self {m e : Int} (h : Rt m e) (he : 0 ≤ e) : floorS m e = (m, e) := by
  unfold floorS
  rw [if_neg (fun h' => h' h), if_pos he]
theorem int_whole {n : Int} (h : n.natAbs < T 15) : intS (wholeN n).1 (wholeN n).2 = some n := by
  obtain ⟨h1, h2, h3, h4, h5⟩ := wholex h
  generalize wholeN n = p at *
  obtain ⟨m, e⟩ := p
  simp only at *
  have hH := HX_pos
  have hq : m * (T e.toNat : Nat) = n := by
    rw [sc_whole h5, sc_whole (m := n) (e := 0) (by omega)] at h3
    have h6 := Int.eq_of_mul_eq_mul_right (by omega) h3
    rw [h6]
    show n * ((T 0 : Nat) : Int) = n
    simp [T]
  have hT15 : T 15 = 1000000000000000 := by decide
  rw [hT15] at h
  unfold intS
  rw [if_neg (by rintro (h | h); exact h h2; omega), int_go _ _ (by rw [hq]; omega), hq]
theorem whole_cnt {n : Int} (h : n.natAbs < T 15) : wholeO (cntV n) = (n, 0) := by
  obtain ⟨h1, h2, h3, h4, h5⟩ := wholex h
  have hi := int_whole h
  have h6 : tnF (cntV n) = 0 := rfl
  have h7 : tnP (cntV n) = ((wholeN n).1, (wholeN n).2) := rfl
  unfold wholeO
  rw [if_pos h6, h7]
  simp only
  rw [floor_self h2 h5]
  simp only
  rw [hi]
  rfl
/-- The first place, from k on; that behind the list: there is none. -/
def fromN (p : Val → Bool) : List Val → Nat → Nat
  | [], k => k
  | x :: l, k => if p x then k else fromN p l (k + 1)
theorem fromN_at {p : Val → Bool} {l : List Val} {k : Nat} {v : Val} (h : l[k]? = some v) : fromN p (l.drop k) k = if p v then k else fromN p (l.drop (k + 1)) (k + 1) := by
  obtain ⟨hk, rfl⟩ := List.getElem?_eq_some_iff.1 h
  rw [List.drop_eq_getElem_cons hk]; rfl
theorem fromN_range (p : Val → Bool) : ∀ (l : List Val) (k : Nat), k ≤ fromN p l k ∧ fromN p l k ≤ k + l.length
  | [], k => ⟨Nat.le_refl _, by simp [fromN]⟩
  | x :: l, k => by
    unfold fromN
    have := fromN_range p l (k + 1)
    simp only [List.length_cons]
    split <;> omega
theorem cmpV_le_trans {a b c : Val} (ha : a.right) (hb : b.right) (hc : c.right) (h1 : a.kind = b.kind) (h2 : b.kind = c.kind) (hab : cmpV a b ≤ 0) (hbc : cmpV b c ≤ 0) : cmpV a c ≤ 0 := by
  rw [cmpV_same h1] at hab
  rw [cmpV_same h2] at hbc
  rw [cmpV_same (h1.trans h2)]
  rw [cmpK_same h1] at hab
  rw [cmpK_same h2] at hbc
  rw [cmpK_same (h1.trans h2)]
  rw [← h1] at hbc
  by_cases k1 : a.kind = 1
  · rw [if_pos k1] at hab hbc ⊢
    have ra := ha.rt k1
    have rb := hb.rt (by omega)
    have rc := hc.rt (by omega)
    rw [cmp_le ra rb] at hab
    rw [cmp_le rb rc] at hbc
    rw [cmp_le ra rc]; omega
  · rw [if_neg k1] at hab hbc ⊢
    by_cases k2 : a.kind = 2
    · rw [if_pos k2] at hab hbc ⊢
      exact cb_trans hab hbc
    · rw [if_neg k2] at hab hbc ⊢
      by_cases k3 : a.kind = 3
      · rw [if_pos k3] at hab hbc ⊢
        revert hab hbc
        cases a.truth <;> cases b.truth <;> cases c.truth <;> decide
      · rw [if_neg k3] at hab hbc ⊢
        by_cases k4 : a.kind = 4
        · rw [if_pos k4] at hab hbc ⊢
          unfold sgI at *
          (repeat' split at hab) <;> (repeat' split at hbc) <;> (repeat' split) <;> omega
        · rw [if_neg k4]; omega
/-- A list that rises, of values of one kind that may be. -/
def Rising (l : List Val) : Prop := ∀ i x y, l[i]? = some x → l[i + 1]? = some y → cmpV x y ≤ 0
theorem Rising.le {l : List Val} (h : Rising l) {k : Int} (hk : ∀ x ∈ l, x.kind = k) (hr : ∀ x ∈ l, x.right) : ∀ (n i : Nat) (x y : Val), l[i]? = some x → l[i + n]? = some y → cmpV x y ≤ 0
  | 0, i, x, y, hx, hy => by
    rw [Nat.add_zero, hx] at hy
    obtain rfl : x = y := by simpa using hy
    have := cmpV_flip x x
    omega
  | n + 1, i, x, y, hx, hy => by
    have hy' : l[i + 1 + n]? = some y := by rw [← hy]; congr 1; omega
    have hl : i + 1 < l.length := by
      have := (List.getElem?_eq_some_iff.1 hy).1; omega
    have hz := List.getElem?_eq_getElem hl
    have h1 := h i x _ hx hz
    have h2 := Rising.le h hk hr n (i + 1) _ y hz hy'
    have mx := List.mem_of_getElem? hx
    have my := List.mem_of_getElem? hy
    have mz := List.mem_of_getElem? hz
    exact cmpV_le_trans (hr _ mx) (hr _ mz) (hr _ my) (by rw [hk _ mx, hk _ mz]) (by rw [hk _ mz, hk _ my]) h1 h2
theorem fromN_yes (p : Val → Bool) : ∀ (l : List Val) (k : Nat), fromN p l k < k + l.length → ∃ x, l[fromN p l k - k]? = some x ∧ p x = true
  | [], k, h => by simp [fromN] at h
  | x :: l, k, h => by
    by_cases hp : p x = true
    · have e : fromN p (x :: l) k = k := by unfold fromN; rw [if_pos hp]
      rw [e, Nat.sub_self]; exact ⟨x, rfl, hp⟩
    · have e : fromN p (x :: l) k = fromN p l (k + 1) := by conv => lhs; unfold fromN
                                                            rw [if_neg hp]
      rw [e] at h ⊢
      have := (fromN_range p l (k + 1)).1
      obtain ⟨y, hy, hpy⟩ := fromN_yes p l (k + 1) (by simp only [List.length_cons] at h; omega)
      refine ⟨y, ?_, hpy⟩
      rw [show fromN p l (k + 1) - k = (fromN p l (k + 1) - (k + 1)) + 1 by omega, List.getElem?_cons_succ]; exact hy
theorem fromN_no (p : Val → Bool) : ∀ (l : List Val) (k i : Nat) (x : Val), l[i]? = some x → k + i < fromN p l k → p x = false
  | [], k, i, x, h, _ => by simp at h
  | y :: l, k, i, x, h, hi => by
    unfold fromN at hi
    by_cases hp : p y = true
    · rw [if_pos hp] at hi; omega
    · rw [if_neg hp] at hi
      cases i with
      | zero => obtain rfl : y = x := by simpa using h
                simpa using hp
      | succ i => exact fromN_no p l (k + 1) i x (by simpa using h) (by omega)
/-- The last place that counts is known by its rows. -/
theorem lastN_is (p : Val → Bool) : ∀ (l : List Val) (k : Nat) (a r : Int), (∀ i x, l[i]? = some x → p x = true → ((k + i : Nat) : Int) ≤ r) → (r = a ∧ (∀ x ∈ l, p x = false) ∨ ∃ i x, l[i]? = some x ∧ p x = true ∧ r = ((k + i : Nat) : Int)) → lastN p l k a = r
  | [], k, a, r, _, h => by
    unfold lastN
    rcases h with ⟨h, _⟩ | ⟨i, x, h, _⟩
    · exact h.symm
    · simp at h
  | y :: l, k, a, r, hle, h => by
    unfold lastN
    refine lastN_is p l (k + 1) _ r (fun i x hx hp => by have := hle (i + 1) x (by simpa using hx) hp; rw [show k + 1 + i = k + (i + 1) by omega]; exact this) ?_
    rcases h with ⟨h, hn⟩ | ⟨i, x, hx, hp, hr⟩
    · left
      rw [if_neg (by simp [hn y (by simp)])]
      exact ⟨h, fun x hx => hn x (List.mem_cons_of_mem _ hx)⟩
    · cases i with
      | zero =>
        obtain rfl : y = x := by simpa using hx
        left
        rw [if_pos hp]
        refine ⟨hr, fun x hx => ?_⟩
        obtain ⟨i, hi, rfl⟩ := List.mem_iff_getElem.1 hx
        have := hle (i + 1) l[i] (by simp [hi])
        cases hq : p l[i]
        · rfl
        · have := this hq; omega
      | succ i =>
        right
        exact ⟨i, x, by simpa using hx, hp, by rw [hr]; congr 1; omega⟩
theorem firstN_is (p : Val → Bool) : ∀ (l : List Val) (k : Nat) (r : Int), (∀ i x, l[i]? = some x → ((k + i : Nat) : Int) < r → p x = false) → (r = -1 ∧ (∀ x ∈ l, p x = false) ∨ ∃ i x, l[i]? = some x ∧ p x = true ∧ r = ((k + i : Nat) : Int)) → firstN p l k = r
  | [], k, r, _, h => by
    unfold firstN
    rcases h with ⟨h, _⟩ | ⟨i, x, h, _⟩
    · exact h.symm
    · simp at h
  | y :: l, k, r, hlt, h => by
    unfold firstN
    rcases h with ⟨h, hn⟩ | ⟨i, x, hx, hp, hr⟩
    · rw [if_neg (by simp [hn y (by simp)])]
      exact firstN_is p l (k + 1) r (fun i x hx hi => by omega) (Or.inl ⟨h, fun x hx => hn x (List.mem_cons_of_mem _ hx)⟩)
    · cases i with
      | zero =>
        obtain rfl : y = x := by simpa using hx
        rw [if_pos hp, hr]; rfl
      | succ i =>
        have hy : p y = false := hlt 0 y (by simp) (by rw [hr]; omega)
        rw [if_neg (by simp [hy])]
        exact firstN_is p l (k + 1) r (fun i x hx hi => hlt (i + 1) x (by simpa using hx) (by omega)) (Or.inr ⟨i, x, by simpa using hx, hp, by rw [hr]; congr 1; omega⟩)
def moreN (l : List Val) (v : Val) : Nat := fromN (fun x => decide (0 < cmpV x v)) l 0
def leastN (l : List Val) (v : Val) : Nat := fromN (fun x => decide (0 ≤ cmpV x v)) l 0
section
variable {l : List Val} {v : Val}
theorem upTo_sorted (h : Rising l) (hk : ∀ x ∈ l, x.kind = v.kind) (hr : ∀ x ∈ l, x.right) (hv : v.right) : upToN l v + 1 = (moreN l v : Int) := by
  have hrg := fromN_range (fun x => decide (0 < cmpV x v)) l 0
  have hno := fromN_no (fun x => decide (0 < cmpV x v)) l 0
  have hye := fromN_yes (fun x => decide (0 < cmpV x v)) l 0
  unfold moreN
  generalize fromN (fun x => decide (0 < cmpV x v)) l 0 = t at *
  have key : upToN l v = (t : Int) - 1 := by
    unfold upToN
    refine lastN_is _ l 0 (-1) _ ?_ ?_
    · intro i x hx hp
      have hmx := List.mem_of_getElem? hx
      have hc : cmpV x v ≤ 0 := by
        unfold stP at hp
        rw [hk x hmx] at hp
        simpa using hp
      by_cases hi : t ≤ i
      · exfalso
        have htl : t < l.length := by have := (List.getElem?_eq_some_iff.1 hx).1; omega
        obtain ⟨y, hy, hpy⟩ := hye (by omega)
        rw [Nat.sub_zero] at hy
        have hpy : 0 < cmpV y v := by simpa using hpy
        have hyx := Rising.le h hk hr (i - t) t y x hy (by rw [← hx]; congr 1; omega)
        have := cmpV_le_trans (hr _ (List.mem_of_getElem? hy)) (hr _ hmx) hv (by rw [hk _ (List.mem_of_getElem? hy), hk _ hmx]) (hk _ hmx) hyx hc
        omega
      · omega
    · by_cases ht : t = 0
      · left
        refine ⟨by omega, fun x hx => ?_⟩
        obtain ⟨i, hi, rfl⟩ := List.mem_iff_getElem.1 hx
        obtain ⟨y, hy, hpy⟩ := hye (by omega)
        rw [ht] at hy
        have hpy : 0 < cmpV y v := by simpa using hpy
        have hyx := Rising.le h hk hr i 0 y l[i] hy (by simp [hi])
        have hmx : l[i] ∈ l := List.getElem_mem hi
        unfold stP
        rw [hk _ hmx]
        simp only [decide_true, Bool.true_and, decide_eq_false_iff_not]
        intro hc
        have := cmpV_le_trans (hr _ (List.mem_of_getElem? hy)) (hr _ hmx) hv (by rw [hk _ (List.mem_of_getElem? hy), hk _ hmx]) (hk _ hmx) hyx hc
        omega
      · right
        have htl : t - 1 < l.length := by omega
        have hx := List.getElem?_eq_getElem htl
        have hmx : l[t - 1] ∈ l := List.getElem_mem htl
        refine ⟨t - 1, l[t - 1], hx, ?_, by omega⟩
        have := hno (t - 1) _ hx (by omega)
        unfold stP
        rw [hk _ hmx]
        simpa using this
  rw [key]; omega
theorem just_sorted (h : Rising l) (hk : ∀ x ∈ l, x.kind = v.kind) (hr : ∀ x ∈ l, x.right) (hv : v.right) : justN l v + 1 = ((if leastN l v < moreN l v then leastN l v + 1 else 0 : Nat) : Int) := by
  have hrg := fromN_range (fun x => decide (0 < cmpV x v)) l 0
  have hno := fromN_no (fun x => decide (0 < cmpV x v)) l 0
  have hye := fromN_yes (fun x => decide (0 < cmpV x v)) l 0
  have hrg2 := fromN_range (fun x => decide (0 ≤ cmpV x v)) l 0
  have hno2 := fromN_no (fun x => decide (0 ≤ cmpV x v)) l 0
  have hye2 := fromN_yes (fun x => decide (0 ≤ cmpV x v)) l 0
  unfold moreN leastN
  generalize fromN (fun x => decide (0 < cmpV x v)) l 0 = t at *
  generalize fromN (fun x => decide (0 ≤ cmpV x v)) l 0 = s at *
  have key : justN l v = if s < t then (s : Int) else -1 := by
    unfold justN
    by_cases hst : s < t
    · rw [if_pos hst]
      refine firstN_is _ l 0 _ ?_ (Or.inr ?_)
      · intro i x hx hi
        have := hno2 i x hx (by omega)
        have : ¬ 0 ≤ cmpV x v := by simpa using this
        unfold stP
        rw [hk _ (List.mem_of_getElem? hx)]
        simp; omega
      · obtain ⟨y, hy, hpy⟩ := hye2 (by omega)
        rw [Nat.sub_zero] at hy
        have hpy : 0 ≤ cmpV y v := by simpa using hpy
        have h2 := hno s y hy (by omega)
        have h2 : ¬ 0 < cmpV y v := by simpa using h2
        refine ⟨s, y, hy, ?_, by omega⟩
        unfold stP
        rw [hk _ (List.mem_of_getElem? hy)]
        simp; omega
    · rw [if_neg hst]
      refine firstN_is _ l 0 _ (fun i x hx hi => by omega) (Or.inl ⟨rfl, fun x hx => ?_⟩)
      obtain ⟨i, hi, rfl⟩ := List.mem_iff_getElem.1 hx
      have hx' := List.getElem?_eq_getElem hi
      unfold stP
      rw [hk _ hx]
      simp only [decide_true, Bool.true_and, decide_eq_false_iff_not]
      intro hc
      by_cases his : i < s
      · have := hno2 i _ hx' (by omega)
        have : ¬ 0 ≤ cmpV l[i] v := by simpa using this
        omega
      · have htl : t < l.length := by omega
        obtain ⟨y, hy, hpy⟩ := hye (by omega)
        rw [Nat.sub_zero] at hy
        have hpy : 0 < cmpV y v := by simpa using hpy
        have hyx := Rising.le h hk hr (i - t) t y l[i] hy (by rw [← hx']; congr 1; omega)
        have := cmpV_le_trans (hr _ (List.mem_of_getElem? hy)) (hr _ hx) hv (by rw [hk _ (List.mem_of_getElem? hy), hk _ hx]) (hk _ hx) hyx (by omega)
        omega
  rw [key]
  split <;> omega
end
end Go.Proofs.YteigcfflljoioaaGreatDoor
namespace Go.Proofs.YteigcfflljoioaaGreatDoor
open Go.RowKit NM
theorem rnumber_any (m e : Int) (w : World) :
    Calls Tryz.prog 36 #[NV m e] w fun r w' => r = .returned (VV 1 m e ⟨#[]⟩ false 0) ∧ Ext w w' := by
  go_enter Tryz.func36, Tryz.ntmps36
  go_wp2
  exact bodyPost_ret (v := VV 1 m e ⟨#[]⟩ false 0) (by simp [results, Tryz.results36, go_sem]) rfl ⟨rfl, by with_reducible repeat (first | exact Ext.refl _ | apply Ext.drew | apply Ext.alloc | apply Ext.more_)⟩
theorem i64_zero : I64 0 := by unfold I64; omega
theorem rsign_any (l m : Bool) (w : World) :
    Calls Tryz.prog 39 #[.bool l, .bool m] w fun e w' => e = .returned (.int .i64 (sgn2 l m)) ∧ Ext w w' := by
  cases l <;> cases m
  all_goals
    simp only [sgn2, if_true, Bool.false_eq_true, if_false]
    go_enter Tryz.func39, Tryz.ntmps39
    go_wp2_with fail
    go_ret
    exact ⟨rfl, by with_reducible repeat (first | exact Ext.refl _ | apply Ext.drew | apply Ext.alloc | apply Ext.more_)⟩
set_option maxHeartbeats 1000000 in
theorem rcmp00   (w : World) :
    Calls Tryz.prog 16 #[VV 0 0 0 ⟨#[]⟩ false 0, VV 0 0 0 ⟨#[]⟩ false 0] w fun e w' => e = .returned (.int .i64 (0)) ∧ Ext w w' := by
  have hs := fun W => rsign_any false false W
  rw [show sgn2 false false = 0 from rfl] at hs
  go_enter Tryz.func16, Tryz.ntmps16
  go_wp2_with ((go_at_call 39; (with_reducible refine (hs _).mono ?_); rintro e w' ⟨rfl, hb⟩; obtain ⟨os, d, rfl⟩ := hb.more; clear hb))
  go_ret
  exact ⟨rfl, by with_reducible repeat (first | exact Ext.refl _ | apply Ext.drew | apply Ext.alloc | apply Ext.more_)⟩
set_option maxHeartbeats 1000000 in
theorem rcmp01  (bm be : Int) (hbm : I64 bm) (w : World) :
    Calls Tryz.prog 16 #[VV 0 0 0 ⟨#[]⟩ false 0, VV 1 bm be ⟨#[]⟩ false 0] w fun e w' => e = .returned (.int .i64 (cmpS 0 0 bm be)) ∧ Ext w w' := by
  have hc := fun W => rcmp_any 0 0 bm be W i64_zero hbm
  generalize cmpS 0 0 bm be = z at *
  go_enter Tryz.func16, Tryz.ntmps16
  go_wp2_with ((go_at_call 41; (with_reducible refine (hc _).mono ?_); rintro e w' ⟨rfl, hb⟩; obtain ⟨os, d, rfl⟩ := hb.more; clear hb))
  go_ret
  exact ⟨rfl, by with_reducible repeat (first | exact Ext.refl _ | apply Ext.drew | apply Ext.alloc | apply Ext.more_)⟩
set_option maxHeartbeats 1000000 in
theorem rcmp02  (bt : ByteArray) (hbt : bt.size ≤ 255) (w : World) :
    Calls Tryz.prog 16 #[VV 0 0 0 ⟨#[]⟩ false 0, VV 2 0 0 bt false 0] w fun e w' => e = .returned (.int .i64 (cmpT (⟨#[]⟩) (bt))) ∧ Ext w w' := by
  have h1 := fun W => rfold_any (⟨#[]⟩ : ByteArray) W (Nat.zero_le _)
  have h2 := fun W => rfold_any bt W (by omega)
  unfold cmpT
  generalize foldB (⟨#[]⟩ : ByteArray) = X at *
  generalize foldB bt = Y at *
  have hs := fun W => rsign_any (Op.bytesLess X.toList Y.toList) (!Op.bytesLess X.toList Y.toList && !X.toList == Y.toList) W
  have he : sgn2 (Op.bytesLess X.toList Y.toList) (!Op.bytesLess X.toList Y.toList && !X.toList == Y.toList) = Lib.compareBytes (tl X) (tl Y) := by rw [ByteArray.toList_eq, ByteArray.toList_eq, ← Bool.not_or]; exact sgn2_cb _ _
  rw [he] at hs
  clear he
  generalize Lib.compareBytes (tl X) (tl Y) = z at *
  go_enter Tryz.func16, Tryz.ntmps16
  go_upto_region 10 with fail
  refine wp_plan (S := Ext _) [(0, 0), (1, 0), (3, 0), (4, 0), (2, 1), (5, 1), (6, 0), (7, 0)] [] (by kernel_rfl) (by kernel_rfl) (by kernel_rfl) (fun _ _ d _ _ h => by cases d <;> exact h) (Ext.drew (Ext.refl _)) ?_
  iterate 4 ((refine wpPl_read (v := ?_) rfl ?_ (fun _ h => ?_) ?_; rotate_left 1; rfl; (obtain ⟨_, _, rfl⟩ := h.more; go_simp; try rfl)); try simp only [Act.put, zqA, zqB, zqC])
  (refine wpPl_eff rfl ?_ (fun K hK => ?_); rfl; go_simp; refine (h1 _).mono ?_; rintro e w' ⟨rfl, hb⟩; obtain ⟨os1, d1, rfl⟩ := hb.more; clear hb; refine hK _ _ ?_ ?_; (repeat (first | (with_reducible (first | exact Ext.refl _ | exact ext_d _ _ _ _ | exact ext_app _ _ _ _ _ | exact ext_app2 _ _ _ _ _ _ | exact ext_app3 _ _ _ _ _ _ _ | exact ext_app4 _ _ _ _ _ _ _ _ | exact ext_app5 _ _ _ _ _ _ _ _ _)) | ((with_reducible refine ext_suffix ⟨_, ?_⟩); (try simp only [Array.append_assoc]); rfl) | (with_reducible (first | apply Ext.drew | apply Ext.alloc | apply Ext.more_)) | apply Ext.drew | apply Ext.alloc | apply Ext.more_)))
  try simp only [Act.put, zqA, zqB, zqC]
  (refine wpPl_eff rfl ?_ (fun K hK => ?_); rfl; go_simp; refine (h2 _).mono ?_; rintro e w' ⟨rfl, hb⟩; obtain ⟨os2, d2, rfl⟩ := hb.more; clear hb; refine hK _ _ ?_ ?_; (repeat (first | (with_reducible (first | exact Ext.refl _ | exact ext_d _ _ _ _ | exact ext_app _ _ _ _ _ | exact ext_app2 _ _ _ _ _ _ | exact ext_app3 _ _ _ _ _ _ _ | exact ext_app4 _ _ _ _ _ _ _ _ | exact ext_app5 _ _ _ _ _ _ _ _ _)) | ((with_reducible refine ext_suffix ⟨_, ?_⟩); (try simp only [Array.append_assoc]); rfl) | (with_reducible (first | apply Ext.drew | apply Ext.alloc | apply Ext.more_)) | apply Ext.drew | apply Ext.alloc | apply Ext.more_)))
  try simp only [Act.put, zqA, zqB, zqC]
  iterate 2 ((refine wpPl_read (v := ?_) rfl ?_ (fun _ h => ?_) ?_; rotate_left 1; rfl; (obtain ⟨_, _, rfl⟩ := h.more; go_simp; try rfl)); try simp only [Act.put, zqA, zqB, zqC])
  refine wpPl_nil ?_
  go_wp2_with (go_at_call 39; refine (hs _).mono ?_; rintro e w' ⟨rfl, hb⟩; obtain ⟨os, d, rfl⟩ := hb.more; clear hb)
  go_ret
  exact ⟨rfl, by with_reducible repeat (first | exact Ext.refl _ | apply Ext.drew | apply Ext.alloc | apply Ext.more_)⟩
set_option maxHeartbeats 1000000 in
theorem rcmp03  (bb : Bool) (w : World) :
    Calls Tryz.prog 16 #[VV 0 0 0 ⟨#[]⟩ false 0, VV 3 0 0 ⟨#[]⟩ bb 0] w fun e w' => e = .returned (.int .i64 (sgB false bb)) ∧ Ext w w' := by
  have hs := fun W => rsign_any (!false && bb) (false && !bb) W
  rw [sgn2_bool] at hs
  cases bb
  all_goals
    go_enter Tryz.func16, Tryz.ntmps16
    go_wp2_with ((go_at_call 39; refine (hs _).mono ?_; rintro e w' ⟨rfl, hb⟩; obtain ⟨os, d, rfl⟩ := hb.more; clear hb))
    go_ret
    exact ⟨rfl, by with_reducible repeat (first | exact Ext.refl _ | apply Ext.drew | apply Ext.alloc | apply Ext.more_)⟩
set_option maxHeartbeats 1000000 in
theorem rcmp04  (bf : Int) (w : World) :
    Calls Tryz.prog 16 #[VV 0 0 0 ⟨#[]⟩ false 0, VV 4 0 0 ⟨#[]⟩ false bf] w fun e w' => e = .returned (.int .i64 (-1)) ∧ Ext w w' := by
  have hs := fun l W => rsign_any l true W
  simp only [sgn2] at hs
  go_enter Tryz.func16, Tryz.ntmps16
  go_wp2_with ((go_at_call 39; (with_reducible refine (hs _ _).mono ?_); rintro e w' ⟨rfl, hb⟩; obtain ⟨os, d, rfl⟩ := hb.more; clear hb))
  go_ret
  exact ⟨rfl, by with_reducible repeat (first | exact Ext.refl _ | apply Ext.drew | apply Ext.alloc | apply Ext.more_)⟩
set_option maxHeartbeats 1000000 in
theorem rcmp10 (am ae : Int) (ham : I64 am)  (w : World) :
    Calls Tryz.prog 16 #[VV 1 am ae ⟨#[]⟩ false 0, VV 0 0 0 ⟨#[]⟩ false 0] w fun e w' => e = .returned (.int .i64 (cmpS am ae 0 0)) ∧ Ext w w' := by
  have hc := fun W => rcmp_any am ae 0 0 W ham i64_zero
  generalize cmpS am ae 0 0 = z at *
  go_enter Tryz.func16, Tryz.ntmps16
  go_wp2_with ((go_at_call 41; (with_reducible refine (hc _).mono ?_); rintro e w' ⟨rfl, hb⟩; obtain ⟨os, d, rfl⟩ := hb.more; clear hb))
  go_ret
  exact ⟨rfl, by with_reducible repeat (first | exact Ext.refl _ | apply Ext.drew | apply Ext.alloc | apply Ext.more_)⟩
set_option maxHeartbeats 1000000 in
theorem rcmp11 (am ae : Int) (ham : I64 am) (bm be : Int) (hbm : I64 bm) (w : World) :
    Calls Tryz.prog 16 #[VV 1 am ae ⟨#[]⟩ false 0, VV 1 bm be ⟨#[]⟩ false 0] w fun e w' => e = .returned (.int .i64 (cmpS am ae bm be)) ∧ Ext w w' := by
  have hc := fun W => rcmp_any am ae bm be W ham hbm
  generalize cmpS am ae bm be = z at *
  go_enter Tryz.func16, Tryz.ntmps16
  go_wp2_with ((go_at_call 41; (with_reducible refine (hc _).mono ?_); rintro e w' ⟨rfl, hb⟩; obtain ⟨os, d, rfl⟩ := hb.more; clear hb))
  go_ret
  exact ⟨rfl, by with_reducible repeat (first | exact Ext.refl _ | apply Ext.drew | apply Ext.alloc | apply Ext.more_)⟩
set_option maxHeartbeats 1000000 in
theorem rcmp12 (am ae : Int) (ham : I64 am) (bt : ByteArray) (hbt : bt.size ≤ 255) (w : World) :
    Calls Tryz.prog 16 #[VV 1 am ae ⟨#[]⟩ false 0, VV 2 0 0 bt false 0] w fun e w' => e = .returned (.int .i64 (-1)) ∧ Ext w w' := by
  have hs := fun l W => rsign_any l true W
  simp only [sgn2] at hs
  go_enter Tryz.func16, Tryz.ntmps16
  go_wp2_with ((go_at_call 39; (with_reducible refine (hs _ _).mono ?_); rintro e w' ⟨rfl, hb⟩; obtain ⟨os, d, rfl⟩ := hb.more; clear hb))
  go_ret
  exact ⟨rfl, by with_reducible repeat (first | exact Ext.refl _ | apply Ext.drew | apply Ext.alloc | apply Ext.more_)⟩
set_option maxHeartbeats 1000000 in
theorem rcmp13 (am ae : Int) (ham : I64 am) (bb : Bool) (w : World) :
    Calls Tryz.prog 16 #[VV 1 am ae ⟨#[]⟩ false 0, VV 3 0 0 ⟨#[]⟩ bb 0] w fun e w' => e = .returned (.int .i64 (-1)) ∧ Ext w w' := by
  have hs := fun l W => rsign_any l true W
  simp only [sgn2] at hs
  go_enter Tryz.func16, Tryz.ntmps16
  go_wp2_with ((go_at_call 39; (with_reducible refine (hs _ _).mono ?_); rintro e w' ⟨rfl, hb⟩; obtain ⟨os, d, rfl⟩ := hb.more; clear hb))
  go_ret
  exact ⟨rfl, by with_reducible repeat (first | exact Ext.refl _ | apply Ext.drew | apply Ext.alloc | apply Ext.more_)⟩
set_option maxHeartbeats 1000000 in
theorem rcmp14 (am ae : Int) (ham : I64 am) (bf : Int) (w : World) :
    Calls Tryz.prog 16 #[VV 1 am ae ⟨#[]⟩ false 0, VV 4 0 0 ⟨#[]⟩ false bf] w fun e w' => e = .returned (.int .i64 (-1)) ∧ Ext w w' := by
  have hs := fun l W => rsign_any l true W
  simp only [sgn2] at hs
  go_enter Tryz.func16, Tryz.ntmps16
  go_wp2_with ((go_at_call 39; (with_reducible refine (hs _ _).mono ?_); rintro e w' ⟨rfl, hb⟩; obtain ⟨os, d, rfl⟩ := hb.more; clear hb))
  go_ret
  exact ⟨rfl, by with_reducible repeat (first | exact Ext.refl _ | apply Ext.drew | apply Ext.alloc | apply Ext.more_)⟩
set_option maxHeartbeats 1000000 in
theorem rcmp20 (at_ : ByteArray) (hat : at_.size ≤ 255)  (w : World) :
    Calls Tryz.prog 16 #[VV 2 0 0 at_ false 0, VV 0 0 0 ⟨#[]⟩ false 0] w fun e w' => e = .returned (.int .i64 (cmpT (at_) (⟨#[]⟩))) ∧ Ext w w' := by
  have h1 := fun W => rfold_any at_ W (by omega)
  have h2 := fun W => rfold_any (⟨#[]⟩ : ByteArray) W (Nat.zero_le _)
  unfold cmpT
  generalize foldB at_ = X at *
  generalize foldB (⟨#[]⟩ : ByteArray) = Y at *
  have hs := fun W => rsign_any (Op.bytesLess X.toList Y.toList) (!Op.bytesLess X.toList Y.toList && !X.toList == Y.toList) W
  have he : sgn2 (Op.bytesLess X.toList Y.toList) (!Op.bytesLess X.toList Y.toList && !X.toList == Y.toList) = Lib.compareBytes (tl X) (tl Y) := by rw [ByteArray.toList_eq, ByteArray.toList_eq, ← Bool.not_or]; exact sgn2_cb _ _
  rw [he] at hs
  clear he
  generalize Lib.compareBytes (tl X) (tl Y) = z at *
  go_enter Tryz.func16, Tryz.ntmps16
  go_upto_region 10 with fail
  refine wp_plan (S := Ext _) [(0, 0), (1, 0), (3, 0), (4, 0), (2, 1), (5, 1), (6, 0), (7, 0)] [] (by kernel_rfl) (by kernel_rfl) (by kernel_rfl) (fun _ _ d _ _ h => by cases d <;> exact h) (Ext.drew (Ext.refl _)) ?_
  iterate 4 ((refine wpPl_read (v := ?_) rfl ?_ (fun _ h => ?_) ?_; rotate_left 1; rfl; (obtain ⟨_, _, rfl⟩ := h.more; go_simp; try rfl)); try simp only [Act.put, zqA, zqB, zqC])
  (refine wpPl_eff rfl ?_ (fun K hK => ?_); rfl; go_simp; refine (h1 _).mono ?_; rintro e w' ⟨rfl, hb⟩; obtain ⟨os1, d1, rfl⟩ := hb.more; clear hb; refine hK _ _ ?_ ?_; (repeat (first | (with_reducible (first | exact Ext.refl _ | exact ext_d _ _ _ _ | exact ext_app _ _ _ _ _ | exact ext_app2 _ _ _ _ _ _ | exact ext_app3 _ _ _ _ _ _ _ | exact ext_app4 _ _ _ _ _ _ _ _ | exact ext_app5 _ _ _ _ _ _ _ _ _)) | ((with_reducible refine ext_suffix ⟨_, ?_⟩); (try simp only [Array.append_assoc]); rfl) | (with_reducible (first | apply Ext.drew | apply Ext.alloc | apply Ext.more_)) | apply Ext.drew | apply Ext.alloc | apply Ext.more_)))
  try simp only [Act.put, zqA, zqB, zqC]
  (refine wpPl_eff rfl ?_ (fun K hK => ?_); rfl; go_simp; refine (h2 _).mono ?_; rintro e w' ⟨rfl, hb⟩; obtain ⟨os2, d2, rfl⟩ := hb.more; clear hb; refine hK _ _ ?_ ?_; (repeat (first | (with_reducible (first | exact Ext.refl _ | exact ext_d _ _ _ _ | exact ext_app _ _ _ _ _ | exact ext_app2 _ _ _ _ _ _ | exact ext_app3 _ _ _ _ _ _ _ | exact ext_app4 _ _ _ _ _ _ _ _ | exact ext_app5 _ _ _ _ _ _ _ _ _)) | ((with_reducible refine ext_suffix ⟨_, ?_⟩); (try simp only [Array.append_assoc]); rfl) | (with_reducible (first | apply Ext.drew | apply Ext.alloc | apply Ext.more_)) | apply Ext.drew | apply Ext.alloc | apply Ext.more_)))
  try simp only [Act.put, zqA, zqB, zqC]
  iterate 2 ((refine wpPl_read (v := ?_) rfl ?_ (fun _ h => ?_) ?_; rotate_left 1; rfl; (obtain ⟨_, _, rfl⟩ := h.more; go_simp; try rfl)); try simp only [Act.put, zqA, zqB, zqC])
  refine wpPl_nil ?_
  go_wp2_with (go_at_call 39; refine (hs _).mono ?_; rintro e w' ⟨rfl, hb⟩; obtain ⟨os, d, rfl⟩ := hb.more; clear hb)
  go_ret
  exact ⟨rfl, by with_reducible repeat (first | exact Ext.refl _ | apply Ext.drew | apply Ext.alloc | apply Ext.more_)⟩
set_option maxHeartbeats 1000000 in
theorem rcmp21 (at_ : ByteArray) (hat : at_.size ≤ 255) (bm be : Int) (hbm : I64 bm) (w : World) :
    Calls Tryz.prog 16 #[VV 2 0 0 at_ false 0, VV 1 bm be ⟨#[]⟩ false 0] w fun e w' => e = .returned (.int .i64 (1)) ∧ Ext w w' := by
  have hs := fun l W => rsign_any l true W
  simp only [sgn2] at hs
  go_enter Tryz.func16, Tryz.ntmps16
  go_wp2_with ((go_at_call 39; (with_reducible refine (hs _ _).mono ?_); rintro e w' ⟨rfl, hb⟩; obtain ⟨os, d, rfl⟩ := hb.more; clear hb))
  go_ret
  exact ⟨rfl, by with_reducible repeat (first | exact Ext.refl _ | apply Ext.drew | apply Ext.alloc | apply Ext.more_)⟩
set_option maxHeartbeats 1000000 in
theorem rcmp22 (at_ : ByteArray) (hat : at_.size ≤ 255) (bt : ByteArray) (hbt : bt.size ≤ 255) (w : World) :
    Calls Tryz.prog 16 #[VV 2 0 0 at_ false 0, VV 2 0 0 bt false 0] w fun e w' => e = .returned (.int .i64 (cmpT (at_) (bt))) ∧ Ext w w' := by
  have h1 := fun W => rfold_any at_ W (by omega)
  have h2 := fun W => rfold_any bt W (by omega)
  unfold cmpT
  generalize foldB at_ = X at *
  generalize foldB bt = Y at *
  have hs := fun W => rsign_any (Op.bytesLess X.toList Y.toList) (!Op.bytesLess X.toList Y.toList && !X.toList == Y.toList) W
  have he : sgn2 (Op.bytesLess X.toList Y.toList) (!Op.bytesLess X.toList Y.toList && !X.toList == Y.toList) = Lib.compareBytes (tl X) (tl Y) := by rw [ByteArray.toList_eq, ByteArray.toList_eq, ← Bool.not_or]; exact sgn2_cb _ _
  rw [he] at hs
  clear he
  generalize Lib.compareBytes (tl X) (tl Y) = z at *
  go_enter Tryz.func16, Tryz.ntmps16
  go_upto_region 10 with fail
  refine wp_plan (S := Ext _) [(0, 0), (1, 0), (3, 0), (4, 0), (2, 1), (5, 1), (6, 0), (7, 0)] [] (by kernel_rfl) (by kernel_rfl) (by kernel_rfl) (fun _ _ d _ _ h => by cases d <;> exact h) (Ext.drew (Ext.refl _)) ?_
  iterate 4 ((refine wpPl_read (v := ?_) rfl ?_ (fun _ h => ?_) ?_; rotate_left 1; rfl; (obtain ⟨_, _, rfl⟩ := h.more; go_simp; try rfl)); try simp only [Act.put, zqA, zqB, zqC])
  (refine wpPl_eff rfl ?_ (fun K hK => ?_); rfl; go_simp; refine (h1 _).mono ?_; rintro e w' ⟨rfl, hb⟩; obtain ⟨os1, d1, rfl⟩ := hb.more; clear hb; refine hK _ _ ?_ ?_; (repeat (first | (with_reducible (first | exact Ext.refl _ | exact ext_d _ _ _ _ | exact ext_app _ _ _ _ _ | exact ext_app2 _ _ _ _ _ _ | exact ext_app3 _ _ _ _ _ _ _ | exact ext_app4 _ _ _ _ _ _ _ _ | exact ext_app5 _ _ _ _ _ _ _ _ _)) | ((with_reducible refine ext_suffix ⟨_, ?_⟩); (try simp only [Array.append_assoc]); rfl) | (with_reducible (first | apply Ext.drew | apply Ext.alloc | apply Ext.more_)) | apply Ext.drew | apply Ext.alloc | apply Ext.more_)))
  try simp only [Act.put, zqA, zqB, zqC]
  (refine wpPl_eff rfl ?_ (fun K hK => ?_); rfl; go_simp; refine (h2 _).mono ?_; rintro e w' ⟨rfl, hb⟩; obtain ⟨os2, d2, rfl⟩ := hb.more; clear hb; refine hK _ _ ?_ ?_; (repeat (first | (with_reducible (first | exact Ext.refl _ | exact ext_d _ _ _ _ | exact ext_app _ _ _ _ _ | exact ext_app2 _ _ _ _ _ _ | exact ext_app3 _ _ _ _ _ _ _ | exact ext_app4 _ _ _ _ _ _ _ _ | exact ext_app5 _ _ _ _ _ _ _ _ _)) | ((with_reducible refine ext_suffix ⟨_, ?_⟩); (try simp only [Array.append_assoc]); rfl) | (with_reducible (first | apply Ext.drew | apply Ext.alloc | apply Ext.more_)) | apply Ext.drew | apply Ext.alloc | apply Ext.more_)))
  try simp only [Act.put, zqA, zqB, zqC]
  iterate 2 ((refine wpPl_read (v := ?_) rfl ?_ (fun _ h => ?_) ?_; rotate_left 1; rfl; (obtain ⟨_, _, rfl⟩ := h.more; go_simp; try rfl)); try simp only [Act.put, zqA, zqB, zqC])
  refine wpPl_nil ?_
  go_wp2_with (go_at_call 39; refine (hs _).mono ?_; rintro e w' ⟨rfl, hb⟩; obtain ⟨os, d, rfl⟩ := hb.more; clear hb)
  go_ret
  exact ⟨rfl, by with_reducible repeat (first | exact Ext.refl _ | apply Ext.drew | apply Ext.alloc | apply Ext.more_)⟩
set_option maxHeartbeats 1000000 in
theorem rcmp23 (at_ : ByteArray) (hat : at_.size ≤ 255) (bb : Bool) (w : World) :
    Calls Tryz.prog 16 #[VV 2 0 0 at_ false 0, VV 3 0 0 ⟨#[]⟩ bb 0] w fun e w' => e = .returned (.int .i64 (-1)) ∧ Ext w w' := by
  have hs := fun l W => rsign_any l true W
  simp only [sgn2] at hs
  go_enter Tryz.func16, Tryz.ntmps16
  go_wp2_with ((go_at_call 39; (with_reducible refine (hs _ _).mono ?_); rintro e w' ⟨rfl, hb⟩; obtain ⟨os, d, rfl⟩ := hb.more; clear hb))
  go_ret
  exact ⟨rfl, by with_reducible repeat (first | exact Ext.refl _ | apply Ext.drew | apply Ext.alloc | apply Ext.more_)⟩
set_option maxHeartbeats 1000000 in
theorem rcmp24 (at_ : ByteArray) (hat : at_.size ≤ 255) (bf : Int) (w : World) :
    Calls Tryz.prog 16 #[VV 2 0 0 at_ false 0, VV 4 0 0 ⟨#[]⟩ false bf] w fun e w' => e = .returned (.int .i64 (-1)) ∧ Ext w w' := by
  have hs := fun l W => rsign_any l true W
  simp only [sgn2] at hs
  go_enter Tryz.func16, Tryz.ntmps16
  go_wp2_with ((go_at_call 39; (with_reducible refine (hs _ _).mono ?_); rintro e w' ⟨rfl, hb⟩; obtain ⟨os, d, rfl⟩ := hb.more; clear hb))
  go_ret
  exact ⟨rfl, by with_reducible repeat (first | exact Ext.refl _ | apply Ext.drew | apply Ext.alloc | apply Ext.more_)⟩
set_option maxHeartbeats 1000000 in
theorem rcmp30 (ab : Bool)  (w : World) :
    Calls Tryz.prog 16 #[VV 3 0 0 ⟨#[]⟩ ab 0, VV 0 0 0 ⟨#[]⟩ false 0] w fun e w' => e = .returned (.int .i64 (sgB ab false)) ∧ Ext w w' := by
  have hs := fun W => rsign_any (!ab && false) (ab && !false) W
  rw [sgn2_bool] at hs
  cases ab
  all_goals
    go_enter Tryz.func16, Tryz.ntmps16
    go_wp2_with ((go_at_call 39; refine (hs _).mono ?_; rintro e w' ⟨rfl, hb⟩; obtain ⟨os, d, rfl⟩ := hb.more; clear hb))
    go_ret
    exact ⟨rfl, by with_reducible repeat (first | exact Ext.refl _ | apply Ext.drew | apply Ext.alloc | apply Ext.more_)⟩
set_option maxHeartbeats 1000000 in
theorem rcmp31 (ab : Bool) (bm be : Int) (hbm : I64 bm) (w : World) :
    Calls Tryz.prog 16 #[VV 3 0 0 ⟨#[]⟩ ab 0, VV 1 bm be ⟨#[]⟩ false 0] w fun e w' => e = .returned (.int .i64 (1)) ∧ Ext w w' := by
  have hs := fun l W => rsign_any l true W
  simp only [sgn2] at hs
  go_enter Tryz.func16, Tryz.ntmps16
  go_wp2_with ((go_at_call 39; (with_reducible refine (hs _ _).mono ?_); rintro e w' ⟨rfl, hb⟩; obtain ⟨os, d, rfl⟩ := hb.more; clear hb))
  go_ret
  exact ⟨rfl, by with_reducible repeat (first | exact Ext.refl _ | apply Ext.drew | apply Ext.alloc | apply Ext.more_)⟩
set_option maxHeartbeats 1000000 in
theorem rcmp32 (ab : Bool) (bt : ByteArray) (hbt : bt.size ≤ 255) (w : World) :
    Calls Tryz.prog 16 #[VV 3 0 0 ⟨#[]⟩ ab 0, VV 2 0 0 bt false 0] w fun e w' => e = .returned (.int .i64 (1)) ∧ Ext w w' := by
  have hs := fun l W => rsign_any l true W
  simp only [sgn2] at hs
  go_enter Tryz.func16, Tryz.ntmps16
  go_wp2_with ((go_at_call 39; (with_reducible refine (hs _ _).mono ?_); rintro e w' ⟨rfl, hb⟩; obtain ⟨os, d, rfl⟩ := hb.more; clear hb))
  go_ret
  exact ⟨rfl, by with_reducible repeat (first | exact Ext.refl _ | apply Ext.drew | apply Ext.alloc | apply Ext.more_)⟩
set_option maxHeartbeats 1000000 in
theorem rcmp33 (ab : Bool) (bb : Bool) (w : World) :
    Calls Tryz.prog 16 #[VV 3 0 0 ⟨#[]⟩ ab 0, VV 3 0 0 ⟨#[]⟩ bb 0] w fun e w' => e = .returned (.int .i64 (sgB ab bb)) ∧ Ext w w' := by
  have hs := fun W => rsign_any (!ab && bb) (ab && !bb) W
  rw [sgn2_bool] at hs
  cases ab <;> cases bb
  all_goals
    go_enter Tryz.func16, Tryz.ntmps16
    go_wp2_with ((go_at_call 39; refine (hs _).mono ?_; rintro e w' ⟨rfl, hb⟩; obtain ⟨os, d, rfl⟩ := hb.more; clear hb))
    go_ret
    exact ⟨rfl, by with_reducible repeat (first | exact Ext.refl _ | apply Ext.drew | apply Ext.alloc | apply Ext.more_)⟩
set_option maxHeartbeats 1000000 in
theorem rcmp34 (ab : Bool) (bf : Int) (w : World) :
    Calls Tryz.prog 16 #[VV 3 0 0 ⟨#[]⟩ ab 0, VV 4 0 0 ⟨#[]⟩ false bf] w fun e w' => e = .returned (.int .i64 (-1)) ∧ Ext w w' := by
  have hs := fun l W => rsign_any l true W
  simp only [sgn2] at hs
  go_enter Tryz.func16, Tryz.ntmps16
  go_wp2_with ((go_at_call 39; (with_reducible refine (hs _ _).mono ?_); rintro e w' ⟨rfl, hb⟩; obtain ⟨os, d, rfl⟩ := hb.more; clear hb))
  go_ret
  exact ⟨rfl, by with_reducible repeat (first | exact Ext.refl _ | apply Ext.drew | apply Ext.alloc | apply Ext.more_)⟩
set_option maxHeartbeats 1000000 in
theorem rcmp40 (af : Int)  (w : World) :
    Calls Tryz.prog 16 #[VV 4 0 0 ⟨#[]⟩ false af, VV 0 0 0 ⟨#[]⟩ false 0] w fun e w' => e = .returned (.int .i64 (1)) ∧ Ext w w' := by
  have hs := fun l W => rsign_any l true W
  simp only [sgn2] at hs
  go_enter Tryz.func16, Tryz.ntmps16
  go_wp2_with ((go_at_call 39; (with_reducible refine (hs _ _).mono ?_); rintro e w' ⟨rfl, hb⟩; obtain ⟨os, d, rfl⟩ := hb.more; clear hb))
  go_ret
  exact ⟨rfl, by with_reducible repeat (first | exact Ext.refl _ | apply Ext.drew | apply Ext.alloc | apply Ext.more_)⟩
set_option maxHeartbeats 1000000 in
theorem rcmp41 (af : Int) (bm be : Int) (hbm : I64 bm) (w : World) :
    Calls Tryz.prog 16 #[VV 4 0 0 ⟨#[]⟩ false af, VV 1 bm be ⟨#[]⟩ false 0] w fun e w' => e = .returned (.int .i64 (1)) ∧ Ext w w' := by
  have hs := fun l W => rsign_any l true W
  simp only [sgn2] at hs
  go_enter Tryz.func16, Tryz.ntmps16
  go_wp2_with ((go_at_call 39; (with_reducible refine (hs _ _).mono ?_); rintro e w' ⟨rfl, hb⟩; obtain ⟨os, d, rfl⟩ := hb.more; clear hb))
  go_ret
  exact ⟨rfl, by with_reducible repeat (first | exact Ext.refl _ | apply Ext.drew | apply Ext.alloc | apply Ext.more_)⟩
set_option maxHeartbeats 1000000 in
theorem rcmp42 (af : Int) (bt : ByteArray) (hbt : bt.size ≤ 255) (w : World) :
    Calls Tryz.prog 16 #[VV 4 0 0 ⟨#[]⟩ false af, VV 2 0 0 bt false 0] w fun e w' => e = .returned (.int .i64 (1)) ∧ Ext w w' := by
  have hs := fun l W => rsign_any l true W
  simp only [sgn2] at hs
  go_enter Tryz.func16, Tryz.ntmps16
  go_wp2_with ((go_at_call 39; (with_reducible refine (hs _ _).mono ?_); rintro e w' ⟨rfl, hb⟩; obtain ⟨os, d, rfl⟩ := hb.more; clear hb))
  go_ret
  exact ⟨rfl, by with_reducible repeat (first | exact Ext.refl _ | apply Ext.drew | apply Ext.alloc | apply Ext.more_)⟩
set_option maxHeartbeats 1000000 in
theorem rcmp43 (af : Int) (bb : Bool) (w : World) :
    Calls Tryz.prog 16 #[VV 4 0 0 ⟨#[]⟩ false af, VV 3 0 0 ⟨#[]⟩ bb 0] w fun e w' => e = .returned (.int .i64 (1)) ∧ Ext w w' := by
  have hs := fun l W => rsign_any l true W
  simp only [sgn2] at hs
  go_enter Tryz.func16, Tryz.ntmps16
  go_wp2_with ((go_at_call 39; (with_reducible refine (hs _ _).mono ?_); rintro e w' ⟨rfl, hb⟩; obtain ⟨os, d, rfl⟩ := hb.more; clear hb))
  go_ret
  exact ⟨rfl, by with_reducible repeat (first | exact Ext.refl _ | apply Ext.drew | apply Ext.alloc | apply Ext.more_)⟩
set_option maxHeartbeats 1000000 in
theorem rcmp44 (af : Int) (bf : Int) (w : World) :
    Calls Tryz.prog 16 #[VV 4 0 0 ⟨#[]⟩ false af, VV 4 0 0 ⟨#[]⟩ false bf] w fun e w' => e = .returned (.int .i64 (sgI af bf)) ∧ Ext w w' := by
  have hs := fun W => rsign_any (decide (af < bf)) (decide (bf < af)) W
  rw [sgn2_int] at hs
  generalize sgI af bf = z at *
  go_enter Tryz.func16, Tryz.ntmps16
  go_wp2_with ((go_at_call 39; refine (hs _).mono ?_; rintro e w' ⟨rfl, hb⟩; obtain ⟨os, d, rfl⟩ := hb.more; clear hb))
  go_ret
  exact ⟨rfl, by with_reducible repeat (first | exact Ext.refl _ | apply Ext.drew | apply Ext.alloc | apply Ext.more_)⟩
theorem rcompare_any (a b : Val) (w : World) (ha : a.right) (hb : b.right) :
    Calls Tryz.prog 16 #[VV a.kind a.mant a.exp a.text a.truth a.fault, VV b.kind b.mant b.exp b.text b.truth b.fault] w fun e w' => e = .returned (.int .i64 (cmpV a b)) ∧ Ext w w' := by
  rcases ha.form with rfl | ⟨m, e, rfl, hr⟩ | ⟨t, rfl, ht⟩ | ⟨x, rfl⟩ | ⟨f, rfl, hf⟩
  · rcases hb.form with rfl | ⟨m', e', rfl, hr'⟩ | ⟨t', rfl, ht'⟩ | ⟨x', rfl⟩ | ⟨f', rfl, hf'⟩
    · exact rcmp00   w
    · exact rcmp01  m' e' (Rt_i64 hr').1 w
    · exact rcmp02  t' ht' w
    · exact rcmp03  x' w
    · exact rcmp04  f' w
  · rcases hb.form with rfl | ⟨m', e', rfl, hr'⟩ | ⟨t', rfl, ht'⟩ | ⟨x', rfl⟩ | ⟨f', rfl, hf'⟩
    · exact rcmp10 m e (Rt_i64 hr).1  w
    · exact rcmp11 m e (Rt_i64 hr).1 m' e' (Rt_i64 hr').1 w
    · exact rcmp12 m e (Rt_i64 hr).1 t' ht' w
    · exact rcmp13 m e (Rt_i64 hr).1 x' w
    · exact rcmp14 m e (Rt_i64 hr).1 f' w
  · rcases hb.form with rfl | ⟨m', e', rfl, hr'⟩ | ⟨t', rfl, ht'⟩ | ⟨x', rfl⟩ | ⟨f', rfl, hf'⟩
    · exact rcmp20 t ht  w
    · exact rcmp21 t ht m' e' (Rt_i64 hr').1 w
    · exact rcmp22 t ht t' ht' w
    · exact rcmp23 t ht x' w
    · exact rcmp24 t ht f' w
  · rcases hb.form with rfl | ⟨m', e', rfl, hr'⟩ | ⟨t', rfl, ht'⟩ | ⟨x', rfl⟩ | ⟨f', rfl, hf'⟩
    · exact rcmp30 x  w
    · exact rcmp31 x m' e' (Rt_i64 hr').1 w
    · exact rcmp32 x t' ht' w
    · exact rcmp33 x x' w
    · exact rcmp34 x f' w
  · rcases hb.form with rfl | ⟨m', e', rfl, hr'⟩ | ⟨t', rfl, ht'⟩ | ⟨x', rfl⟩ | ⟨f', rfl, hf'⟩
    · exact rcmp40 f  w
    · exact rcmp41 f m' e' (Rt_i64 hr').1 w
    · exact rcmp42 f t' ht' w
    · exact rcmp43 f x' w
    · exact rcmp44 f f' w
set_option maxHeartbeats 1000000 in
theorem rorder_any (a b : Val) (w : World) (ha : a.right) (hb : b.right) :
    Calls Tryz.prog 14 #[VV a.kind a.mant a.exp a.text a.truth a.fault, VV b.kind b.mant b.exp b.text b.truth b.fault] w fun e w' => e = .returned (.int .i64 (ordV a b)) ∧ Ext w w' := by
  have hc := fun W => rcompare_any a b W ha hb
  by_cases h1 : a.kind = 0
  · have q1 : (a.kind == 0) = true := by simpa using h1
    have q3 : (a.kind != 0) = false := by simp [h1]
    by_cases h2 : b.kind = 0
    · have ho : ordV a b = 0 := by unfold ordV; rw [if_pos ⟨h1, h2⟩]
      have q2 : (b.kind == 0) = true := by simpa using h2
      have q4 : (b.kind != 0) = false := by simp [h2]
      have hs := fun W => rsign_any false false W
      simp only [sgn2, Bool.false_eq_true, if_false] at hs
      rw [ho]; clear ho h1 h2 ha hb; generalize a.kind = xk at *; generalize a.mant = xm at *; generalize a.exp = xe at *; generalize a.text = xt at *; generalize a.truth = xb at *; generalize a.fault = xf at *; generalize b.kind = yk at *; generalize b.mant = ym at *; generalize b.exp = ye at *; generalize b.text = yt at *; generalize b.truth = yb at *; generalize b.fault = yf at *; go_enter Tryz.func14, Tryz.ntmps14; go_wp2_with (first | (go_at_call 39; (with_reducible refine (hs _).mono ?_); rintro e w' ⟨rfl, hb⟩; obtain ⟨os, d, rfl⟩ := hb.more; clear hb) | (go_at_call 16; (with_reducible refine (hc _).mono ?_); rintro e w' ⟨rfl, hb⟩; obtain ⟨os, d, rfl⟩ := hb.more; clear hb)); go_ret; exact ⟨rfl, by with_reducible repeat (first | exact Ext.refl _ | apply Ext.drew | apply Ext.alloc | apply Ext.more_)⟩
    · have ho : ordV a b = 1 := by unfold ordV; rw [if_neg (fun h => h2 h.2), if_pos h1]
      have q2 : (b.kind == 0) = false := by simpa using h2
      have q4 : (b.kind != 0) = true := by simpa using h2
      have hs := fun W => rsign_any false true W
      simp only [sgn2, Bool.false_eq_true, if_false, if_true] at hs
      rw [ho]; clear ho h1 h2 ha hb; generalize a.kind = xk at *; generalize a.mant = xm at *; generalize a.exp = xe at *; generalize a.text = xt at *; generalize a.truth = xb at *; generalize a.fault = xf at *; generalize b.kind = yk at *; generalize b.mant = ym at *; generalize b.exp = ye at *; generalize b.text = yt at *; generalize b.truth = yb at *; generalize b.fault = yf at *; go_enter Tryz.func14, Tryz.ntmps14; go_wp2_with (first | (go_at_call 39; (with_reducible refine (hs _).mono ?_); rintro e w' ⟨rfl, hb⟩; obtain ⟨os, d, rfl⟩ := hb.more; clear hb) | (go_at_call 16; (with_reducible refine (hc _).mono ?_); rintro e w' ⟨rfl, hb⟩; obtain ⟨os, d, rfl⟩ := hb.more; clear hb)); go_ret; exact ⟨rfl, by with_reducible repeat (first | exact Ext.refl _ | apply Ext.drew | apply Ext.alloc | apply Ext.more_)⟩
  · have q1 : (a.kind == 0) = false := by simpa using h1
    have q3 : (a.kind != 0) = true := by simpa using h1
    by_cases h2 : b.kind = 0
    · have ho : ordV a b = -1 := by unfold ordV; rw [if_neg (fun h => h1 h.1), if_neg h1, if_pos h2]
      have q2 : (b.kind == 0) = true := by simpa using h2
      have q4 : (b.kind != 0) = false := by simp [h2]
      have hs := fun W => rsign_any true false W
      simp only [sgn2, Bool.false_eq_true, if_false, if_true] at hs
      rw [ho]; clear ho h1 h2 ha hb; generalize a.kind = xk at *; generalize a.mant = xm at *; generalize a.exp = xe at *; generalize a.text = xt at *; generalize a.truth = xb at *; generalize a.fault = xf at *; generalize b.kind = yk at *; generalize b.mant = ym at *; generalize b.exp = ye at *; generalize b.text = yt at *; generalize b.truth = yb at *; generalize b.fault = yf at *; go_enter Tryz.func14, Tryz.ntmps14; go_wp2_with (first | (go_at_call 39; (with_reducible refine (hs _).mono ?_); rintro e w' ⟨rfl, hb⟩; obtain ⟨os, d, rfl⟩ := hb.more; clear hb) | (go_at_call 16; (with_reducible refine (hc _).mono ?_); rintro e w' ⟨rfl, hb⟩; obtain ⟨os, d, rfl⟩ := hb.more; clear hb)); go_ret; exact ⟨rfl, by with_reducible repeat (first | exact Ext.refl _ | apply Ext.drew | apply Ext.alloc | apply Ext.more_)⟩
    · have ho : ordV a b = cmpV a b := by unfold ordV; rw [if_neg (fun h => h1 h.1), if_neg h1, if_neg h2]
      have q2 : (b.kind == 0) = false := by simpa using h2
      have q4 : (b.kind != 0) = true := by simpa using h2
      have hs := fun W => rsign_any true false W
      generalize cmpV a b = n at *
      rw [ho]; clear ho h1 h2 ha hb; generalize a.kind = xk at *; generalize a.mant = xm at *; generalize a.exp = xe at *; generalize a.text = xt at *; generalize a.truth = xb at *; generalize a.fault = xf at *; generalize b.kind = yk at *; generalize b.mant = ym at *; generalize b.exp = ye at *; generalize b.text = yt at *; generalize b.truth = yb at *; generalize b.fault = yf at *; go_enter Tryz.func14, Tryz.ntmps14; go_wp2_with (first | (go_at_call 39; (with_reducible refine (hs _).mono ?_); rintro e w' ⟨rfl, hb⟩; obtain ⟨os, d, rfl⟩ := hb.more; clear hb) | (go_at_call 16; (with_reducible refine (hc _).mono ?_); rintro e w' ⟨rfl, hb⟩; obtain ⟨os, d, rfl⟩ := hb.more; clear hb)); go_ret; exact ⟨rfl, by with_reducible repeat (first | exact Ext.refl _ | apply Ext.drew | apply Ext.alloc | apply Ext.more_)⟩
end Go.Proofs.YteigcfflljoioaaGreatDoor
