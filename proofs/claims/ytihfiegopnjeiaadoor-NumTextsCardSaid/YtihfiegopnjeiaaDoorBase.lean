/- Words for memory and for the program's values, used by all proofs of this seat. -/
import Derived.WalkKit
import Derived.WalkLawsBesides
import Derived.WalkSpells
import Derived.Outline
import Derived.Below
import Derived.Deep.RegionHeld3
import Derived.Deep.DeepCutAuto
import Derived.Deep.AppendLies
import Derived.Maps.AppendAt
import Derived.Lib.Hide
namespace Go.Proofs.YtihfiegopnjeiaaDoor
set_option linter.unusedSimpArgs false
set_option linter.unusedVariables false
open Go.RowKit

/-- w' is w with memory more, nothing of the old turned. -/
def Ext (w w' : World) : Prop := Below w.heap.size w w'
theorem Ext.refl (w : World) : Ext w w := Below.refl _ _
theorem Ext.size {w w' : World} (h : Ext w w') : w.heap.size ≤ w'.heap.size := Below.size h
theorem Ext.trans {a b c : World} (h : Ext a b) (k : Ext b c) : Ext a c := Below.trans h (Below.mono k h.size)
theorem Ext.drew {a w : World} (h : Ext a w) : Ext a w.drew := Below.drew h
theorem Ext.drewN {a w : World} (h : Ext a w) (n : Nat) : Ext a (w.drewN n) := ⟨h.os, h.tape, h.output, h.size, h.block⟩
theorem Ext.alloc {a w : World} (h : Ext a w) (o : Obj) : Ext a (w.alloc o) := Below.alloc h h.size o
theorem Ext.set {a w : World} (h : Ext a w) {p : Addr} (u : Value) (hp : a.heap.size ≤ p.block) : Ext a (w.setCell p u) := Below.setCell h hp u
theorem Ext.cell {w w' : World} (h : Ext w w') {p : Addr} (hp : p.block < w.heap.size) : w'.cell? p = w.cell? p := Below.cell h hp
theorem Ext.frozen {w w' : World} (h : Ext w w') {p : Addr} (hp : p.block < w.heap.size) : w'.frozen? p = w.frozen? p := Below.frozen h hp
theorem Ext.block {w w' : World} (h : Ext w w') {b : Nat} (hb : b < w.heap.size) : w'.heap[b]? = w.heap[b]? := Below.block h b hb
/-- The same in the form that a walk uses by itself. -/
theorem Ext.out {W w1 : World} (h : Ext W w1) : W.heap.size ≤ w1.heap.size ∧ (∀ b o, b < W.heap.size → w1.cell? ⟨b, o, none⟩ = W.cell? ⟨b, o, none⟩) ∧ (∀ b o, b < W.heap.size → w1.frozen? ⟨b, o, none⟩ = W.frozen? ⟨b, o, none⟩) :=
  ⟨h.size, fun b o hb => h.cell (p := ⟨b, o, none⟩) hb, fun b o hb => h.frozen (p := ⟨b, o, none⟩) hb⟩
theorem lt_of_cell {w : World} {p : Addr} {v : Value} (h : w.cell? p = some v) : p.block < w.heap.size := by
  unfold World.cell? at h
  rcases Nat.lt_or_ge p.block w.heap.size with hl | hl
  · exact hl
  · rw [Array.getElem?_eq_none hl] at h; cases h
theorem Ext.cell_some {w w' : World} (h : Ext w w') {p : Addr} {v : Value} (hp : w.cell? p = some v) : w'.cell? p = some v := by
  rw [h.cell (lt_of_cell hp)]; exact hp

/-- w with the blocks os behind its own, and the tape at d. -/
def more (w : World) (os : Array Obj) (d : Nat) : World := { w with heap := w.heap ++ os, drawn := d }
theorem Ext.more {w w' : World} (h : Ext w w') : ∃ os d, w' = more w os d := by
  refine ⟨w'.heap.extract w.heap.size w'.heap.size, w'.drawn, ?_⟩
  have hh : w'.heap = w.heap ++ w'.heap.extract w.heap.size w'.heap.size := by
    have h1 := h.size
    apply Array.ext_getElem?
    intro i
    rw [Array.getElem?_append]
    split
    · rename_i hi; exact h.block hi
    · rename_i hi
      rw [Array.getElem?_extract]
      by_cases h2 : i < w'.heap.size
      · rw [if_pos (by omega)]; congr 1; omega
      · rw [if_neg (by omega), Array.getElem?_eq_none (by omega)]
  unfold Go.Proofs.YtihfiegopnjeiaaDoor.more
  rw [← hh, ← h.os, ← h.tape, ← h.output]
theorem ext_more (w : World) (os : Array Obj) (d : Nat) : Ext w (Go.Proofs.YtihfiegopnjeiaaDoor.more w os d) :=
  ⟨rfl, rfl, rfl, by simp [Go.Proofs.YtihfiegopnjeiaaDoor.more], fun k hk => by simp [Go.Proofs.YtihfiegopnjeiaaDoor.more, Array.getElem?_append, hk]⟩
theorem Ext.more_ {a w : World} (h : Ext a w) (os : Array Obj) (d : Nat) : Ext a (Go.Proofs.YtihfiegopnjeiaaDoor.more w os d) := h.trans (ext_more w os d)
@[go_sem, simp] theorem more_size (w : World) (os : Array Obj) (d : Nat) : (more w os d).heap.size = w.heap.size + os.size := by simp [more]
@[go_sem, simp] theorem more_cell (w : World) (os : Array Obj) (d b o : Nat) (h : b < w.heap.size) : (more w os d).cell? ⟨b, o, none⟩ = w.cell? ⟨b, o, none⟩ := (ext_more w os d).cell h
@[go_sem, simp] theorem more_frozen (w : World) (os : Array Obj) (d b o : Nat) (h : b < w.heap.size) : (more w os d).frozen? ⟨b, o, none⟩ = w.frozen? ⟨b, o, none⟩ := (ext_more w os d).frozen h
@[go_sem] theorem more_set (w : World) (os : Array Obj) (d b o : Nat) (v : Value) (h : b < w.heap.size) : (more w os d).setCell ⟨b, o, none⟩ v = more (w.setCell ⟨b, o, none⟩ v) os d := by
  simp only [more, World.setCell]
  congr 1
  apply Array.ext_getElem?
  intro i
  simp only [Array.getElem?_modify, Array.getElem?_append, Array.size_modify]
  by_cases hi : i < w.heap.size
  · simp [hi]
  · simp only [hi, if_false]
    rw [if_neg (by omega)]
@[go_sem] theorem more_drew (w : World) (os : Array Obj) (d : Nat) : (more w os d).drew = more w os (d + 1) := rfl
@[go_sem] theorem drew_more (w : World) (os : Array Obj) (d : Nat) : more w.drew os d = more w os d := rfl
@[go_sem] theorem more_more (w : World) (os os' : Array Obj) (d d' : Nat) : more (more w os d) os' d' = more w (os ++ os') d' := by simp [more]

@[go_sem] theorem lt_m1 {x y : Nat} (s : Nat) (h : x < y) : (x < y + s) = True := by simp only [eq_iff_iff, iff_true]; omega
@[go_sem] theorem lt_m2 {x y : Nat} (s t : Nat) (h : x < y) : (x < y + s + t) = True := by simp only [eq_iff_iff, iff_true]; omega
@[go_sem] theorem lt_m3 {x y : Nat} (s t u : Nat) (h : x < y) : (x < y + s + t + u) = True := by simp only [eq_iff_iff, iff_true]; omega
@[go_sem] theorem lt_m4 {x y : Nat} (s t u v : Nat) (h : x < y) : (x < y + s + t + u + v) = True := by simp only [eq_iff_iff, iff_true]; omega
@[go_sem] theorem lt_m5 {x y : Nat} (s t u v a : Nat) (h : x < y) : (x < y + s + t + u + v + a) = True := by simp only [eq_iff_iff, iff_true]; omega
theorem more_none (w : World) : more w #[] w.drawn = w := by simp [more]

/-- An api.Value, field by field. -/
structure Val where
  kind : Int
  mant : Int
  exp : Int
  text : ByteArray
  truth : Bool
  fault : Int
  deriving DecidableEq

def eqV (x y : Val) : Bool := decide (x = y)
abbrev VV (k m e : Int) (t : ByteArray) (b : Bool) (f : Int) : Value := .agg #[.int .i64 k, .int .i64 m, .int .i64 e, .string t, .bool b, .int .i64 f]
abbrev NV (m e : Int) : Value := .agg #[.int .i64 m, .int .i64 e]
abbrev AV (r c : Int) (s : Value) : Value := .agg #[.int .i64 r, .int .i64 c, s]
def Val.v (x : Val) : Value := VV x.kind x.mant x.exp x.text x.truth x.fault
def Val.zero : Val := ⟨0, 0, 0, ⟨#[]⟩, false, 0⟩
def I64 (n : Int) : Prop := -9223372036854775808 ≤ n ∧ n ≤ 9223372036854775807
def Val.ok (x : Val) : Prop := I64 x.kind ∧ I64 x.mant ∧ I64 x.exp ∧ x.text.size ≤ 9223372036854775807 ∧ I64 x.fault
instance : Inhabited Val := ⟨Val.zero⟩

/-- The six cells of a value in a variable of its own (block n). -/
abbrev VS (n : Nat) (k m e : Int) (t : ByteArray) (b : Bool) (f : Int) (w' : World) : Prop :=
  n < w'.heap.size ∧ w'.cell? ⟨n, 0, none⟩ = some (.int .i64 k) ∧ w'.cell? ⟨n, 1, none⟩ = some (.int .i64 m) ∧ w'.cell? ⟨n, 2, none⟩ = some (.int .i64 e) ∧ w'.cell? ⟨n, 3, none⟩ = some (.string t) ∧ w'.cell? ⟨n, 4, none⟩ = some (.bool b) ∧ w'.cell? ⟨n, 5, none⟩ = some (.int .i64 f)
theorem VS.keep {n : Nat} {k m e f : Int} {t : ByteArray} {b : Bool} {W w1 : World} (hb : Ext W w1) (h : VS n k m e t b f W) : VS n k m e t b f w1 := by
  obtain ⟨h0, h⟩ := h
  have hs := hb.size
  unfold VS
  refine ⟨by omega, ?_⟩
  rw [hb.cell (p := ⟨n, 0, none⟩) h0, hb.cell (p := ⟨n, 1, none⟩) h0, hb.cell (p := ⟨n, 2, none⟩) h0, hb.cell (p := ⟨n, 3, none⟩) h0, hb.cell (p := ⟨n, 4, none⟩) h0, hb.cell (p := ⟨n, 5, none⟩) h0]
  exact h

/-- The six cells of a value anywhere. -/
def ValAt (w : World) (b o : Nat) (x : Val) : Prop :=
  w.cell? ⟨b, o, none⟩ = some (.int .i64 x.kind) ∧ w.cell? ⟨b, o + 1, none⟩ = some (.int .i64 x.mant) ∧ w.cell? ⟨b, o + 2, none⟩ = some (.int .i64 x.exp) ∧ w.cell? ⟨b, o + 3, none⟩ = some (.string x.text) ∧ w.cell? ⟨b, o + 4, none⟩ = some (.bool x.truth) ∧ w.cell? ⟨b, o + 5, none⟩ = some (.int .i64 x.fault)
theorem ValAt.ext {w w' : World} {b o : Nat} {x : Val} (h : ValAt w b o x) (hb : Ext w w') : ValAt w' b o x :=
  ⟨hb.cell_some h.1, hb.cell_some h.2.1, hb.cell_some h.2.2.1, hb.cell_some h.2.2.2.1, hb.cell_some h.2.2.2.2.1, hb.cell_some h.2.2.2.2.2⟩
theorem ValAt.lt {w : World} {b o : Nat} {x : Val} (h : ValAt w b o x) : b < w.heap.size := lt_of_cell h.1

/-- A slice's array, in a block from 'base' on, holds these cells from its start on. -/
def Rd (base : Nat) (w : World) (A : Option Addr) (cs : List Value) : Prop :=
  ∀ j u, cs[j]? = some u → ∃ b off, A = some ⟨b, off, none⟩ ∧ base ≤ b ∧ w.cell? ⟨b, off + j, none⟩ = some u
section
variable {base base' : Nat} {w w' : World} {A : Option Addr} {cs : List Value}
theorem Rd.ext (h : Rd base w A cs) (hb : Ext w w') : Rd base w' A cs := fun j u hu => by
  obtain ⟨b, off, hA, hl, hv⟩ := h j u hu
  exact ⟨b, off, hA, hl, hb.cell_some hv⟩
theorem Rd.mono (h : Rd base w A cs) (hb : base' ≤ base) : Rd base' w A cs := fun j u hu => by
  obtain ⟨b, off, hA, hl, hv⟩ := h j u hu
  exact ⟨b, off, hA, by omega, hv⟩
theorem Rd.nil (base : Nat) (w : World) (A : Option Addr) : Rd base w A [] := fun j u hu => by simp at hu
theorem Rd.add {a : Addr} (h : Rd base w (some a) cs) : ∀ j u, cs[j]? = some u → w.cell? (a.add j) = some u := fun j u hu => by
  obtain ⟨b, off, hA, _, hv⟩ := h j u hu
  obtain rfl : a = ⟨b, off, none⟩ := by simpa using hA
  rw [Addr.add_mid]; exact hv
theorem Rd.of_own {e : TypeId} {size n : Nat} {v : Value} (h : w.ownsRow base e size v n cs) : ∃ A c, v = .slice A n c ∧ Rd base w A cs ∧ n ≤ c := by
  obtain ⟨h1, h2⟩ := id h
  rcases h2 with ⟨rfl, rfl⟩ | ⟨g, cap, cur, rfl, h3, h4, h5, h6, h7, h8⟩
  · refine ⟨none, 0, rfl, ?_, Nat.le_refl _⟩
    have : cs = [] := List.eq_nil_of_length_eq_zero (by simpa using h1)
    subst this
    exact Rd.nil _ _ _
  · refine ⟨_, _, rfl, fun j u hu => ⟨g, 0, rfl, h3, ?_⟩, h5⟩
    have := h.cells (g := g) rfl j u hu
    rw [Addr.add_mid] at this
    exact this
/-- What lies from 'base' on is as it was. -/
theorem Rd.blocks (h : Rd base w A cs) (hb : ∀ b, base ≤ b → w'.heap[b]? = w.heap[b]?) : Rd base w' A cs := fun j u hu => by
  obtain ⟨b, off, hA, hl, hv⟩ := h j u hu
  exact ⟨b, off, hA, hl, (World.cell?_of_block (a := ⟨b, off + j, none⟩) (hb b hl)).trans hv⟩
/-- The memory below turns (a store into a variable of the caller's), its size does not. -/
theorem Rd.swap {X X' : World} {os : Array Obj} {d d' : Nat} (h : Rd base (more X os d) A cs) (hb : X.heap.size ≤ base) (hx : X'.heap.size = X.heap.size) (hb' : base' ≤ base) : Rd base' (more X' os d') A cs := by
  refine Rd.mono (h.blocks fun b hl => ?_) hb'
  simp only [more]
  rw [Array.getElem?_append_right (by omega), Array.getElem?_append_right (by omega), hx]
end

def Val.cells (x : Val) : List Value := [.int .i64 x.kind, .int .i64 x.mant, .int .i64 x.exp, .string x.text, .bool x.truth, .int .i64 x.fault]
def vcells (l : List Val) : List Value := l.flatMap Val.cells
theorem vcells_nil : vcells [] = [] := rfl
theorem vcells_cons (x : Val) (l : List Val) : vcells (x :: l) = x.cells ++ vcells l := by simp [vcells]
theorem vcells_append (l l' : List Val) : vcells (l ++ l') = vcells l ++ vcells l' := by simp [vcells]
theorem vcells_length : ∀ l : List Val, (vcells l).length = l.length * 6
  | [] => rfl
  | x :: l => by rw [vcells_cons, List.length_append, vcells_length l]; simp [Val.cells]; omega
theorem vcells_at : ∀ (l : List Val) (i : Nat) (x : Val), l[i]? = some x → ∀ j, j < 6 → (vcells l)[i * 6 + j]? = x.cells[j]?
  | [], i, x, h, j, hj => by simp at h
  | y :: l, 0, x, h, j, hj => by
    obtain rfl : y = x := by simpa using h
    rw [vcells_cons, List.getElem?_append_left (by simp [Val.cells]; omega)]
    simp
  | y :: l, i + 1, x, h, j, hj => by
    rw [vcells_cons, List.getElem?_append_right (by simp [Val.cells]; omega)]
    rw [show (i + 1) * 6 + j - y.cells.length = i * 6 + j by simp [Val.cells]; omega]
    exact vcells_at l i x (by simpa using h) j hj
theorem vcells_one {l : List Val} : ∀ u ∈ vcells l, u.oneCell' = true := by
  intro u hu
  simp only [vcells, List.mem_flatMap] at hu
  obtain ⟨x, _, hx⟩ := hu
  simp only [Val.cells, List.mem_cons, List.not_mem_nil, or_false] at hx
  rcases hx with rfl | rfl | rfl | rfl | rfl | rfl <;> rfl

/-- A slice's array, read as values. -/
def SlV (base : Nat) (w : World) (A : Option Addr) (l : List Val) : Prop := Rd base w A (vcells l)
theorem SlV.ext {base : Nat} {w w' : World} {A : Option Addr} {l : List Val} (h : SlV base w A l) (hb : Ext w w') : SlV base w' A l := Rd.ext h hb
theorem SlV.nil (base : Nat) (w : World) (A : Option Addr) : SlV base w A [] := Rd.nil base w A
theorem SlV.at {base : Nat} {w : World} {A : Option Addr} {l : List Val} (h : SlV base w A l) {i : Nat} {x : Val} (hx : l[i]? = some x) : ∃ b off, A = some ⟨b, off, none⟩ ∧ base ≤ b ∧ ValAt w b (off + i * 6) x := by
  have hc : ∀ j, j < 6 → (vcells l)[i * 6 + j]? = x.cells[j]? := vcells_at l i x hx
  obtain ⟨b, off, rfl, hl, h0⟩ := h (i * 6 + 0) (.int .i64 x.kind) (by rw [hc 0 (by omega)]; rfl)
  refine ⟨b, off, rfl, hl, ?_⟩
  have hg : ∀ j u, j < 6 → x.cells[j]? = some u → w.cell? ⟨b, off + i * 6 + j, none⟩ = some u := fun j u hj hu => by
    obtain ⟨b', off', he, _, h1⟩ := h (i * 6 + j) u (by rw [hc j hj]; exact hu)
    simp only [Option.some.injEq, Addr.mk.injEq, and_true] at he
    obtain ⟨rfl, rfl⟩ := he
    rw [← h1]; congr 2; omega
  exact ⟨hg 0 _ (by omega) rfl, hg 1 _ (by omega) rfl, hg 2 _ (by omega) rfl, hg 3 _ (by omega) rfl, hg 4 _ (by omega) rfl, hg 5 _ (by omega) rfl⟩

theorem Ext.of_grown {w w' : World} (h : w.grownBy w' none) : Ext w w' := ⟨h.os, h.tape, h.output, h.size, fun k hk => h.block k hk (by simp)⟩

/-- append that must grow: nothing that was there turns. -/
theorem append_grow {P : Program} (W : World) (t ty e : TypeId) (i : TypeInfo) (z : Value) (size bytes : Nat) (ht : P.underlying t = some (.slice e)) (hi : P.info? e = some i) (hz : i.zero = some z)
    (hsize : i.size = size) (hby : i.bytes = bytes) (hzs : z.cells.size = size) (hsz : 0 < size)
    (A : Option Addr) (n cap : Nat) (olds : List Value) (hAn : A = none → n = 0 ∧ cap = 0) (hlo : olds.length = n * size) (hA : Rd 0 W A olds)
    (B : Option Addr) (m c : Nat) (news : List Value) (hln : news.length = m * size) (hB : Rd 0 W B news) (h1 : ∀ u ∈ news, u.oneCell' = true)
    (hfull : cap < n + m) (hc : n ≤ cap) (b1 : n + m ≤ maxLen) (b2 : (n + m) * bytes ≤ 140737488355328) :
    ∃ A' c' os d, (Builtin.append_ #[t, t] ty #[.slice A n cap, .slice B m c]).run P W = .ok (.slice A' (n + m) c') (more W os d) ∧ Rd W.heap.size (more W os d) A' (olds ++ news) ∧ n + m ≤ c' := by
  have hm : 0 < m := by omega
  have hpos : 0 < news.length := by rw [hln]; exact Nat.mul_pos hm hsz
  obtain ⟨b, off, rfl, _, _⟩ := hB 0 news[0] (by simp [hpos])
  have key : ∃ v' w', (Builtin.append_ #[t, t] ty #[.slice A n cap, .slice (some ⟨b, off, none⟩) m c]).run P W = .ok v' w' ∧ w'.ownsRow W.heap.size e size v' (n + m) (olds ++ news) ∧ W.grownBy w' none := by
    cases A with
    | some a => exact run_append_arg_grows (P := P) W t ty e i z size bytes ht hi hz hsize hby hzs hsz a n cap olds hlo hA.add ⟨b, off, none⟩ m c news hln hB.add hfull b1 b2
    | none =>
      obtain ⟨rfl, rfl⟩ := hAn rfl
      obtain rfl : olds = [] := List.eq_nil_of_length_eq_zero (by simpa using hlo)
      obtain ⟨v', w', hrun, r1, r2, _⟩ := run_append_own (P := P) W W.heap.size t ty e i z size bytes ht hi hz hsize hby hzs hsz (.slice none 0 0) 0 [] (World.ownsRow_nil W _ e size) ⟨b, off, none⟩ m c news hln hB.add h1 b1 b2 (Nat.le_refl _)
      exact ⟨v', w', hrun, r1, r2⟩
  obtain ⟨v', w', hrun, hown, hg⟩ := key
  obtain ⟨A', c', rfl, hr, hc'⟩ := Rd.of_own hown
  obtain ⟨os, d, rfl⟩ := (Ext.of_grown hg).more
  exact ⟨A', c', os, d, hrun, hr, hc'⟩

/-- append of nothing. -/
theorem append_none {P : Program} (W : World) (t ty e : TypeId) (i : TypeInfo) (ht : P.underlying t = some (.slice e)) (hi : P.info? e = some i)
    (A : Option Addr) (n cap : Nat) (B : Option Addr) (c : Nat) (hc : n ≤ cap) : (Builtin.append_ #[t, t] ty #[.slice A n cap, .slice B 0 c]).run P W = .ok (.slice A n cap) W := by
  cases A <;> cases B <;> simp [Builtin.append_, run_underlying ht, sizeOf, typeInfo, hi, Builtin.lenOf, Builtin.firstCells, hc, storeCells, loadCells, loadCellsFrom]

/-- append onto a slice without spare room, at an operation. -/
theorem wp_append_full {P : Program} (w : World) {o : Oper} {a : Act} {K : Act → World → Prop} {Q : Exit → Act → World → Prop} (s x : Operand) (t : TypeId)
    (ho : o.op = .call { callee := .builtin .append, args := #[s, x], argTypes := #[t, t] })
    (e : TypeId) (i : TypeInfo) (z : Value) (size bytes : Nat) (ht : P.underlying t = some (.slice e)) (hi : P.info? e = some i) (hz : i.zero = some z)
    (hsize : i.size = size) (hby : i.bytes = bytes) (hzs : z.cells.size = size) (hsz : 0 < size)
    (base : Nat) (A : Option Addr) (n : Nat) (olds : List Value) (hs : a.eval s = .slice A n n) (hAn : A = none → n = 0) (hlo : olds.length = n * size) (hA : Rd base w A olds) (hbs : base ≤ w.heap.size)
    (B : Option Addr) (m c : Nat) (news : List Value) (hx : a.eval x = .slice B m c) (hln : news.length = m * size) (hB : Rd 0 w B news) (h1 : ∀ u ∈ news, u.oneCell' = true)
    (b1 : n + m ≤ maxLen) (b2 : (n + m) * bytes ≤ 140737488355328)
    (h : ∀ A' c' os d, Rd base (more w os d) A' (olds ++ news) → (A' = none → n + m = 0) → n + m ≤ c' → K (a.put o.dst (.slice A' (n + m) c')) (more w os d)) : o.wp P a w K Q := by
  by_cases hm : m = 0
  · subst hm
    obtain rfl : news = [] := List.eq_nil_of_length_eq_zero (by simpa using hln)
    have hr := append_none (P := P) w t o.type e i ht hi A n n B c (Nat.le_refl _)
    unfold Oper.wp execOp
    simp only [ho, resolve, invoke, builtin, Sem.run_bind, Sem.run_pure, Result.andThen_ok, List.map_toArray, List.map_cons, List.map_nil, hs, hx, hr]
    have h' := h A n #[] w.drawn (by
      have : more w #[] w.drawn = w := by simp [more]
      rw [this]; simpa using hA) (fun h0 => by rw [hAn h0]) (Nat.le_refl _)
    have hw : more w #[] w.drawn = w := by simp [more]
    rw [hw] at h'
    exact h'
  · obtain ⟨A', c', os, d, hr, h2, h3⟩ := append_grow (P := P) w t o.type e i z size bytes ht hi hz hsize hby hzs hsz A n n olds (fun h => ⟨hAn h, hAn h⟩) hlo (hA.mono (Nat.zero_le _)) B m c news hln hB h1 (by omega) (Nat.le_refl _) b1 b2
    unfold Oper.wp execOp
    simp only [ho, resolve, invoke, builtin, Sem.run_bind, Sem.run_pure, Result.andThen_ok, List.map_toArray, List.map_cons, List.map_nil, hs, hx, hr]
    refine h A' c' os d (h2.mono hbs) (fun h0 => ?_) h3
    subst h0
    exfalso
    have hl : 0 < (olds ++ news).length := by rw [List.length_append, hln]; have : 0 < m * size := Nat.mul_pos (by omega) hsz; omega
    obtain ⟨b, off, hb, _, _⟩ := h2 0 (olds ++ news)[0] (by simp)
    cases hb

theorem wpList_append_full {P : Program} (w : World) {ops : Array Oper} {rest : List Oper} {o : Oper} {a : Act} {Q : Exit → Act → World → Prop} (hgd : o.guard = none) (s x : Operand) (t : TypeId)
    (ho : o.op = .call { callee := .builtin .append, args := #[s, x], argTypes := #[t, t] })
    (e : TypeId) (i : TypeInfo) (z : Value) (size bytes : Nat) (ht : P.underlying t = some (.slice e)) (hi : P.info? e = some i) (hz : i.zero = some z)
    (hsize : i.size = size) (hby : i.bytes = bytes) (hzs : z.cells.size = size) (hsz : 0 < size)
    (base : Nat) (A : Option Addr) (n : Nat) (olds : List Value) (hs : a.eval s = .slice A n n) (hAn : A = none → n = 0) (hlo : olds.length = n * size) (hA : Rd base w A olds) (hbs : base ≤ w.heap.size)
    (B : Option Addr) (m c : Nat) (news : List Value) (hx : a.eval x = .slice B m c) (hln : news.length = m * size) (hB : Rd 0 w B news) (h1 : ∀ u ∈ news, u.oneCell' = true)
    (b1 : n + m ≤ maxLen) (b2 : (n + m) * bytes ≤ 140737488355328)
    (h : ∀ A' c' os d, Rd base (more w os d) A' (olds ++ news) → (A' = none → n + m = 0) → n + m ≤ c' → wpList P ops Q rest (a.put o.dst (.slice A' (n + m) c')) (more w os d)) : wpList P ops Q (o :: rest) a w :=
  wpList_plain hgd fun _ hK => wp_append_full w s x t ho e i z size bytes ht hi hz hsize hby hzs hsz base A n olds hs hAn hlo hA hbs B m c news hx hln hB h1 b1 b2 fun A' c' os d h2 h3 h4 => hK _ _ (h A' c' os d h2 h3 h4)

/-- One new cell. -/
theorem Rd.one (w : World) (u : Value) (t : TypeId) : Rd w.heap.size (w.alloc (.cells #[u] t)) (some ⟨w.heap.size, 0, none⟩) [u] := fun j v hv => by
  match j with
  | 0 => exact ⟨_, _, rfl, Nat.le_refl _, by obtain rfl : u = v := by simpa using hv
                                             rw [World.cell?_alloc_at _ _ _ _ rfl]; rfl⟩
  | j + 1 => simp at hv
theorem Rd.alloc {base : Nat} {w : World} {A : Option Addr} {cs : List Value} (h : Rd base w A cs) (o : Obj) : Rd base (w.alloc o) A cs := h.ext ((Ext.refl _).alloc o)

/-- A list of ints in memory. -/
def SlI (base : Nat) (w : World) (A : Option Addr) (l : List Int) : Prop := Rd base w A (l.map (Value.int .i64))
theorem SlI.ext {base : Nat} {w w' : World} {A : Option Addr} {l : List Int} (h : SlI base w A l) (hb : Ext w w') : SlI base w' A l := Rd.ext h hb
end Go.Proofs.YtihfiegopnjeiaaDoor
