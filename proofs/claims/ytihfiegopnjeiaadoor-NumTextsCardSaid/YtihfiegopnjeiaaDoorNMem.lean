/- Lists of digits in memory. -/
import Derived.Test.YtihfiegopnjeiaaDoorFmt
import Derived.Lib.OthersKept
namespace Go.Proofs.YtihfiegopnjeiaaDoor
set_option linter.unusedSimpArgs false
set_option linter.unusedVariables false
open Go.RowKit NM

/-- A slice's cells: these digits, in a block from 'base' on that may be written. -/
def Dg (k : IntKind) (ty : TypeId) (base : Nat) (w : World) (A : Option Addr) (cap : Nat) (l : List Nat) : Prop :=
  l.length ≤ cap ∧ (l = [] ∨ ∃ b off cur, A = some ⟨b, off, none⟩ ∧ base ≤ b ∧ w.heap[b]? = some (.cells cur ty (0, 0)) ∧ ∀ (j d : Nat), l[j]? = some d → cur[off + j]? = some (.int k (d : Int)))
section
variable {k : IntKind} {ty : TypeId} {base base' : Nat} {w w' : World} {A : Option Addr} {cap : Nat} {l : List Nat}
theorem lt_block {b : Nat} {o : Obj} (h : w.heap[b]? = some o) : b < w.heap.size := by
  rcases Nat.lt_or_ge b w.heap.size with hl | hl
  · exact hl
  · rw [Array.getElem?_eq_none hl] at h; cases h
theorem Dg.nil (A : Option Addr) (cap : Nat) : Dg k ty base w A cap [] := ⟨Nat.zero_le _, Or.inl rfl⟩
theorem Dg.ext (h : Dg k ty base w A cap l) (hx : Ext w w') : Dg k ty base w' A cap l := by
  refine ⟨h.1, ?_⟩
  rcases h.2 with h | ⟨b, off, cur, h1, h2, h3, h4⟩
  · exact Or.inl h
  · exact Or.inr ⟨b, off, cur, h1, h2, by rw [hx.block (lt_block h3)]; exact h3, h4⟩
theorem Dg.mono (h : Dg k ty base w A cap l) (hb : base' ≤ base) : Dg k ty base' w A cap l := by
  refine ⟨h.1, ?_⟩
  rcases h.2 with h | ⟨b, off, cur, h1, h2, h3, h4⟩
  · exact Or.inl h
  · exact Or.inr ⟨b, off, cur, h1, by omega, h3, h4⟩
theorem Dg.of_own {v : Value} {n : Nat} (h : w.ownsRow base ty 1 v n (l.map fun d : Nat => Value.int k (d : Int))) : ∃ A cap, v = .slice A l.length cap ∧ Dg k ty base w A cap l ∧ n = l.length := by
  obtain ⟨h1, h2⟩ := h
  have hn : n = l.length := by simpa using h1.symm
  subst hn
  rcases h2 with ⟨rfl, h0⟩ | ⟨g, c, cur, rfl, h3, h4, h5, h6, h7, h8⟩
  · have : l = [] := List.eq_nil_of_length_eq_zero h0
    subst this
    exact ⟨none, 0, rfl, Dg.nil _ _, rfl⟩
  · refine ⟨_, _, rfl, ⟨h5, Or.inr ⟨g, 0, cur, rfl, h3, h4, fun j d hd => ?_⟩⟩, rfl⟩
    have hj : j < l.length := by
      rcases Nat.lt_or_ge j l.length with hl | hl
      · exact hl
      · rw [List.getElem?_eq_none hl] at hd; cases hd
    have : (cur.toList.take (l.length * 1))[j]? = some (.int k (d : Int)) := by rw [h8, List.getElem?_map, hd]; rfl
    rw [List.getElem?_take_of_lt (by omega)] at this
    rw [Nat.zero_add]; simpa using this
/-- The slice with its place, and its first digit. -/
theorem Dg.cons {d : Nat} (h : Dg k ty base w A cap (d :: l)) : ∃ b off, A = some ⟨b, off, none⟩ ∧ base ≤ b ∧ w.cell? ⟨b, off, none⟩ = some (.int k (d : Int)) := by
  rcases h.2 with h | ⟨b, off, cur, rfl, h2, h3, h4⟩
  · cases h
  · refine ⟨b, off, rfl, h2, ?_⟩
    have := h4 0 d rfl
    unfold World.cell?
    rw [h3]
    simpa using this
theorem Dg.tail {d : Nat} {b off : Nat} (h : Dg k ty base w (some ⟨b, off, none⟩) cap (d :: l)) : Dg k ty base w (some ⟨b, off + 1, none⟩) (cap - 1) l := by
  refine ⟨by have := h.1; simp at this; omega, ?_⟩
  rcases h.2 with h | ⟨b', off', cur, h1, h2, h3, h4⟩
  · cases h
  · simp only [Option.some.injEq, Addr.mk.injEq, and_true] at h1
    obtain ⟨rfl, rfl⟩ := h1
    refine Or.inr ⟨b, off + 1, cur, rfl, h2, h3, fun j d' hd => ?_⟩
    have := h4 (j + 1) d' (by simpa using hd)
    rw [← this]; congr 1; omega
theorem Dg.at {i d : Nat} (h : Dg k ty base w A cap l) (hd : l[i]? = some d) : ∃ b off, A = some ⟨b, off, none⟩ ∧ base ≤ b ∧ w.cell? ⟨b, off + i, none⟩ = some (.int k (d : Int)) ∧ w.frozen? ⟨b, off + i, none⟩ = false := by
  rcases h.2 with h | ⟨b, off, cur, rfl, h2, h3, h4⟩
  · subst h; simp at hd
  · refine ⟨b, off, rfl, h2, ?_, ?_⟩
    · have := h4 i d hd
      unfold World.cell?
      rw [h3]
      simpa using this
    · unfold World.frozen?
      rw [h3]
      simp
theorem Dg.set {i d : Nat} {b off : Nat} (h : Dg k ty base w (some ⟨b, off, none⟩) cap l) (hi : i < l.length) : Dg k ty base (w.setCell ⟨b, off + i, none⟩ (.int k (d : Int))) (some ⟨b, off, none⟩) cap (l.set i d) := by
  refine ⟨by simpa using h.1, ?_⟩
  rcases h.2 with h | ⟨b', off', cur, h1, h2, h3, h4⟩
  · subst h; simp at hi
  · simp only [Option.some.injEq, Addr.mk.injEq, and_true] at h1
    obtain ⟨rfl, rfl⟩ := h1
    refine Or.inr ⟨b, off, cur.setIfInBounds (off + i) (.int k (d : Int)), rfl, h2, ?_, fun j d' hd => ?_⟩
    · simp [World.setCell, Array.getElem?_modify, h3]
    · have hcur : ∃ x, cur[off + i]? = some x := by
        obtain ⟨y, hy⟩ : ∃ y, l[i]? = some y := ⟨l[i], by simp [hi]⟩
        exact ⟨_, h4 i y hy⟩
      obtain ⟨x, hx⟩ := hcur
      have hlt : off + i < cur.size := by
        rcases Nat.lt_or_ge (off + i) cur.size with hl | hl
        · exact hl
        · rw [Array.getElem?_eq_none hl] at hx; cases hx
      by_cases hji : i = j
      · subst hji
        rw [List.getElem?_set_self hi] at hd
        obtain rfl : d = d' := by simpa using hd
        rw [Array.getElem?_setIfInBounds_self_of_lt hlt]
      · rw [List.getElem?_set_ne hji] at hd
        rw [Array.getElem?_setIfInBounds_ne (by omega)]
        exact h4 j d' hd
theorem Dg.take (h : Dg k ty base w A cap l) (n : Nat) (c : Nat) (hc : n ≤ c) : Dg k ty base w A c (l.take n) := by
  refine ⟨by rw [List.length_take]; omega, ?_⟩
  rcases h.2 with h | ⟨b, off, cur, h1, h2, h3, h4⟩
  · exact Or.inl (by rw [h]; simp)
  · refine Or.inr ⟨b, off, cur, h1, h2, h3, fun j d hd => h4 j d ?_⟩
    rw [List.getElem?_take] at hd
    split at hd
    · exact hd
    · cases hd
theorem Dg.drop {b off : Nat} (h : Dg k ty base w (some ⟨b, off, none⟩) cap l) (n : Nat) : Dg k ty base w (some ⟨b, off + n, none⟩) (cap - n) (l.drop n) := by
  refine ⟨by rw [List.length_drop]; have := h.1; omega, ?_⟩
  rcases h.2 with h | ⟨b', off', cur, h1, h2, h3, h4⟩
  · exact Or.inl (by rw [h]; simp)
  · simp only [Option.some.injEq, Addr.mk.injEq, and_true] at h1
    obtain ⟨rfl, rfl⟩ := h1
    refine Or.inr ⟨b, off + n, cur, rfl, h2, h3, fun j d hd => ?_⟩
    rw [List.getElem?_drop] at hd
    rw [Nat.add_assoc]; exact h4 _ _ hd
/-- As a list that is only read. -/
theorem Dg.rd (h : Dg k ty base w A cap l) : Rd base w A (l.map fun d : Nat => Value.int k (d : Int)) := fun j u hu => by
  rw [List.getElem?_map] at hu
  cases hd : l[j]? with
  | none => rw [hd] at hu; cases hu
  | some d =>
    rw [hd] at hu
    obtain rfl : Value.int k (d : Int) = u := by simpa using hu
    obtain ⟨b, off, hA, hb, hc, _⟩ := h.at hd
    exact ⟨b, off, hA, hb, hc⟩
end


def slen : Value → Nat
  | .slice _ n _ => n
  | _ => 0
set_option maxHeartbeats 400000 in
theorem bare_any (base : Nat) (A : Option Addr) (cap : Nat) (l : List Nat) (w : World) (h : Dg .u8 5 base w A cap l) (hl : l.length ≤ 4611686018427387904) :
    Calls Tryd.prog 72 #[.slice A l.length cap] w fun e w' => (∃ A' cap', e = .returned (.slice A' (strip l).length cap') ∧ Dg .u8 5 base w A' cap' (strip l)) ∧ w = w' := by
  generalize hR : strip l = R
  have HR := Lib.hid hR
  clear hR
  go_enter Tryd.func72, Tryd.ntmps72
  go_wp2
  go_loop [0] (fun s => ∃ (l' : List Nat) (A' : Option Addr) (cap' : Nat), l'.length ≤ 4611686018427387904 ∧ s = .slice A' l'.length cap' ∧ Dg .u8 5 base w A' cap' l' ∧ Hid (strip l' = R)) (fun s => slen s)
  case atStart => exact ⟨l, A, cap, hl, rfl, h, HR⟩
  case round =>
    obtain ⟨l', A', cap', hl', rfl, hd, H⟩ := hrel
    clear h hl
    cases l' with
    | nil =>
      obtain rfl : [] = R := H.out
      go_wp2
      go_ret
      exact ⟨⟨A', cap', rfl, Dg.nil _ _⟩, rfl⟩
    | cons d t =>
      obtain ⟨b, off, rfl, hb, hc⟩ := hd.cons
      have hcap := hd.1
      rw [List.length_cons] at hl' hcap ⊢
      by_cases h0 : d = 0
      · subst h0
        have HH := Lib.hid hd.tail
        clear hd
        by_cases hc1 : cap' = 1
        · subst hc1
          obtain rfl : t = [] := List.eq_nil_of_length_eq_zero (by omega)
          go_wp2
          exact ⟨⟨[], _, 0, by simp, rfl, Dg.nil _ _, H⟩, by simp [slen]⟩
        · have hc1' : 1 < cap' := by omega
          go_wp2
          exact ⟨⟨t, _, _, by omega, rfl, HH.out, by have := H.out; rw [strip_zero] at this; exact this⟩, by simp [slen]⟩
      · have h0' : (((d : Int)) == 0) = false := by simp; omega
        go_wp2
        obtain rfl : d :: t = R := by have := H.out; rwa [strip_pos _ h0] at this
        go_ret
        exact ⟨⟨_, cap', rfl, hd⟩, rfl⟩

/-- append that must grow: the whole list in a block of its own. -/
theorem wp_append_grow {P : Program} (w : World) {o : Oper} {a : Act} {K : Act → World → Prop} {Q : Exit → Act → World → Prop} (s x : Operand) (t : TypeId)
    (ho : o.op = .call { callee := .builtin .append, args := #[s, x], argTypes := #[t, t] })
    (e : TypeId) (i : TypeInfo) (z : Value) (size bytes : Nat) (ht : P.underlying t = some (.slice e)) (hi : P.info? e = some i) (hz : i.zero = some z)
    (hsize : i.size = size) (hby : i.bytes = bytes) (hzs : z.cells.size = size) (hsz : 0 < size)
    (ad : Addr) (n cap : Nat) (olds : List Value) (hs : a.eval s = .slice (some ad) n cap) (hlo : olds.length = n * size) (hA : Rd 0 w (some ad) olds)
    (B : Option Addr) (m c : Nat) (news : List Value) (hx : a.eval x = .slice B m c) (hln : news.length = m * size) (hB : Rd 0 w B news)
    (hfull : cap < n + m) (hc : n ≤ cap) (b1 : n + m ≤ maxLen) (b2 : (n + m) * bytes ≤ 140737488355328)
    (h : ∀ v' os d, (more w os d).ownsRow w.heap.size e size v' (n + m) (olds ++ news) → K (a.put o.dst v') (more w os d)) : o.wp P a w K Q := by
  have hm : 0 < m := by omega
  have hpos : 0 < news.length := by rw [hln]; exact Nat.mul_pos hm hsz
  obtain ⟨b, off, rfl, _, _⟩ := hB 0 news[0] (by simp [hpos])
  obtain ⟨v', w', hrun, hown, hg⟩ := run_append_arg_grows (P := P) w t o.type e i z size bytes ht hi hz hsize hby hzs hsz ad n cap olds hlo hA.add ⟨b, off, none⟩ m c news hln hB.add hfull b1 b2
  obtain ⟨os, d, rfl⟩ := (Ext.of_grown hg).more
  unfold Oper.wp execOp
  simp only [ho, resolve, invoke, builtin, Sem.run_bind, Sem.run_pure, Result.andThen_ok, List.map_toArray, List.map_cons, List.map_nil, hs, hx, hrun]
  exact h _ _ _ hown
theorem wpList_append_grow {P : Program} (w : World) {ops : Array Oper} {rest : List Oper} {o : Oper} {a : Act} {Q : Exit → Act → World → Prop} (hgd : o.guard = none) (s x : Operand) (t : TypeId)
    (ho : o.op = .call { callee := .builtin .append, args := #[s, x], argTypes := #[t, t] })
    (e : TypeId) (i : TypeInfo) (z : Value) (size bytes : Nat) (ht : P.underlying t = some (.slice e)) (hi : P.info? e = some i) (hz : i.zero = some z)
    (hsize : i.size = size) (hby : i.bytes = bytes) (hzs : z.cells.size = size) (hsz : 0 < size)
    (ad : Addr) (n cap : Nat) (olds : List Value) (hs : a.eval s = .slice (some ad) n cap) (hlo : olds.length = n * size) (hA : Rd 0 w (some ad) olds)
    (B : Option Addr) (m c : Nat) (news : List Value) (hx : a.eval x = .slice B m c) (hln : news.length = m * size) (hB : Rd 0 w B news)
    (hfull : cap < n + m) (hc : n ≤ cap) (b1 : n + m ≤ maxLen) (b2 : (n + m) * bytes ≤ 140737488355328)
    (h : ∀ v' os d, (more w os d).ownsRow w.heap.size e size v' (n + m) (olds ++ news) → wpList P ops Q rest (a.put o.dst v') (more w os d)) : wpList P ops Q (o :: rest) a w :=
  wpList_plain hgd fun _ hK => wp_append_grow w s x t ho e i z size bytes ht hi hz hsize hby hzs hsz ad n cap olds hs hlo hA B m c news hx hln hB hfull hc b1 b2 fun v' os d h2 => hK _ _ (h v' os d h2)
theorem Rd.one_ {w : World} {n : Nat} (u : Value) (t : TypeId) (hn : n = w.heap.size) : Rd 0 (w.alloc (.cells #[u] t)) (some ⟨n, 0, none⟩) [u] := by
  subst hn
  exact (Rd.one w u t).mono (Nat.zero_le _)
theorem Dg.new {k : IntKind} {ty : TypeId} {base n : Nat} {w : World} (l : List Nat) {C : Array Value} (hC : C = (l.map fun d : Nat => Value.int k (d : Int)).toArray) (hn : n = w.heap.size) (hb : base ≤ n) : Dg k ty base (w.alloc (.cells C ty)) (some ⟨n, 0, none⟩) l.length l := by
  subst hn hC
  refine ⟨Nat.le_refl _, Or.inr ⟨_, 0, _, rfl, hb, Array.getElem?_push_size, fun j d hd => ?_⟩⟩
  simp [hd]
theorem below_more {base : Nat} {w X : World} (h : Below base w X) (hb : base ≤ X.heap.size) (os : Array Obj) (d : Nat) : Below base w (more X os d) := Below.trans h (Below.mono (ext_more X os d) hb)
/-- What lies below 'base', and what is no row of bytes, is as it was. -/
structure Kp (base : Nat) (w w' : World) : Prop where
  bel : Below base w w'
  oth : Lib.OthersKept 5 none w w'
theorem oth_ext {w w' : World} (h : Ext w w') : Lib.OthersKept 5 none w w' := fun k o hk _ _ => by rw [h.block (lt_block hk)]; exact hk
theorem Kp.of_ext {base : Nat} {w w' : World} (h : Ext w w') (hb : base ≤ w.heap.size) : Kp base w w' := ⟨Below.mono h hb, oth_ext h⟩
theorem Kp.refl (base : Nat) (w : World) : Kp base w w := ⟨Below.refl _ _, Lib.OthersKept.refl _ _ _⟩
theorem Kp.trans {base : Nat} {a b c : World} (h : Kp base a b) (k : Kp base b c) : Kp base a c := ⟨h.bel.trans k.bel, h.oth.trans k.oth⟩
theorem Kp.size {base : Nat} {a b : World} (h : Kp base a b) : a.heap.size ≤ b.heap.size := h.bel.size
theorem Kp.mono {base base' : Nat} {a b : World} (h : Kp base a b) (hb : base' ≤ base) : Kp base' a b := ⟨Below.mono h.bel hb, h.oth⟩
theorem Kp.drew {base : Nat} {a b : World} (h : Kp base a b) : Kp base a b.drew := ⟨h.bel.drew, h.oth.drew⟩
theorem Kp.then_ext {base : Nat} {a b c : World} (h : Kp base a b) (hx : Ext b c) (hb : base ≤ a.heap.size) : Kp base a c := h.trans (Kp.of_ext hx (Nat.le_trans hb h.size))
theorem Kp.set {base : Nat} {a w : World} (h : Kp base a w) {b off cap i : Nat} {l : List Nat} (hd : Dg .u8 5 base w (some ⟨b, off, none⟩) cap l) (hl : l ≠ []) (v : Value) : Kp base a (w.setCell ⟨b, off + i, none⟩ v) := by
  rcases hd.2 with h0 | ⟨b', off', cur, h1, h2, h3, h4⟩
  · exact absurd h0 hl
  · simp only [Option.some.injEq, Addr.mk.injEq, and_true] at h1
    obtain ⟨rfl, rfl⟩ := h1
    refine ⟨h.bel.setCell h2 _, fun k o hk hb ho => ?_⟩
    have h5 := h.oth k o hk hb ho
    have hne : k ≠ b := fun he => by
      subst he
      rw [h3] at h5
      exact ho cur (0, 0) (Option.some.inj h5).symm
    rw [RowKit.Below.heap_setCell _ _ _ _ hne]
    exact h5
theorem info_byte : (Tryd.prog.info? 5).map (fun i => (i.zero, i.size, i.bytes)) = some (some (.int .u8 0), 1, 1) := by kernel_rfl
theorem strip_of_zero {l : List Nat} (h : AllD l) (h0 : val l = 0) : strip l = [] := by rw [← dig_val h, h0, dig_zero]
theorem strip_ne {l : List Nat} (h0 : val l ≠ 0) : 0 < (strip l).length := by
  rcases Nat.eq_zero_or_pos (strip l).length with h | h
  · exact absurd (by rw [← val_strip, List.eq_nil_of_length_eq_zero h]; rfl) h0
  · exact h
end Go.Proofs.YtihfiegopnjeiaaDoor
