/- num.digitsOf: the digits of a number, in memory of their own. -/
import Derived.Test.YtihfiegopnjeiaaDoorCut
import Derived.Lib.OthersKept
namespace Go.Proofs.YtihfiegopnjeiaaDoor
set_option linter.unusedSimpArgs false
set_option linter.unusedVariables false
open Go.RowKit NM

abbrev b8 (l : List Nat) : List Value := l.map fun d : Nat => Value.int .u8 (d : Int)
theorem own_keep {w w' : World} {base : Nat} {e : TypeId} {v : Value} {n : Nat} {xs : List Value} (h : w.ownsRow base e 1 v n xs) (hb : ∀ (g : Nat) (cur : Array Value), w.heap[g]? = some (Obj.cells cur e (0, 0)) → w'.heap[g]? = w.heap[g]?) : w'.ownsRow base e 1 v n xs := by
  obtain ⟨h1, h2⟩ := h
  refine ⟨h1, ?_⟩
  rcases h2 with h2 | ⟨g, cap, cur, h3, h4, h5, h6⟩
  · exact Or.inl h2
  · exact Or.inr ⟨g, cap, cur, h3, h4, by rw [hb g cur h5]; exact h5, h6⟩
theorem own_block {w : World} {base : Nat} {e : TypeId} {v : Value} {n : Nat} {xs : List Value} (h : w.ownsRow base e 1 v n xs) : ∀ g, v.ownBlock = some g → base ≤ g ∧ ∃ cur, w.heap[g]? = some (.cells cur e (0, 0)) := by
  intro g hg
  obtain ⟨h1, h2⟩ := h
  rcases h2 with ⟨rfl, _⟩ | ⟨g', cap, cur, rfl, h4, h5, h6⟩
  · cases hg
  · simp only [Value.ownBlock, Option.some.injEq] at hg
    subst hg
    exact ⟨h4, cur, h5⟩
/-- What the loop of digitsOf keeps. -/
structure DigLoop (w : World) (s : ByteArray) (k : Nat) (l : List Nat) (pos : Nat) (v : Value) (wr : World) : Prop where
  own : wr.ownsRow w.heap.size 5 1 v pos (b8 (l.take pos))
  it : wr.heap[k]? = some (.stringIter s pos)
  ext : Ext w wr
  lo : w.heap.size ≤ k
theorem DigLoop.mid {w : World} {s : ByteArray} {k : Nat} {l : List Nat} {pos : Nat} {v : Value} {wr : World} (h : DigLoop w s k l pos v wr) (o : Obj) :
    ((wr.iterAt k s (pos + 1)).alloc o).ownsRow w.heap.size 5 1 v pos (b8 (l.take pos)) := by
  refine own_keep h.own fun g cur hg => ?_
  have hgl := lt_block hg
  have hne : g ≠ k := fun he => by rw [he, h.it] at hg; cases hg
  rw [RowKit.Below.heap_alloc _ o g (by rw [Lib.iterAt_size]; exact hgl), Lib.iterAt_other _ _ _ _ _ hne]
theorem DigLoop.step {w : World} {s : ByteArray} {k : Nat} {l : List Nat} {pos : Nat} {v v3 : Value} {wr w3 : World} {o : Obj} (h : DigLoop w s k l pos v wr) {d : Nat} (hd : l[pos]? = some d)
    (hg : ((wr.iterAt k s (pos + 1)).alloc o).grownBy w3 v.ownBlock) (ho : w3.ownsRow w.heap.size 5 1 v3 (pos + 1) (b8 (l.take pos) ++ [.int .u8 (d : Int)])) : DigLoop w s k l (pos + 1) v3 w3 := by
  have hk := lt_block h.it
  have hb := own_block h.own
  have hne : some k ≠ v.ownBlock := fun he => by
    obtain ⟨_, cur, hc⟩ := hb k he.symm
    rw [h.it] at hc; cases hc
  refine ⟨?_, ?_, ?_, h.lo⟩
  · rw [take_at hd, b8, List.map_append]; exact ho
  · rw [hg.block k (by simp [Lib.iterAt_size]; omega) hne, RowKit.Below.heap_alloc _ o k (by rw [Lib.iterAt_size]; exact hk)]
    exact Lib.iterAt_heap wr k s pos (pos + 1) h.it
  · refine ⟨hg.os.trans h.ext.os, hg.tape.trans h.ext.tape, hg.output.trans h.ext.output, ?_, fun j hj => ?_⟩
    · have h1 := h.ext.size
      have h2 := hg.size
      simp [Lib.iterAt_size] at h2
      omega
    · have h1 := h.ext.size
      have h2 := h.lo
      rw [hg.block j (by simp [Lib.iterAt_size]; omega) (fun he => by have := (hb j he.symm).1; omega), RowKit.Below.heap_alloc _ o j (by rw [Lib.iterAt_size]; omega), Lib.iterAt_other _ _ _ _ _ (by omega), h.ext.block hj]

theorem one_u8 (x : Int) : ∀ u ∈ [Value.int .u8 x], u.oneCell' = true := by
  intro u hu
  obtain rfl := List.mem_singleton.1 hu
  rfl
theorem DigLoop.start {w X : World} {s : ByteArray} {D : List Nat} {n c : Nat} (hx : Ext w X) (hn : n = X.heap.size) (hc : c ≤ maxLen) :
    DigLoop w s (n + 1) D 0 (.slice (some ⟨n, 0, none⟩) 0 c) ((X.alloc (.cells (madeCells #[.int .u8 0] c) 5)).iter s 0) := by
  subst hn
  have h0 := World.ownsRow_made (base := w.heap.size) (e := 5) (size := 1) X (madeCells #[.int .u8 0] c) c hx.size hc (by rw [size_madeCells]; simp)
  refine ⟨?_, ?_, ?_, by have := hx.size; omega⟩
  · refine own_keep (by simpa using h0) fun g cur hg => ?_
    exact RowKit.Below.heap_alloc _ _ g (lt_block hg)
  · have := World.iter_heap (X.alloc (.cells (madeCells #[.int .u8 0] c) 5)) s 0
    simpa using this
  · exact (hx.alloc _).alloc _
set_option maxRecDepth 100000 in
set_option maxHeartbeats 1000000 in
theorem digitsOf_any (u : Nat) (hu : u < 18446744073709551616) (w : World) (htab : Tab w) :
    Calls Tryd.prog 48 #[.int .u64 u] w fun e w' => ∃ v, e = .returned v ∧ w'.ownsRow w.heap.size 5 1 v (dig0 u).length (b8 (dig0 u)) ∧ Ext w w' := by
  have hfmt := fmt_any u hu w htab
  have hl20 : (dig0 u).length ≤ 20 := by rw [dig0_length]; have := (nd_le_iff u 20).2 (Nat.lt_of_lt_of_le hu (by decide)); omega
  have hl1 : 1 ≤ (dig0 u).length := by rw [dig0_length]; omega
  have hsz : (⟨(Lib.decDigits u).toArray⟩ : ByteArray).size = (dig0 u).length := by rw [dec_dig]; simp [ByteArray.size]
  have hat : ∀ (pos d : Nat) (h : pos < (⟨(Lib.decDigits u).toArray⟩ : ByteArray).size), (dig0 u)[pos]? = some d → ((⟨(Lib.decDigits u).toArray⟩ : ByteArray)[pos]'h).toNat = 48 + d := by
    intro pos d h hd
    have hd10 := (dig0_all u).at hd
    have h1 : (⟨(Lib.decDigits u).toArray⟩ : ByteArray)[pos]'h = (Lib.decDigits u)[pos]'(by rw [hsz] at h; rw [dec_dig]; simpa using h) := rfl
    rw [h1]
    have h2 : (Lib.decDigits u)[pos]? = some (UInt8.ofNat (48 + d)) := by rw [dec_dig, List.getElem?_map, hd]; rfl
    obtain ⟨h3, h4⟩ := List.getElem?_eq_some_iff.1 h2
    rw [h4, UInt8.toNat_ofNat']
    omega
  generalize (⟨(Lib.decDigits u).toArray⟩ : ByteArray) = s at *
  generalize hD : dig0 u = D at *
  have HAT := Lib.hid hat
  have HALL : Hid (AllD D) := by show AllD D; rw [← hD]; exact dig0_all u
  have HSZ := Lib.hid hsz
  have hsb : s.size ≤ 20 := by omega
  clear hat hD hsz htab
  obtain ⟨i0, hi, hz0, hz1, hz2⟩ := info_parts info_byte
  have hmk : ∀ W : World, (Instr.makeSlice 50 (.int .i64 0) (.int .i64 (s.size : Int))).run Tryd.prog W = .ok (.slice (some ⟨W.heap.size, 0, none⟩) 0 s.size) (W.alloc (.cells (madeCells #[.int .u8 0] s.size) 5)) := fun W => by
    have := run_make (P := Tryd.prog) W 50 5 i0 _ Tryd.underlying50 hi hz0 .i64 .i64 0 (s.size : Int) (by omega) (by omega) (by rw [hz2]; omega) (by omega)
    simpa [hz1, Value.cells] using this
  go_enter Tryd.func48, Tryd.ntmps48
  go_wp2_with (go_at_call 56; refine hfmt.mono ?_; rintro e w' ⟨rfl, hb⟩; obtain ⟨os, d, rfl⟩ := hb.more)
  have hx0 : Ext w (more w os d) := hb
  go_loopw [4] (fun v wr => ∃ pos : Nat, pos ≤ s.size ∧ Hid (DigLoop w s (w.heap.size + os.size + 1) D pos v wr)) (fun _ wr => s.size - wr.iterPos (w.heap.size + os.size + 1))
  case atStart =>
    refine ⟨0, Nat.zero_le _, ?_⟩
    exact DigLoop.start hx0 (by simp) (by simp [maxLen]; omega)
  case round =>
    obtain ⟨pos, hpos, H⟩ := hrel
    by_cases hp : pos < s.size
    · obtain ⟨d', hd'⟩ : ∃ d', D[pos]? = some d' := ⟨D[pos]'(by have := HSZ.out; omega), by rw [List.getElem?_eq_getElem]⟩
      have hbt := HAT.out pos d' hp hd'
      have h10 := HALL.out.at hd'
      have hnx : ∀ ty, (Instr.next (.pointer (some ⟨w.heap.size + os.size + 1, 0, none⟩)) true ty).run Tryd.prog wr = _ := fun ty => Lib.run_next_ascii_at wr (w.heap.size + os.size + 1) s pos ty H.out.it hp (by omega)
      rw [hbt] at hnx
      have HD' := Lib.hid hd'
      clear hbt hd'
      have hsz0 := H.out.ext.size
      go_wp2_with (at_builtin; refine wpList_append_own _ rfl _ _ _ rfl w.heap.size 5 i0 (.int .u8 0) 1 1 Tryd.underlying50 hi hz0 hz1 hz2 rfl (by decide) _ pos (b8 (D.take pos)) rfl (H.out.mid _) _ 1 1 [.int .u8 (48 + (d' : Int) - 48)] rfl rfl (Rd.one_ _ _ rfl).add (one_u8 _) (by simp [maxLen]; omega) (by omega) (by simp [Lib.iterAt_size]; omega) ?_; intro v3 w3 ho3 hg3 _)
      have hdd : 48 + (d' : Int) - 48 = d' := by omega
      rw [hdd] at ho3
      have h2 := H.out.step HD'.out hg3 ho3
      refine ⟨⟨pos + 1, by omega, h2⟩, ?_⟩
      simp only [World.iterPos, h2.it, H.out.it]
      omega
    · have hnx : ∀ ty, (Instr.next (.pointer (some ⟨w.heap.size + os.size + 1, 0, none⟩)) true ty).run Tryd.prog wr = _ := fun ty => Lib.run_next_end_at wr (w.heap.size + os.size + 1) s pos ty H.out.it hp
      go_wp2_with fail
      go_ret
      have h3 := H.out
      obtain rfl : pos = D.length := by have := HSZ.out; omega
      have h4 := h3.own
      rw [List.take_length] at h4
      exact ⟨_, rfl, h4, h3.ext⟩
end Go.Proofs.YtihfiegopnjeiaaDoor
