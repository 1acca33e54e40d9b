/- num.settle: digits from 0 to 9 of a sum's. -/
import Derived.Test.YtihfiegopnjeiaaDoorGather
import Derived.Deep.CutBlock
namespace Go.Proofs.YtihfiegopnjeiaaDoor
set_option linter.unusedSimpArgs false
set_option linter.unusedVariables false
open Go.RowKit NM

theorem make_bytes (n : Nat) (hn : n ≤ 100000) (W : World) : (Instr.makeSlice 50 (.int .i64 (n : Int)) (.int .i64 (n : Int))).run Tryd.prog W = .ok (.slice (some ⟨W.heap.size, 0, none⟩) n n) (W.alloc (.cells (madeCells #[.int .u8 0] n) 5)) := by
  obtain ⟨i0, hi, hz0, hz1, hz2⟩ := info_parts info_byte
  have := run_make (P := Tryd.prog) W 50 5 i0 _ Tryd.underlying50 hi hz0 .i64 .i64 (n : Int) (n : Int) (by omega) (by omega) (by rw [hz2]; omega) (by omega)
  simpa [hz1, Value.cells] using this
theorem dropI_at {l : List Int} {j : Nat} {x : Int} (h : l[j]? = some x) : l.drop j = x :: l.drop (j + 1) := by
  have hj := lt_at h
  rw [List.drop_eq_getElem_cons hj]
  rw [List.getElem?_eq_getElem hj] at h
  rw [Option.some.inj h]
/-- The bounds of one place, with the sign of the whole. -/
theorem DOk_bd {l : List Int} (h : DOk l) {x : Int} (hx : x ∈ l) : if sgn l then -18 ≤ x ∧ x ≤ 9 else -9 ≤ x ∧ x ≤ 18 := by
  rcases h with h | h | h
  · have := h x hx; split <;> omega
  · have h1 := h x hx
    have h2 : sgn l = false := by
      have := sgn_spec (l := l) (Or.inr (Or.inl h))
      rw [this]
      have h3 := valI_nonneg (l := l) (fun d hd => (h d hd).1)
      simp; omega
    rw [h2]; simp; omega
  · have h1 := h x hx
    cases hs : sgn l with
    | true => simp; omega
    | false =>
      have h0 : ∀ (m : List Int), (∀ d ∈ m, -18 ≤ d ∧ d ≤ 0) → sgn m = false → ∀ d ∈ m, d = 0 := by
        intro m
        induction m with
        | nil => intro _ _ d hd; cases hd
        | cons y m ih =>
          intro hm hs d hd
          rw [sgn] at hs
          by_cases hy : y = 0
          · rw [if_pos hy] at hs
            rcases List.mem_cons.1 hd with rfl | hd
            · exact hy
            · exact ih (fun d hd => hm d (List.mem_cons_of_mem _ hd)) hs d hd
          · rw [if_neg hy] at hs
            have := hm y (List.mem_cons_self ..)
            simp at hs; omega
      have := h0 l h hs x hx
      simp; omega
/-- What settle keeps: the digits from place j on. -/
structure SetSt (W : World) (L j : Nat) (S : List Nat) (wr : World) : Prop where
  out : Dg .u8 5 W.heap.size wr (some ⟨W.heap.size, 0, none⟩) L (List.replicate j 0 ++ S)
  len : S.length = L - j
  all : AllD S
  ext : Ext W wr
theorem SetSt.step {W wr : World} {L j d : Nat} {S : List Nat} (h : SetSt W L (j + 1) S wr) (hd : d < 10) (hj : j + 1 ≤ L) : SetSt W L j (d :: S) (wr.setCell ⟨W.heap.size, j, none⟩ (.int .u8 (d : Int))) := by
  refine ⟨?_, by simp [h.len]; omega, AllD.cons hd h.all, h.ext.set _ (Nat.le_refl _)⟩
  have := h.out.set (i := j) (d := d) (by simp; omega)
  rw [Nat.zero_add, List.set_append_left _ _ (by simp)] at this
  have he : (List.replicate (j + 1) 0).set j d = List.replicate j 0 ++ [d] := by
    rw [List.replicate_succ', List.set_append_right _ _ (by simp)]; simp
  rw [he, List.append_assoc, List.singleton_append] at this
  exact this
theorem SetSt.at {W wr : World} {L j : Nat} {S : List Nat} (h : SetSt W L (j + 1) S wr) : wr.cell? ⟨W.heap.size, j, none⟩ = some (.int .u8 0) ∧ wr.frozen? ⟨W.heap.size, j, none⟩ = false := by
  obtain ⟨b, off, h1, _, h2, h3⟩ := h.out.at (i := j) (d := 0) (by rw [List.getElem?_append_left (by simp)]; simp [List.getElem?_replicate])
  simp only [Option.some.injEq, Addr.mk.injEq, and_true] at h1
  obtain ⟨rfl, rfl⟩ := h1
  rw [Nat.zero_add] at h2 h3
  exact ⟨h2, h3⟩
/-- One place settled. -/
theorem settle_step {l : List Int} {j : Nat} {x c c' : Int} {d : Nat} {S : List Nat} (s : Int) (hx : l[j]? = some x) (hS : S.length = l.length - (j + 1)) (h : s * valI (l.drop (j + 1)) = c * (T S.length : Nat) + (val S : Int)) (hd : (d : Int) + 10 * c' = s * x + c) :
    s * valI (l.drop j) = c' * (T (S.length + 1) : Nat) + (val (d :: S) : Int) := by
  have hj := lt_at hx
  have hl : (l.drop (j + 1)).length = S.length := by simp; omega
  rw [dropI_at hx, valI_cons, val_cons, hl, T_succ, Int.mul_add, h, Int.natCast_add, Int.natCast_mul, Int.natCast_mul, ← Int.mul_assoc s x]
  generalize ((T S.length : Nat) : Int) = t at *
  have h1 : (d : Int) * t + 10 * c' * t = s * x * t + c * t := by rw [← Int.add_mul, hd, Int.add_mul]
  have h2 : c' * (10 * t) = 10 * c' * t := by rw [← Int.mul_assoc, Int.mul_comm c' 10]
  show _ = c' * (10 * t) + _
  rw [h2]; omega
theorem sgn_zero {l : List Int} {x : Int} {j : Nat} (hx : l[j]? = some x) (h0 : x = 0) : sgn (l.drop j) = sgn (l.drop (j + 1)) := by rw [dropI_at hx, sgn, if_pos h0]
theorem sgn_pos {l : List Int} {x : Int} {j : Nat} (hx : l[j]? = some x) (h0 : x ≠ 0) : sgn (l.drop j) = decide (x < 0) := by rw [dropI_at hx, sgn, if_neg h0]
set_option maxRecDepth 100000 in
set_option maxHeartbeats 4000000 in
theorem settle_any (b L : Nat) (l : List Int) (w : World) (hl : l.length = L) (h : IRow w b l) (hok : DOk l) (hbig : L ≤ 10000) (hT : (valI l).natAbs < T L) :
    Calls Tryd.prog 68 #[.slice (some ⟨b, 0, none⟩) L L] w fun e w' => e = .returned (.tuple #[.slice (some ⟨w.heap.size, 0, none⟩) L L, .bool (decide (valI l < 0))]) ∧ (∃ D, Dg .u8 5 w.heap.size w' (some ⟨w.heap.size, 0, none⟩) L D ∧ D.length = L ∧ AllD D ∧ val D = (valI l).natAbs) ∧ Ext w w' := by
  have hs := sgn_spec hok
  have hbd := fun x hx => DOk_bd hok (x := x) hx
  have hmk := make_bytes L (by omega)
  have hb := lt_block h
  rw [← hs]
  have HS := Lib.hid hs
  have HBD := Lib.hid hbd
  have HI := Lib.hid h
  have HL := Lib.hid hl
  have HT := Lib.hid hT
  clear hs hbd h hl hT hok
  generalize hG : sgn l = G at *
  have HG := Lib.hid hG
  clear hG
  go_enter Tryd.func68, Tryd.ntmps68
  go_upto_block 0 with fail
  go_cut [4] (fun s4 wx => s4 = .bool G ∧ wx = w)
  case first =>
    go_wp2_with fail
    go_loop [4, 13] (fun a i => ∃ j : Nat, j ≤ L ∧ i = .int .i64 (j : Int) ∧ a = .bool false ∧ Hid (sgn (l.drop j) = G)) (fun _ i => L - (intOf i).toNat)
    case atStart => exact ⟨0, Nat.zero_le _, rfl, rfl, HG⟩
    case round =>
      obtain ⟨j, hj, rfl, rfl, HJ⟩ := hrel
      by_cases hlt : j < L
      · obtain ⟨x, hx⟩ : ∃ x, l[j]? = some x := ⟨l[j]'(by have := HL.out; omega), by rw [List.getElem?_eq_getElem]⟩
        obtain ⟨hc1, hc2⟩ := HI.out.at hx
        by_cases h0 : x = 0
        · have e0 : (x == 0) = true := by simp [h0]
          have HJ2 : Hid (sgn (l.drop (j + 1)) = G) := by show _ = _; rw [← sgn_zero hx h0]; exact HJ.out
          clear hx h0
          go_wp2
          exact ⟨⟨j + 1, by omega, by go_num, rfl, HJ2⟩, by simp [intOf]; omega⟩
        · have e0 : (x == 0) = false := by simp [h0]
          have HJ2 : Hid (decide (x < 0) = G) := by show _ = _; rw [← sgn_pos hx h0]; exact HJ.out
          clear hx h0
          go_wp2
          go_meet
          exact ⟨by rw [← HJ2.out], rfl⟩
      · go_wp2
        go_meet
        refine ⟨?_, rfl⟩
        have := HJ.out
        rw [List.drop_eq_nil_of_le (by have := HL.out; omega)] at this
        rw [← this]; rfl
  case rest =>
  obtain ⟨rfl, rfl⟩ := hcut
  have HST : Hid (SetSt wc L L [] (wc.alloc (.cells (madeCells #[.int .u8 0] L) 5))) := ⟨by have := made_dg (k := .u8) (ty := 5) (w := wc) L rfl (Nat.le_refl _); simpa using this, by simp, AllD.nil, (Ext.refl _).alloc _⟩
  go_wp2
  go_loopw [8, 9] (fun a i wr => ∃ (j : Nat) (c : Int) (S : List Nat), j ≤ L ∧ -1 ≤ c ∧ c ≤ 1 ∧ i = .int .i64 ((j : Int) - 1) ∧ a = .int .i64 c ∧ Hid (SetSt wc L j S wr) ∧ Hid ((if G then -1 else 1) * valI (l.drop j) = c * (T S.length : Nat) + (val S : Int))) (fun _ i _ => ((intOf i) + 1).toNat)
  case atStart =>
    exact ⟨L, 0, [], Nat.le_refl _, by omega, by omega, by go_num, rfl, HST, by show _ = _; rw [List.drop_eq_nil_of_le (by rw [HL.out]; exact Nat.le_refl _)]; simp [val_nil, valI_nil]⟩
  case round =>
    obtain ⟨j, c, S, hj, hca, hcb, rfl, rfl, H, HV⟩ := hrel
    have hxr := H.out.ext
    have hsz := hxr.size
    cases j with
    | zero =>
      have HF : Hid (val S = (valI l).natAbs) := by
        show _ = _
        have h1 := HV.out
        have h2 := val_lt H.out.all
        have h3 := H.out.len
        have h4 := HT.out
        have h5 := HS.out
        rw [List.drop_zero] at h1
        rw [h3, Nat.sub_zero] at h1 h2
        have hTp := T_pos L
        have hGV : (if G = true then (-1 : Int) else 1) * valI l = ((valI l).natAbs : Int) := by
          cases G with
          | true => simp at h5 ⊢; omega
          | false => simp at h5 ⊢; omega
        rw [hGV] at h1
        have h6 : c = -1 ∨ c = 0 ∨ c = 1 := by omega
        generalize ((valI l).natAbs) = V at *
        generalize T L = t at *
        rcases h6 with h6 | h6 | h6 <;> rw [h6] at h1 <;> omega
      go_wp2
      go_ret2
      exact ⟨rfl, ⟨S, by simpa using H.out.out, by have := H.out.len; omega, H.out.all, HF.out⟩, hxr⟩
    | succ j =>
      have hjL : j < L := by omega
      obtain ⟨x, hx⟩ : ∃ x, l[j]? = some x := ⟨l[j]'(by have := HL.out; omega), by rw [List.getElem?_eq_getElem]⟩
      obtain ⟨hc1, hc2⟩ := HI.out.at hx
      have hc1' := hxr.cell_some hc1
      have hxb := HBD.out x (List.mem_of_getElem? hx)
      obtain ⟨o0, o1⟩ := H.out.at
      have hji : (((j + 1 : Nat) : Int) - 1) = (j : Int) := by omega
      rw [hji]
      have HSP := Lib.hid (fun d (hd1 : d < 10) => H.out.step hd1 hj)
      have HSTEP := Lib.hid (fun (d : Nat) (c' : Int) => settle_step (d := d) (c' := c') (if G then -1 else 1) hx (by rw [H.out.len, HL.out]) HV.out)
      clear hx HV hc1 hc2
      cases G with
      | true =>
        have hxb1 : -9 ≤ -x ∧ -x ≤ 18 := by have : -18 ≤ x ∧ x ≤ 9 := by simpa using hxb
                                            omega
        clear hxb
        by_cases h9 : 9 < -x + c
        · obtain ⟨d, hd⟩ : ∃ d : Nat, -x + c - 10 = (d : Int) := ⟨(-x + c - 10).toNat, by omega⟩
          have w1 : IntKind.u8.wrap (d : Int) = d := by rw [IntKind.wrap_u8]; omega
          go_wp2
          refine ⟨⟨j, 1, d :: S, by omega, by omega, by omega, by go_num, rfl, HSP.out d (by omega), HSTEP.out d 1 (by simp; omega)⟩, by simp [intOf]⟩
        · by_cases h0 : -x + c < 0
          · obtain ⟨d, hd⟩ : ∃ d : Nat, -x + c + 10 = (d : Int) := ⟨(-x + c + 10).toNat, by omega⟩
            have w1 : IntKind.u8.wrap (d : Int) = d := by rw [IntKind.wrap_u8]; omega
            go_wp2
            refine ⟨⟨j, -1, d :: S, by omega, by omega, by omega, by go_num, rfl, HSP.out d (by omega), HSTEP.out d (-1) (by simp; omega)⟩, by simp [intOf]⟩
          · obtain ⟨d, hd⟩ : ∃ d : Nat, -x + c = (d : Int) := ⟨(-x + c).toNat, by omega⟩
            have w1 : IntKind.u8.wrap (d : Int) = d := by rw [IntKind.wrap_u8]; omega
            go_wp2
            refine ⟨⟨j, 0, d :: S, by omega, by omega, by omega, by go_num, rfl, HSP.out d (by omega), HSTEP.out d 0 (by simp; omega)⟩, by simp [intOf]⟩
      | false =>
        have hxb1 : -9 ≤ x ∧ x ≤ 18 := by simpa using hxb
        clear hxb
        by_cases h9 : 9 < x + c
        · obtain ⟨d, hd⟩ : ∃ d : Nat, x + c - 10 = (d : Int) := ⟨(x + c - 10).toNat, by omega⟩
          have w1 : IntKind.u8.wrap (d : Int) = d := by rw [IntKind.wrap_u8]; omega
          go_wp2
          refine ⟨⟨j, 1, d :: S, by omega, by omega, by omega, by go_num, rfl, HSP.out d (by omega), HSTEP.out d 1 (by simp; omega)⟩, by simp [intOf]⟩
        · by_cases h0 : x + c < 0
          · obtain ⟨d, hd⟩ : ∃ d : Nat, x + c + 10 = (d : Int) := ⟨(x + c + 10).toNat, by omega⟩
            have w1 : IntKind.u8.wrap (d : Int) = d := by rw [IntKind.wrap_u8]; omega
            go_wp2
            refine ⟨⟨j, -1, d :: S, by omega, by omega, by omega, by go_num, rfl, HSP.out d (by omega), HSTEP.out d (-1) (by simp; omega)⟩, by simp [intOf]⟩
          · obtain ⟨d, hd⟩ : ∃ d : Nat, x + c = (d : Int) := ⟨(x + c).toNat, by omega⟩
            have w1 : IntKind.u8.wrap (d : Int) = d := by rw [IntKind.wrap_u8]; omega
            go_wp2
            refine ⟨⟨j, 0, d :: S, by omega, by omega, by omega, by go_num, rfl, HSP.out d (by omega), HSTEP.out d 0 (by simp; omega)⟩, by simp [intOf]⟩
end Go.Proofs.YtihfiegopnjeiaaDoor
