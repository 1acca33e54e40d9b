/- What the rows' proofs lean on: the contracts of the functions that they reach, and plain facts (part R2). -/
import Derived.WalkKit
import Derived.WalkLawsBesides
import Derived.WalkSpells
import Derived.Outline
import Derived.Below
import Derived.Deep.RegionHeld3
import Derived.Deep.DeepCutAuto
import Derived.Deep.AppendLies
import Derived.Maps.AppendAt
import Derived.Lib.Hide
import Derived.OrdersHeld
import Derived.Test.YtmjmijjbijlhfaaGreatDoorProg
import Derived.Shelf.Small.Bits
import Derived.Shelf.Small.Strs
import Derived.Shelf.Strconv.Itoa0
import Derived.Shelf.Strconv.Itoa1
import Derived.Shelf.LaysM
import Derived.Shelf.Strconv.Itoa2
import Derived.Shelf.Bits.Mul64
import Derived.Ground.SlgmProg
import Derived.Shelf.SortM.Plain
import Derived.Shelf.SortM.SortNone
import Derived.Lib.ItoaMem
import Derived.Lib.OthersKept
import Derived.Deep.CutBlock
import Derived.Laws.Bits64b
import Derived.Lib.AppendZeros
import Derived.Lib.Bytealg
import Derived.Laws.RangeAny
import Derived.Maps.OwnSet
import Derived.Maps.Own
import Derived.Laws.EntriesVeiled
import Derived.Lib.ConvBytes
import Derived.Lib.SlBytesRow
import Derived.Lib.SmallJoins
import Derived.RegionTactic
import Derived.Sort.OwnSortedInts
import Derived.Shelf.SlIter.Nil
import Derived.Ground.GgzProg
import Derived.Test.YtmjmijjbijlhfaaGreatDoorRows
import Derived.Test.YtmjmijjbijlhfaaGreatDoorCards
import Derived.Test.YtmjmijjbijlhfaaGreatDoorTie
import Derived.ProofKit
import Derived.LaidMore
import Derived.OpenShut
import Derived.ShutString
import Derived.ChangeOld
import Derived.Stop.Joined
import Derived.Deep.Slices
import Derived.SevenTiedAt
import Derived.Test.YtmjmijjbijlhfaaGreatDoorR1
set_option linter.unusedSimpArgs false
set_option linter.unusedVariables false
set_option maxRecDepth 100000
namespace Go.Proofs.YtmjmijjbijlhfaaGreatDoor
open Go.RowKit NM
theorem make_bytes (n : Nat) (hn : n ≤ 100000) (W : World) : (Instr.makeSlice 135 (.int .i64 (n : Int)) (.int .i64 (n : Int))).run Tryz.prog W = .ok (.slice (some ⟨W.heap.size, 0, none⟩) n n) (W.alloc (.cells (madeCells #[.int .u8 0] n) 5)) := by
  obtain ⟨i0, hi, hz0, hz1, hz2⟩ := info_parts info_byte
  have := run_make (P := Tryz.prog) W 135 5 i0 _ Tryz.underlying135 hi hz0 .i64 .i64 (n : Int) (n : Int) (by omega) (by omega) (by rw [hz2]; omega) (by omega)
  simpa [hz1, Value.cells] using this
theorem dropI_at {l : List Int} {j : Nat} {x : Int} (h : l[j]? = some x) : l.drop j = x :: l.drop (j + 1) := by
  have hj := lt_at h
  rw [List.drop_eq_getElem_cons hj]
  rw [List.getElem?_eq_getElem hj] at h
  rw [Option.some.inj h]
/-- The bounds of one place, with the sign of the whole. -/
theorem DOk_bd {l : List Int} (h : DOk l) {x : Int} (hx : x ∈ l) : if sgn l then -18 ≤ x ∧ x ≤ 9 else -9 ≤ x ∧ x ≤ 18 := by
  rcases h with h | h | h
  · have := h x hx; split <;> omega
  · have h1 := h x hx
    have h2 : sgn l = false := by
      have := sgn_spec (l := l) (Or.inr (Or.inl h))
      rw [this]
      have h3 := valI_nonneg (l := l) (fun d hd => (h d hd).1)
      simp; omega
    rw [h2]; simp; omega
  · have h1 := h x hx
    cases hs : sgn l with
    | true => simp; omega
    | false =>
      have h0 : ∀ (m : List Int), (∀ d ∈ m, -18 ≤ d ∧ d ≤ 0) → sgn m = false → ∀ d ∈ m, d = 0 := by
        intro m
        induction m with
        | nil => intro _ _ d hd; cases hd
        | cons y m ih =>
          intro hm hs d hd
          rw [sgn] at hs
          by_cases hy : y = 0
          · rw [if_pos hy] at hs
            rcases List.mem_cons.1 hd with rfl | hd
            · exact hy
            · exact ih (fun d hd => hm d (List.mem_cons_of_mem _ hd)) hs d hd
          · rw [if_neg hy] at hs
            have := hm y (List.mem_cons_self ..)
            simp at hs; omega
      have := h0 l h hs x hx
      simp; omega
/-- What settle keeps: the digits from place j on. -/
structure SetSt (W : World) (L j : Nat) (S : List Nat) (wr : World) : Prop where
  out : Dg .u8 5 W.heap.size wr (some ⟨W.heap.size, 0, none⟩) L (List.replicate j 0 ++ S)
  len : S.length = L - j
  all : AllD S
  ext : Ext W wr
theorem SetSt.step {W wr : World} {L j d : Nat} {S : List Nat} (h : SetSt W L (j + 1) S wr) (hd : d < 10) (hj : j + 1 ≤ L) : SetSt W L j (d :: S) (wr.setCell ⟨W.heap.size, j, none⟩ (.int .u8 (d : Int))) := by
  refine ⟨?_, by simp [h.len]; omega, AllD.cons hd h.all, h.ext.set _ (Nat.le_refl _)⟩
  have := h.out.set (i := j) (d := d) (by simp; omega)
  rw [Nat.zero_add, List.set_append_left _ _ (by simp)] at this
  have he : (List.replicate (j + 1) 0).set j d = List.replicate j 0 ++ [d] := by
    rw [List.replicate_succ', List.set_append_right _ _ (by simp)]; simp
  rw [he, List.append_assoc, List.singleton_append] at this
  exact this
theorem SetSt.at {W wr : World} {L j : Nat} {S : List Nat} (h : SetSt W L (j + 1) S wr) : wr.cell? ⟨W.heap.size, j, none⟩ = some (.int .u8 0) ∧ wr.frozen? ⟨W.heap.size, j, none⟩ = false := by
  obtain ⟨b, off, h1, _, h2, h3⟩ := h.out.at (i := j) (d := 0) (by rw [List.getElem?_append_left (by simp)]; simp [List.getElem?_replicate])
  simp only [Option.some.injEq, Addr.mk.injEq, and_true] at h1
  obtain ⟨rfl, rfl⟩ := h1
  rw [Nat.zero_add] at h2 h3
  exact ⟨h2, h3⟩
/-- One place settled. -/
theorem settle_step {l : List Int} {j : Nat} {x c c' : Int} {d : Nat} {S : List Nat} (s : Int) (hx : l[j]? = some x) (hS : S.length = l.length - (j + 1)) (h : s * valI (l.drop (j + 1)) = c * (T S.length : Nat) + (val S : Int)) (hd : (d : Int) + 10 * c' = s * x + c) :
    s * valI (l.drop j) = c' * (T (S.length + 1) : Nat) + (val (d :: S) : Int) := by
  have hj := lt_at hx
  have hl : (l.drop (j + 1)).length = S.length := by simp; omega
  rw [dropI_at hx, valI_cons, val_cons, hl, T_succ, Int.mul_add, h, Int.natCast_add, Int.natCast_mul, Int.natCast_mul, ← Int.mul_assoc s x]
  generalize ((T S.length : Nat) : Int) = t at *
  have h1 : (d : Int) * t + 10 * c' * t = s * x * t + c * t := by rw [← Int.add_mul, hd, Int.add_mul]
  have h2 : c' * (10 * t) = 10 * c' * t := by rw [← Int.mul_assoc, Int.mul_comm c' 10]
  show _ = c' * (10 * t) + _
  rw [h2]; omega
theorem sgn_zero {l : List Int} {x : Int} {j : Nat} (hx : l[j]? = some x) (h0 : x = 0) : sgn (l.drop j) = sgn (l.drop (j + 1)) := by rw [dropI_at hx, sgn, if_pos h0]
theorem sgn_pos {l : List Int} {x : Int} {j : Nat} (hx : l[j]? = some x) (h0 : x ≠ 0) : sgn (l.drop j) = decide (x < 0) := by rw [dropI_at hx, sgn, if_neg h0]
set_option maxHeartbeats 4000000 in
theorem settle_any (b L : Nat) (l : List Int) (w : World) (hl : l.length = L) (h : IRow w b l) (hok : DOk l) (hbig : L ≤ 10000) (hT : (valI l).natAbs < T L) :
    Calls Tryz.prog 150 #[.slice (some ⟨b, 0, none⟩) L L] w fun e w' => e = .returned (.tuple #[.slice (some ⟨w.heap.size, 0, none⟩) L L, .bool (decide (valI l < 0))]) ∧ (∃ D, Dg .u8 5 w.heap.size w' (some ⟨w.heap.size, 0, none⟩) L D ∧ D.length = L ∧ AllD D ∧ val D = (valI l).natAbs) ∧ Ext w w' := by
  have hs := sgn_spec hok
  have hbd := fun x hx => DOk_bd hok (x := x) hx
  have hmk := make_bytes L (by omega)
  have hb := lt_block h
  rw [← hs]
  have HS := Lib.hid hs
  have HBD := Lib.hid hbd
  have HI := Lib.hid h
  have HL := Lib.hid hl
  have HT := Lib.hid hT
  clear hs hbd h hl hT hok
  generalize hG : sgn l = G at *
  have HG := Lib.hid hG
  clear hG
  go_enter Tryz.func150, Tryz.ntmps150
  go_upto_block 0 with fail
  go_cut [4] (fun s4 wx => s4 = .bool G ∧ wx = w)
  case first =>
    go_wp2_with fail
    go_loop [4, 13] (fun a i => ∃ j : Nat, j ≤ L ∧ i = .int .i64 (j : Int) ∧ a = .bool false ∧ Hid (sgn (l.drop j) = G)) (fun _ i => L - (intOf i).toNat)
    case atStart => exact ⟨0, Nat.zero_le _, rfl, rfl, HG⟩
    case round =>
      obtain ⟨j, hj, rfl, rfl, HJ⟩ := hrel
      by_cases hlt : j < L
      · obtain ⟨x, hx⟩ : ∃ x, l[j]? = some x := ⟨l[j]'(by have := HL.out; omega), by rw [List.getElem?_eq_getElem]⟩
        obtain ⟨hc1, hc2⟩ := HI.out.at hx
        by_cases h0 : x = 0
        · have e0 : (x == 0) = true := by simp [h0]
          have HJ2 : Hid (sgn (l.drop (j + 1)) = G) := by show _ = _; rw [← sgn_zero hx h0]; exact HJ.out
          clear hx h0
          go_wp2
          exact ⟨⟨j + 1, by omega, by go_num, rfl, HJ2⟩, by simp [intOf]; omega⟩
        · have e0 : (x == 0) = false := by simp [h0]
          have HJ2 : Hid (decide (x < 0) = G) := by show _ = _; rw [← sgn_pos hx h0]; exact HJ.out
          clear hx h0
          go_wp2
          go_meet
          exact ⟨by rw [← HJ2.out], rfl⟩
      · go_wp2
        go_meet
        refine ⟨?_, rfl⟩
        have := HJ.out
        rw [List.drop_eq_nil_of_le (by have := HL.out; omega)] at this
        rw [← this]; rfl
  case rest =>
  obtain ⟨rfl, rfl⟩ := hcut
  have HST : Hid (SetSt wc L L [] (wc.alloc (.cells (madeCells #[.int .u8 0] L) 5))) := ⟨by have := made_dg (k := .u8) (ty := 5) (w := wc) L rfl (Nat.le_refl _); simpa using this, by simp, AllD.nil, (Ext.refl _).alloc _⟩
  go_wp2
  go_loopw [8, 9] (fun a i wr => ∃ (j : Nat) (c : Int) (S : List Nat), j ≤ L ∧ -1 ≤ c ∧ c ≤ 1 ∧ i = .int .i64 ((j : Int) - 1) ∧ a = .int .i64 c ∧ Hid (SetSt wc L j S wr) ∧ Hid ((if G then -1 else 1) * valI (l.drop j) = c * (T S.length : Nat) + (val S : Int))) (fun _ i _ => ((intOf i) + 1).toNat)
  case atStart =>
    exact ⟨L, 0, [], Nat.le_refl _, by omega, by omega, by go_num, rfl, HST, by show _ = _; rw [List.drop_eq_nil_of_le (by rw [HL.out]; exact Nat.le_refl _)]; simp [val_nil, valI_nil]⟩
  case round =>
    obtain ⟨j, c, S, hj, hca, hcb, rfl, rfl, H, HV⟩ := hrel
    have hxr := H.out.ext
    have hsz := hxr.size
    cases j with
    | zero =>
      have HF : Hid (val S = (valI l).natAbs) := by
        show _ = _
        have h1 := HV.out
        have h2 := val_lt H.out.all
        have h3 := H.out.len
        have h4 := HT.out
        have h5 := HS.out
        rw [List.drop_zero] at h1
        rw [h3, Nat.sub_zero] at h1 h2
        have hTp := T_pos L
        have hGV : (if G = true then (-1 : Int) else 1) * valI l = ((valI l).natAbs : Int) := by
          cases G with
          | true => simp at h5 ⊢; omega
          | false => simp at h5 ⊢; omega
        rw [hGV] at h1
        have h6 : c = -1 ∨ c = 0 ∨ c = 1 := by omega
        generalize ((valI l).natAbs) = V at *
        generalize T L = t at *
        rcases h6 with h6 | h6 | h6 <;> rw [h6] at h1 <;> omega
      go_wp2
      go_ret2
      exact ⟨rfl, ⟨S, by simpa using H.out.out, by have := H.out.len; omega, H.out.all, HF.out⟩, hxr⟩
    | succ j =>
      have hjL : j < L := by omega
      obtain ⟨x, hx⟩ : ∃ x, l[j]? = some x := ⟨l[j]'(by have := HL.out; omega), by rw [List.getElem?_eq_getElem]⟩
      obtain ⟨hc1, hc2⟩ := HI.out.at hx
      have hc1' := hxr.cell_some hc1
      have hxb := HBD.out x (List.mem_of_getElem? hx)
      obtain ⟨o0, o1⟩ := H.out.at
      have hji : (((j + 1 : Nat) : Int) - 1) = (j : Int) := by omega
      rw [hji]
      have HSP := Lib.hid (fun d (hd1 : d < 10) => H.out.step hd1 hj)
      have HSTEP := Lib.hid (fun (d : Nat) (c' : Int) => settle_step (d := d) (c' := c') (if G then -1 else 1) hx (by rw [H.out.len, HL.out]) HV.out)
      clear hx HV hc1 hc2
      cases G with
      | true =>
        have hxb1 : -9 ≤ -x ∧ -x ≤ 18 := by have : -18 ≤ x ∧ x ≤ 9 := by simpa using hxb
                                            omega
        clear hxb
        by_cases h9 : 9 < -x + c
        · obtain ⟨d, hd⟩ : ∃ d : Nat, -x + c - 10 = (d : Int) := ⟨(-x + c - 10).toNat, by omega⟩
          have w1 : IntKind.u8.wrap (d : Int) = d := by rw [IntKind.wrap_u8]; omega
          go_wp2
          refine ⟨⟨j, 1, d :: S, by omega, by omega, by omega, by go_num, rfl, HSP.out d (by omega), HSTEP.out d 1 (by simp; omega)⟩, by simp [intOf]⟩
        · by_cases h0 : -x + c < 0
          · obtain ⟨d, hd⟩ : ∃ d : Nat, -x + c + 10 = (d : Int) := ⟨(-x + c + 10).toNat, by omega⟩
            have w1 : IntKind.u8.wrap (d : Int) = d := by rw [IntKind.wrap_u8]; omega
            go_wp2
            refine ⟨⟨j, -1, d :: S, by omega, by omega, by omega, by go_num, rfl, HSP.out d (by omega), HSTEP.out d (-1) (by simp; omega)⟩, by simp [intOf]⟩
          · obtain ⟨d, hd⟩ : ∃ d : Nat, -x + c = (d : Int) := ⟨(-x + c).toNat, by omega⟩
            have w1 : IntKind.u8.wrap (d : Int) = d := by rw [IntKind.wrap_u8]; omega
            go_wp2
            refine ⟨⟨j, 0, d :: S, by omega, by omega, by omega, by go_num, rfl, HSP.out d (by omega), HSTEP.out d 0 (by simp; omega)⟩, by simp [intOf]⟩
      | false =>
        have hxb1 : -9 ≤ x ∧ x ≤ 18 := by simpa using hxb
        clear hxb
        by_cases h9 : 9 < x + c
        · obtain ⟨d, hd⟩ : ∃ d : Nat, x + c - 10 = (d : Int) := ⟨(x + c - 10).toNat, by omega⟩
          have w1 : IntKind.u8.wrap (d : Int) = d := by rw [IntKind.wrap_u8]; omega
          go_wp2
          refine ⟨⟨j, 1, d :: S, by omega, by omega, by omega, by go_num, rfl, HSP.out d (by omega), HSTEP.out d 1 (by simp; omega)⟩, by simp [intOf]⟩
        · by_cases h0 : x + c < 0
          · obtain ⟨d, hd⟩ : ∃ d : Nat, x + c + 10 = (d : Int) := ⟨(x + c + 10).toNat, by omega⟩
            have w1 : IntKind.u8.wrap (d : Int) = d := by rw [IntKind.wrap_u8]; omega
            go_wp2
            refine ⟨⟨j, -1, d :: S, by omega, by omega, by omega, by go_num, rfl, HSP.out d (by omega), HSTEP.out d (-1) (by simp; omega)⟩, by simp [intOf]⟩
          · obtain ⟨d, hd⟩ : ∃ d : Nat, x + c = (d : Int) := ⟨(x + c).toNat, by omega⟩
            have w1 : IntKind.u8.wrap (d : Int) = d := by rw [IntKind.wrap_u8]; omega
            go_wp2
            refine ⟨⟨j, 0, d :: S, by omega, by omega, by omega, by go_num, rfl, HSP.out d (by omega), HSTEP.out d 0 (by simp; omega)⟩, by simp [intOf]⟩
end Go.Proofs.YtmjmijjbijlhfaaGreatDoor
namespace Go.Proofs.YtmjmijjbijlhfaaGreatDoor
open Go.RowKit NM
theorem bytes_eq {a : ByteArray} {l : List UInt8} (h : a.data.toList = l) : a = ⟨l.toArray⟩ := by
  subst h
  cases a; simp
end Go.Proofs.YtmjmijjbijlhfaaGreatDoor
namespace Go.Proofs.YtmjmijjbijlhfaaGreatDoor
open Go.RowKit NM
theorem rt_one : Rt 1 0 := Or.inr ⟨by decide, by decide, by decide, by decide, by
  have : nd (1 : Int).natAbs = 1 := nd_eq (k := 0) (by decide) (by decide)
  rw [this]; decide⟩
end Go.Proofs.YtmjmijjbijlhfaaGreatDoor
namespace Go.Proofs.YtmjmijjbijlhfaaGreatDoor
open Go.RowKit NM
theorem digs_dig (n : Nat) : digs n = dig n := by
  induction n using Nat.strongRecOn with
  | ind n ih =>
    by_cases h : n = 0
    · subst h; rw [digs_zero, dig_zero]
    · rw [digs_pos h, dig_pos h, ih (n / 10) (by omega)]
theorem SlI.i6_ {base : Nat} {w : World} {A : Option Addr} {n : Int} (h : SlI base w A (digsI n)) : Rd base w A (i6 (dig n.natAbs)) := by
  unfold SlI digsI at h
  rw [digs_dig, List.map_map] at h
  exact h
/-- digits, with its room. -/
theorem rdigits (n : Int) (w : World) (h : I64 n) :
    Calls Tryz.prog 69 #[.int .i64 n] w fun e w' => ∃ A c, e = .returned (.slice A (nd n.natAbs) c) ∧ Rd w.heap.size w' A (i6 (dig n.natAbs)) ∧ nd n.natAbs ≤ c ∧ Ext w w' := by
  have hl : (digsI n).length = nd n.natAbs := by unfold digsI; rw [List.length_map, digs_dig, dig_length]
  refine (digits_any n w h).mono fun e w' ⟨A, c, h1, h2, h3, h4⟩ => ⟨A, c, ?_, h2.i6_, by omega, h3⟩
  rw [← hl]; exact h1
theorem rnd_far_down {neg : Bool} {N : Nat} {e : Int} (h : (nd N : Int) + e < -41) : rnd neg N false e = some (0, 0) := by
  apply rnd_of_zero
  unfold n2
  apply cutN_far
  by_cases h15 : nd N ≤ 15
  · have : n1 N false = N := by unfold n1; rw [show nd N - 15 = 0 by omega, cutN_zero]
    rw [this, show nd N - 15 = 0 by omega]; omega
  · have := (nd_le_iff (n1 N false) 16).2 (Nat.lt_of_le_of_lt (n1_le N false) (T_lt (by omega)))
    omega
set_option maxHeartbeats 1000000 in
theorem rmake_any (m ex : Int) (w : World) (hm : I64 m) :
    Calls Tryz.prog 28 #[.int .i64 m, .int .i64 ex] w fun e w' => e = .returned (rnV (rnd (decide (m < 0)) m.natAbs false ex)) ∧ Ext w w' := by
  by_cases h0 : m = 0
  · subst h0
    have hr : rnd (decide ((0 : Int) < 0)) (0 : Int).natAbs false ex = some (0, 0) := rnd_of_zero (n2_zero _ _)
    rw [hr]
    go_enter Tryz.func28, Tryz.ntmps28
    go_wp2
    exact bodyPost_ret (v := .tuple #[NV 0 0, .bool true]) (by simp [results, Tryz.results28, go_sem]) rfl ⟨rfl, by repeat (first | exact Ext.refl _ | apply Ext.drew | apply Ext.alloc | apply Ext.more_)⟩
  · have h0' : (m == 0) = false := by simp [h0]
    by_cases h1 : 100 < ex
    · rw [rnd_far_up (by omega) (by omega)]
      clear h0
      go_enter Tryz.func28, Tryz.ntmps28
      go_wp2
      exact bodyPost_ret (v := .tuple #[NV 0 0, .bool false]) (by simp [results, Tryz.results28, go_sem]) rfl ⟨rfl, by repeat (first | exact Ext.refl _ | apply Ext.drew | apply Ext.alloc | apply Ext.more_)⟩
    · have hnd : nd m.natAbs ≤ 20 := (nd_le_iff _ _).2 (Nat.lt_of_lt_of_le (show m.natAbs < 18446744073709551616 by obtain ⟨h1, h2⟩ := hm; omega) (by decide))
      by_cases h2 : ex < -100
      · rw [rnd_far_down (by omega)]
        clear h0
        go_enter Tryz.func28, Tryz.ntmps28
        go_wp2
        exact bodyPost_ret (v := .tuple #[NV 0 0, .bool true]) (by simp [results, Tryz.results28, go_sem]) rfl ⟨rfl, by repeat (first | exact Ext.refl _ | apply Ext.drew | apply Ext.alloc | apply Ext.more_)⟩
      · clear h0
        have HA := Lib.hid (dig_all m.natAbs)
        have HL := Lib.hid (dig_length m.natAbs)
        have HV := Lib.hid (val_dig m.natAbs)
        go_enter Tryz.func28, Tryz.ntmps28
        go_wp2_with (first | (go_at_call 69; refine (rdigits m _ hm).mono ?_; rintro e w' ⟨A, c, rfl, hr, hc, hx⟩; obtain ⟨os, d, rfl⟩ := hx.more) | (go_at_call 68; refine (near_any _ _ _ _ _ (dig m.natAbs) m.natAbs _ _ _ HL.out hr hc (by omega) HA.out HV.out (by omega) (by simp)).mono ?_; rintro e w' ⟨rfl, hx2⟩; obtain ⟨os2, d2, rfl⟩ := hx2.more))
        exact bodyPost_ret (v := rnV (rnd (decide (m < 0)) m.natAbs false ex)) (by simp [results, Tryz.results28, go_sem]) rfl ⟨rfl, by repeat (first | exact Ext.refl _ | apply Ext.drew | apply Ext.alloc | apply Ext.more_)⟩
end Go.Proofs.YtmjmijjbijlhfaaGreatDoor
namespace Go.Proofs.YtmjmijjbijlhfaaGreatDoor
open Go.RowKit NM
set_option maxHeartbeats 1000000 in
theorem power_any (n : Nat) (w : World) (hn : n ≤ 15) :
    Calls Tryz.prog 173 #[.int .i64 (n : Int)] w fun e w' => e = .returned (.int .u64 ((T n : Nat) : Int)) ∧ w = w' := by
  have hT : ∀ j, j ≤ n → T j ≤ 1000000000000000 := fun j hj => by
    have h1 : T j ≤ T 15 := T_mono (by omega)
    have h2 : T 15 = 1000000000000000 := by decide
    omega
  generalize hR : T n = R
  have HR := Lib.hid hR
  have HT := Lib.hid hT
  clear hR hT
  go_enter Tryz.func173, Tryz.ntmps173
  go_wp2
  go_loop [3, 5] (fun a i => ∃ (j V : Nat), j ≤ n ∧ i = .int .i64 (j : Int) ∧ a = .int .u64 (V : Int) ∧ V ≤ 1000000000000000 ∧ Hid (V = T j)) (fun _ i => n - (intOf i).toNat)
  case atStart => exact ⟨0, 1, Nat.zero_le _, rfl, rfl, by omega, by show _ = _; rfl⟩
  case round =>
    obtain ⟨j, V, hj, rfl, rfl, hV, HV⟩ := hrel
    by_cases hlt : j < n
    · have w1 : IntKind.u64.wrap ((V : Int) * 10) = (V : Int) * 10 := by rw [IntKind.wrap_u64]; omega
      go_wp2
      refine ⟨⟨j + 1, V * 10, by omega, by go_num, by go_num, ?_, ?_⟩, by simp [intOf]; omega⟩
      · have h1 := HT.out (j + 1) (by omega); rw [T_succ, ← HV.out] at h1; omega
      · show _ = _; rw [T_succ, ← HV.out]; omega
    · have hVR : V = R := by rw [HV.out, ← HR.out, show j = n by omega]
      subst hVR
      go_wp2
      go_ret
      exact ⟨rfl, rfl⟩
end Go.Proofs.YtmjmijjbijlhfaaGreatDoor
namespace Go.Proofs.YtmjmijjbijlhfaaGreatDoor
open Go.RowKit NM
/-- P1.3's Floor. -/
def floorN (m : Int) (k : Nat) : Nat := if m < 0 then m.natAbs / T k + 1 else m.natAbs / T k
def floorS (m e : Int) : Int × Int :=
  if ¬ Rt m e then (0, 0) else if 0 ≤ e then (m, e) else (sg (decide (m < 0)) (trim (floorN m (-e).toNat) 0).1, (trim (floorN m (-e).toNat) 0).2)
theorem mod_T_ne {N k : Nat} (h : N % 10 ≠ 0) (hk : 0 < k) : N % T k ≠ 0 := by
  obtain ⟨j, rfl⟩ : ∃ j, k = j + 1 := ⟨k - 1, by omega⟩
  intro h0
  have h1 : 10 ∣ T (j + 1) := ⟨T j, T_succ j⟩
  have h2 := Nat.dvd_trans h1 (Nat.dvd_of_mod_eq_zero h0)
  omega
set_option maxHeartbeats 2000000 in
theorem floor_yes (m ex : Int) (w : World) (h : Rt m ex) (he : ex < 0) :
    Calls Tryz.prog 142 #[NV m ex] w fun e w' => e = .returned (NV (sg (decide (m < 0)) (trim (floorN m (-ex).toNat) 0).1) (trim (floorN m (-ex).toNat) 0).2) ∧ Ext w w' := by
  obtain ⟨b1, b2, b3⟩ := Rt_bd h
  have hm : I64 m := by unfold I64; omega
  have r1 := rtB_yes h
  obtain ⟨k, hkk⟩ : ∃ k : Nat, ex = -(k : Int) := ⟨(-ex).toNat, by omega⟩
  subst hkk
  have hk1 : 0 < k := by omega
  have hm0 : m ≠ 0 ∧ m.natAbs % 10 ≠ 0 := by
    rcases h with ⟨_, h2⟩ | ⟨h1, _, h3, _⟩
    · omega
    · exact ⟨h1, h3⟩
  have hr0 := mod_T_ne hm0.2 hk1
  have hT15 : T 15 = 1000000000000000 := by decide
  rw [show (- -(k : Int)).toNat = k by omega]
  have hfl : floorN m k = if m < 0 then m.natAbs / T k + 1 else m.natAbs / T k := rfl
  have hdle := Nat.div_le_self m.natAbs (T k)
  have htr := fun W => trimmed_any (decide (m < 0)) (floorN m k) 0 W (by rw [hfl]; split <;> omega) (by omega)
  generalize sg (decide (m < 0)) (trim (floorN m k) 0).1 = m' at *
  generalize (trim (floorN m k) 0).2 = e' at *
  generalize floorN m k = F at *
  have hsz := fun W => size_nat m W hm
  have w5 : wrap64 (- -(k : Int)) = k := by rw [show - -(k : Int) = k by omega]; exact IntWalk.wrap64_in _ (by omega)
  have w6 : IntKind.i64.wrap (- -(k : Int)) = k := by rw [show - -(k : Int) = k by omega]; exact i64w (by omega) (by omega)
  by_cases hk15 : k ≤ 15
  · have hTk : 0 < T k ∧ T k ≤ 1000000000000000 := ⟨T_pos k, by have := T_mono hk15; omega⟩
    have hpw := fun W => power_any k W hk15
    generalize T k = U at *
    generalize hN : m.natAbs = N at *
    have hU0 : ¬ U = 0 := by omega
    have q1 : (N : Int) % (U : Int) = ((N % U : Nat) : Int) := by omega
    have q2 : (N : Int) / (U : Int) = ((N / U : Nat) : Int) := by omega
    have hrl := Nat.mod_lt N hTk.1
    generalize N % U = r at *
    generalize N / U = q at *
    have w1 : IntKind.u64.wrap (r : Int) = r := by rw [IntKind.wrap_u64]; omega
    have w2 : IntKind.u64.wrap (q : Int) = q := by rw [IntKind.wrap_u64]; omega
    have w4 : IntKind.u64.wrap ((q : Int) + 1) = (q : Int) + 1 := by rw [IntKind.wrap_u64]; omega
    have g1 : ((r : Int) != 0) = true := by simp; omega
    have g2 : (r != 0) = true := by simp; omega
    by_cases hneg : m < 0
    · rw [if_pos hneg] at hfl
      subst hfl
      have htr' := htr
      rw [show ((q + 1 : Nat) : Int) = (q : Int) + 1 by omega, decide_eq_true hneg] at htr'
      clear htr hN hr0 hm0 h
      have htr := htr'
      clear htr'
      go_enter Tryz.func142, Tryz.ntmps142
      go_wp2_with (first | (go_at_call 122; (with_reducible refine (right_rt _ _ _ (by assumption)).mono ?_); rintro e w' ⟨rfl, hbr⟩; obtain ⟨osr, dr, rfl⟩ := hbr.more) | (go_at_call 140; (with_reducible refine (hsz _).mono ?_); rintro e w' ⟨rfl, rfl⟩) | (go_at_call 173; (with_reducible refine (hpw _).mono ?_); rintro e w' ⟨rfl, rfl⟩) | (go_at_call 170; (with_reducible refine (htr _).mono ?_); rintro e w' ⟨rfl, hbt⟩; obtain ⟨ost, dt, rfl⟩ := hbt.more))
      refine wp_plan (S := Ext _) [(0, 0), (1, 0), (2, 0), (3, 0), (4, 0), (5, 0), (6, 0), (7, 0)] [] (by kernel_rfl) (by kernel_rfl) (by kernel_rfl) (fun _ _ d _ _ h => by cases d <;> exact h) (Ext.drew (Ext.refl _)) ?_
      iterate 8 ((refine wpPl_read (v := ?_) rfl ?_ (fun _ h => ?_) ?_; rotate_left 1; rfl; (obtain ⟨_, _, rfl⟩ := h.more; go_simp; try rfl)); try simp only [Act.put, zqA, zqB, zqC])
      refine wpPl_nil ?_
      go_wp2_with (first | (go_at_call 122; (with_reducible refine (right_rt _ _ _ (by assumption)).mono ?_); rintro e w' ⟨rfl, hbr⟩; obtain ⟨osr, dr, rfl⟩ := hbr.more) | (go_at_call 140; (with_reducible refine (hsz _).mono ?_); rintro e w' ⟨rfl, rfl⟩) | (go_at_call 173; (with_reducible refine (hpw _).mono ?_); rintro e w' ⟨rfl, rfl⟩) | (go_at_call 170; (with_reducible refine (htr _).mono ?_); rintro e w' ⟨rfl, hbt⟩; obtain ⟨ost, dt, rfl⟩ := hbt.more))
      exact bodyPost_ret (v := NV m' e') (by simp [results, Tryz.results142, go_sem]) rfl ⟨rfl, by repeat (first | exact Ext.refl _ | apply Ext.drew | apply Ext.alloc | apply Ext.more_)⟩
    · rw [if_neg hneg] at hfl
      subst hfl
      rw [decide_eq_false hneg] at htr
      clear hN hr0 hm0 h
      go_enter Tryz.func142, Tryz.ntmps142
      go_wp2_with (first | (go_at_call 122; (with_reducible refine (right_rt _ _ _ (by assumption)).mono ?_); rintro e w' ⟨rfl, hbr⟩; obtain ⟨osr, dr, rfl⟩ := hbr.more) | (go_at_call 140; (with_reducible refine (hsz _).mono ?_); rintro e w' ⟨rfl, rfl⟩) | (go_at_call 173; (with_reducible refine (hpw _).mono ?_); rintro e w' ⟨rfl, rfl⟩) | (go_at_call 170; (with_reducible refine (htr _).mono ?_); rintro e w' ⟨rfl, hbt⟩; obtain ⟨ost, dt, rfl⟩ := hbt.more))
      refine wp_plan (S := Ext _) [(0, 0), (1, 0), (2, 0), (3, 0), (4, 0), (5, 0), (6, 0), (7, 0)] [] (by kernel_rfl) (by kernel_rfl) (by kernel_rfl) (fun _ _ d _ _ h => by cases d <;> exact h) (Ext.drew (Ext.refl _)) ?_
      iterate 8 ((refine wpPl_read (v := ?_) rfl ?_ (fun _ h => ?_) ?_; rotate_left 1; rfl; (obtain ⟨_, _, rfl⟩ := h.more; go_simp; try rfl)); try simp only [Act.put, zqA, zqB, zqC])
      refine wpPl_nil ?_
      go_wp2_with (first | (go_at_call 122; (with_reducible refine (right_rt _ _ _ (by assumption)).mono ?_); rintro e w' ⟨rfl, hbr⟩; obtain ⟨osr, dr, rfl⟩ := hbr.more) | (go_at_call 140; (with_reducible refine (hsz _).mono ?_); rintro e w' ⟨rfl, rfl⟩) | (go_at_call 173; (with_reducible refine (hpw _).mono ?_); rintro e w' ⟨rfl, rfl⟩) | (go_at_call 170; (with_reducible refine (htr _).mono ?_); rintro e w' ⟨rfl, hbt⟩; obtain ⟨ost, dt, rfl⟩ := hbt.more))
      exact bodyPost_ret (v := NV m' e') (by simp [results, Tryz.results142, go_sem]) rfl ⟨rfl, by repeat (first | exact Ext.refl _ | apply Ext.drew | apply Ext.alloc | apply Ext.more_)⟩
  · have hT1 : T 15 ≤ T k := T_mono (by omega)
    have hq0 : m.natAbs / T k = 0 := Nat.div_eq_of_lt (by omega)
    rw [hq0] at hfl
    have hpw : True := trivial
    generalize hN : m.natAbs = N at *
    have g1 : ((N : Int) != 0) = true := by simp; omega
    have g2 : (N != 0) = true := by simp; omega
    by_cases hneg : m < 0
    · rw [if_pos hneg] at hfl
      subst hfl
      rw [decide_eq_true hneg, show ((0 + 1 : Nat) : Int) = 1 from rfl] at htr
      clear hN hr0 hm0 h hT1 hq0 hdle
      go_enter Tryz.func142, Tryz.ntmps142
      go_wp2_with (first | (go_at_call 122; (with_reducible refine (right_rt _ _ _ (by assumption)).mono ?_); rintro e w' ⟨rfl, hbr⟩; obtain ⟨osr, dr, rfl⟩ := hbr.more) | (go_at_call 140; (with_reducible refine (hsz _).mono ?_); rintro e w' ⟨rfl, rfl⟩) | (go_at_call 173; (with_reducible refine (hpw _).mono ?_); rintro e w' ⟨rfl, rfl⟩) | (go_at_call 170; (with_reducible refine (htr _).mono ?_); rintro e w' ⟨rfl, hbt⟩; obtain ⟨ost, dt, rfl⟩ := hbt.more))
      exact bodyPost_ret (v := NV m' e') (by simp [results, Tryz.results142, go_sem]) rfl ⟨rfl, by repeat (first | exact Ext.refl _ | apply Ext.drew | apply Ext.alloc | apply Ext.more_)⟩
    · rw [if_neg hneg] at hfl
      subst hfl
      rw [decide_eq_false hneg, show ((0 : Nat) : Int) = 0 from rfl] at htr
      clear hN hr0 hm0 h hT1 hq0 hdle
      go_enter Tryz.func142, Tryz.ntmps142
      go_wp2_with (first | (go_at_call 122; (with_reducible refine (right_rt _ _ _ (by assumption)).mono ?_); rintro e w' ⟨rfl, hbr⟩; obtain ⟨osr, dr, rfl⟩ := hbr.more) | (go_at_call 140; (with_reducible refine (hsz _).mono ?_); rintro e w' ⟨rfl, rfl⟩) | (go_at_call 173; (with_reducible refine (hpw _).mono ?_); rintro e w' ⟨rfl, rfl⟩) | (go_at_call 170; (with_reducible refine (htr _).mono ?_); rintro e w' ⟨rfl, hbt⟩; obtain ⟨ost, dt, rfl⟩ := hbt.more))
      exact bodyPost_ret (v := NV m' e') (by simp [results, Tryz.results142, go_sem]) rfl ⟨rfl, by repeat (first | exact Ext.refl _ | apply Ext.drew | apply Ext.alloc | apply Ext.more_)⟩
set_option maxHeartbeats 2000000 in
theorem floor_any (m ex : Int) (w : World) (hm : I64 m) :
    Calls Tryz.prog 142 #[NV m ex] w fun e w' => e = .returned (NV (floorS m ex).1 (floorS m ex).2) ∧ Ext w w' := by
  by_cases h : Rt m ex
  · have r1 := rtB_yes h
    by_cases h1 : 0 ≤ ex
    · have hs : floorS m ex = (m, ex) := by unfold floorS; rw [if_neg (fun hh => hh h), if_pos h1]
      rw [hs]
      clear h hs
      go_enter Tryz.func142, Tryz.ntmps142
      go_wp2_with (go_at_call 122; (with_reducible refine (right_rt _ _ _ (by assumption)).mono ?_); rintro e w' ⟨rfl, hbr⟩; obtain ⟨osr, dr, rfl⟩ := hbr.more)
      exact bodyPost_ret (v := NV m ex) (by simp [results, Tryz.results142, go_sem]) rfl ⟨rfl, by repeat (first | exact Ext.refl _ | apply Ext.drew | apply Ext.alloc | apply Ext.more_)⟩
    · have hs : floorS m ex = (sg (decide (m < 0)) (trim (floorN m (-ex).toNat) 0).1, (trim (floorN m (-ex).toNat) 0).2) := by unfold floorS; rw [if_neg (fun hh => hh h), if_neg h1]
      rw [hs]
      exact floor_yes m ex w h (by omega)
  · have r1 := rtB_no h
    have hs : floorS m ex = (0, 0) := by unfold floorS; rw [if_pos h]
    rw [hs]
    clear h hs
    go_enter Tryz.func142, Tryz.ntmps142
    go_wp2_with (go_at_call 122; (with_reducible refine (right_rt _ _ _ (by assumption)).mono ?_); rintro e w' ⟨rfl, hbr⟩; obtain ⟨osr, dr, rfl⟩ := hbr.more)
    exact bodyPost_ret (v := NV 0 0) (by simp [results, Tryz.results142, go_sem]) rfl ⟨rfl, by repeat (first | exact Ext.refl _ | apply Ext.drew | apply Ext.alloc | apply Ext.more_)⟩
end Go.Proofs.YtmjmijjbijlhfaaGreatDoor
namespace Go.Proofs.YtmjmijjbijlhfaaGreatDoor
open Go.RowKit NM
theorem rnd_small {neg : Bool} {N : Nat} {E : Int} (h : nd N ≤ 15) (hE : -40 ≤ E) : rnd neg N false E = fin neg N E := by
  rw [rnd_fin]
  unfold n2 n1 e2
  rw [show nd N - 15 = 0 by omega, cutN_zero, show (-40 - (E + ((0 : Nat) : Int))).toNat = 0 by omega, cutN_zero, show max (E + ((0 : Nat) : Int)) (-40) = E by omega]
end Go.Proofs.YtmjmijjbijlhfaaGreatDoor
namespace Go.Proofs.YtmjmijjbijlhfaaGreatDoor
open Go.RowKit NM
/-- Which is the greater: P1.3. -/
def cmpS (ma ea mb eb : Int) : Int := if Rt ma ea ∧ Rt mb eb then (sumI ma ea (-mb) eb).sign else 0
end Go.Proofs.YtmjmijjbijlhfaaGreatDoor
namespace Go.Proofs.YtmjmijjbijlhfaaGreatDoor
open Go.RowKit NM
theorem Ext.trans_below {W w3 w4 : World} {base : Nat} (h : Ext W w3) (hb : Below base w3 w4) (hs : W.heap.size ≤ base) : Ext W w4 := Below.trans h (Below.mono hb hs)
theorem pad_val {neg : Bool} {n : Nat} {D : List Nat} : valI (pad neg n D.length D) = sg neg (val D) := by
  unfold pad
  have h0 : ∀ (k : Nat) (l : List Int), valI (List.replicate k 0 ++ l) = valI l := by
    intro k l
    induction k with
    | zero => rfl
    | succ k ih => rw [List.replicate_succ, List.cons_append, valI_cons, ih]; omega
  rw [h0, Nat.sub_self, List.replicate_zero, List.append_nil, List.take_length]
  cases neg with
  | false => exact valI_nat D
  | true =>
    have : (D.map fun d => sg true d) = (D.map fun d : Nat => (d : Int)).map fun x => -x := by rw [List.map_map]; rfl
    rw [this, valI_neg, valI_nat]; rfl
theorem pad_sign {neg : Bool} {n i : Nat} {D : List Nat} (hD : AllD D) : ∀ x ∈ pad neg n i D, if neg then -9 ≤ x ∧ x ≤ 0 else 0 ≤ x ∧ x ≤ 9 := by
  intro x hx
  unfold pad at hx
  rcases List.mem_append.1 hx with h | h
  · rw [List.eq_of_mem_replicate h]; split <;> omega
  · rcases List.mem_append.1 h with h | h
    · obtain ⟨d, hd, rfl⟩ := List.mem_map.1 h
      have := hD d (List.mem_of_mem_take hd)
      cases neg <;> simp [sg] <;> omega
    · rw [List.eq_of_mem_replicate h]; split <;> omega
/-- Both numbers' digits, added up place by place. -/
def both (na nb : Bool) (n : Nat) (X Y : List Nat) : List Int := List.zipWith (· + ·) (List.zipWith (· + ·) (List.replicate n 0) (pad na n X.length X)) (pad nb n Y.length Y)
theorem mem_zip {a b : List Int} {z : Int} (h : z ∈ List.zipWith (· + ·) a b) : ∃ x ∈ a, ∃ y ∈ b, z = x + y := by
  obtain ⟨j, hj⟩ := List.getElem?_of_mem h
  rw [List.getElem?_zipWith] at hj
  cases ha : a[j]? with
  | none => rw [ha] at hj; simp at hj
  | some x =>
    cases hb : b[j]? with
    | none => rw [ha, hb] at hj; simp at hj
    | some y =>
      rw [ha, hb] at hj
      simp at hj
      exact ⟨x, List.mem_of_getElem? ha, y, List.mem_of_getElem? hb, hj.symm⟩
theorem both_mem {na nb : Bool} {n : Nat} {X Y : List Nat} {z : Int} (h : z ∈ both na nb n X Y) : ∃ x ∈ pad na n X.length X, ∃ y ∈ pad nb n Y.length Y, z = x + y := by
  obtain ⟨u, hu, y, hy, rfl⟩ := mem_zip h
  obtain ⟨v, hv, x, hx, rfl⟩ := mem_zip hu
  rw [List.eq_of_mem_replicate hv]
  exact ⟨x, hx, y, hy, by omega⟩
theorem both_ok {na nb : Bool} {n : Nat} {X Y : List Nat} (hX : AllD X) (hY : AllD Y) : DOk (both na nb n X Y) := by
  cases na <;> cases nb
  · refine Or.inr (Or.inl fun z hz => ?_)
    obtain ⟨x, hx, y, hy, rfl⟩ := both_mem hz
    have h1 := pad_sign hX x hx
    have h2 := pad_sign hY y hy
    simp at h1 h2; omega
  · refine Or.inl fun z hz => ?_
    obtain ⟨x, hx, y, hy, rfl⟩ := both_mem hz
    have h1 := pad_sign hX x hx
    have h2 := pad_sign hY y hy
    simp at h1 h2; omega
  · refine Or.inl fun z hz => ?_
    obtain ⟨x, hx, y, hy, rfl⟩ := both_mem hz
    have h1 := pad_sign hX x hx
    have h2 := pad_sign hY y hy
    simp at h1 h2; omega
  · refine Or.inr (Or.inr fun z hz => ?_)
    obtain ⟨x, hx, y, hy, rfl⟩ := both_mem hz
    have h1 := pad_sign hX x hx
    have h2 := pad_sign hY y hy
    simp at h1 h2; omega
theorem both_length {na nb : Bool} {n : Nat} {X Y : List Nat} (hX : X.length ≤ n) (hY : Y.length ≤ n) : (both na nb n X Y).length = n := by
  unfold both
  rw [List.length_zipWith, List.length_zipWith, pad_length hX (Nat.le_refl _), pad_length hY (Nat.le_refl _), List.length_replicate]; omega
theorem both_val {na nb : Bool} {n : Nat} {X Y : List Nat} (hX : X.length ≤ n) (hY : Y.length ≤ n) : valI (both na nb n X Y) = sg na (val X) + sg nb (val Y) := by
  unfold both
  rw [valI_zip _ _ (by rw [List.length_zipWith, pad_length hX (Nat.le_refl _), pad_length hY (Nat.le_refl _), List.length_replicate]; omega), valI_zip _ _ (by rw [pad_length hX (Nat.le_refl _), List.length_replicate]), valI_rep0, pad_val, pad_val]; omega
theorem both_lt {na nb : Bool} {n : Nat} {X Y : List Nat} (hX : AllD X) (hY : AllD Y) (h : max X.length Y.length + 1 = n) : (valI (both na nb n X Y)).natAbs < T n := by
  rw [both_val (by omega) (by omega)]
  have h1 := Nat.lt_of_lt_of_le (val_lt hX) (T_mono (show X.length ≤ n - 1 by omega))
  have h2 := Nat.lt_of_lt_of_le (val_lt hY) (T_mono (show Y.length ≤ n - 1 by omega))
  have h3 : T n = 10 * T (n - 1) := by rw [← T_succ]; congr 1; omega
  rw [h3]
  generalize T (n - 1) = t at *
  cases na <;> cases nb <;> simp [sg] <;> omega
theorem sprd_val (m : Int) (k : Nat) : val (sprd m k) = m.natAbs * T k := by unfold sprd; rw [val_zeros, dig0_val]
theorem sprd_all (m : Int) (k : Nat) : AllD (sprd m k) := (dig0_all _).append (AllD.rep _ _ (by omega))
set_option maxHeartbeats 2000000 in
theorem add_no (ma ea mb eb : Int) (w : World) (hma : I64 ma) (hmb : I64 mb) (h : ¬ (Rt ma ea ∧ Rt mb eb)) :
    Calls Tryz.prog 95 #[NV ma ea, NV mb eb] w fun e w' => e = .returned (rnV none) ∧ Ext w w' := by
  by_cases h1 : Rt ma ea
  · have r1 := rtB_yes h1
    have r2 := rtB_no (fun h2 => h ⟨h1, h2⟩)
    clear h h1
    go_enter Tryz.func95, Tryz.ntmps95
    go_wp2_with (go_at_call 122; (with_reducible refine (right_rt _ _ _ (by assumption)).mono ?_); rintro e w' ⟨rfl, hbr⟩; obtain ⟨osr, dr, rfl⟩ := hbr.more)
    exact bodyPost_ret (v := .tuple #[NV 0 0, .bool false]) (by simp [results, Tryz.results95, go_sem]) rfl ⟨rfl, by with_reducible repeat (first | exact Ext.refl _ | apply Ext.drew | apply Ext.alloc | apply Ext.more_)⟩
  · have r1 := rtB_no h1
    clear h h1
    go_enter Tryz.func95, Tryz.ntmps95
    go_wp2_with (go_at_call 122; (with_reducible refine (right_rt _ _ _ (by assumption)).mono ?_); rintro e w' ⟨rfl, hbr⟩; obtain ⟨osr, dr, rfl⟩ := hbr.more)
    exact bodyPost_ret (v := .tuple #[NV 0 0, .bool false]) (by simp [results, Tryz.results95, go_sem]) rfl ⟨rfl, by with_reducible repeat (first | exact Ext.refl _ | apply Ext.drew | apply Ext.alloc | apply Ext.more_)⟩
set_option maxHeartbeats 4000000 in
theorem add_yes (ma ea mb eb : Int) (w : World) (htab : Tab w) (h1 : Rt ma ea) (h2 : Rt mb eb) :
    Calls Tryz.prog 95 #[NV ma ea, NV mb eb] w fun e w' => e = .returned (rnV (rndI (sumI ma ea mb eb) (min ea eb))) ∧ Ext w w' := by
  obtain ⟨b1, b2, b3⟩ := Rt_bd h1
  obtain ⟨b4, b5, b6⟩ := Rt_bd h2
  have hma : I64 ma := by unfold I64; omega
  have hmb : I64 mb := by unfold I64; omega
  have r1 := rtB_yes h1
  have r2 := rtB_yes h2
  have hT15 : T 15 = 1000000000000000 := by decide
  have n1 : nd ma.natAbs ≤ 15 := (nd_le_iff _ _).2 (by omega)
  have n2 : nd mb.natAbs ≤ 15 := (nd_le_iff _ _).2 (by omega)
  have hsp1 := fun W hW => spread_any ma ea (min ea eb) (ea - min ea eb).toNat W hW hma (by omega) (by omega)
  have hsp2 := fun W hW => spread_any mb eb (min ea eb) (eb - min ea eb).toNat W hW hmb (by omega) (by omega)
  have hlx : (sprd ma (ea - min ea eb).toNat).length ≤ 200 := by unfold sprd; rw [List.length_append, dig0_length, List.length_replicate]; omega
  have hly : (sprd mb (eb - min ea eb).toNat).length ≤ 200 := by unfold sprd; rw [List.length_append, dig0_length, List.length_replicate]; omega
  have hax := sprd_all ma (ea - min ea eb).toNat
  have hay := sprd_all mb (eb - min ea eb).toNat
  have hsum : sumI ma ea mb eb = sg (decide (ma < 0)) (val (sprd ma (ea - min ea eb).toNat)) + sg (decide (mb < 0)) (val (sprd mb (eb - min ea eb).toNat)) := by
    rw [sprd_val, sprd_val, sg_mul_nat, sg_mul_nat, sg_nat, sg_nat]; rfl
  rw [hsum]
  generalize sprd ma (ea - min ea eb).toNat = X at *
  generalize sprd mb (eb - min ea eb).toNat = Y at *
  have hlen := both_length (na := decide (ma < 0)) (nb := decide (mb < 0)) (n := max X.length Y.length + 1) (X := X) (Y := Y) (by omega) (by omega)
  have hok := both_ok (na := decide (ma < 0)) (nb := decide (mb < 0)) (n := max X.length Y.length + 1) hax hay
  have hval := both_val (na := decide (ma < 0)) (nb := decide (mb < 0)) (n := max X.length Y.length + 1) (X := X) (Y := Y) (by omega) (by omega)
  have hlt := both_lt (na := decide (ma < 0)) (nb := decide (mb < 0)) hax hay rfl
  rw [← hval]
  generalize hRR : rndI (valI (both (decide (ma < 0)) (decide (mb < 0)) (max X.length Y.length + 1) X Y)) (min ea eb) = R
  have HRR := Lib.hid hRR
  have HLEN := Lib.hid hlen
  have HOK := Lib.hid hok
  have HLT := Lib.hid hlt
  have HT := Lib.hid htab
  have HAX := Lib.hid hax
  have HAY := Lib.hid hay
  clear h1 h2 hRR hlen hok hlt hval hsum htab hax hay n1 n2 hT15
  go_enter Tryz.func95, Tryz.ntmps95
  go_wp2_with (go_at_call 122; (with_reducible refine (right_rt _ _ _ (by assumption)).mono ?_); rintro e w' ⟨rfl, hbr⟩; obtain ⟨osr, dr, rfl⟩ := hbr.more)
  refine wp_plan (S := Ext _) [(0, 0), (1, 0), (3, 0), (4, 0), (2, 1), (5, 1), (6, 0), (7, 0)] [] (by kernel_rfl) (by kernel_rfl) (by kernel_rfl) (fun _ _ d _ _ h => by cases d <;> exact h) (Ext.drew (Ext.refl _)) ?_
  iterate 4 ((refine wpPl_read (v := ?_) rfl ?_ (fun _ h => ?_) ?_; rotate_left 1; rfl; (obtain ⟨_, _, rfl⟩ := h.more; go_simp; try rfl)); try simp only [Act.put, zqA, zqB, zqC])
  (refine wpPl_eff rfl ?_ (fun K hK => ?_); rfl; go_simp; (go_at_call 148; (with_reducible refine (hsp1 _ (HT.out.ext (by with_reducible repeat (first | exact Ext.refl _ | apply Ext.drew | apply Ext.alloc | apply Ext.more_)))).mono ?_); rintro e w' ⟨v1, rfl, ho1, hx1⟩; obtain ⟨os1, d1, rfl⟩ := hx1.more; obtain ⟨A1, p1, rfl, hg1, _⟩ := Dg.of_own (l := X) (k := .u8) ho1; clear ho1); refine hK _ _ ?_ ?_; (repeat (first | (with_reducible (first | exact Ext.refl _ | exact ext_d _ _ _ _ | exact ext_app _ _ _ _ _ | exact ext_app2 _ _ _ _ _ _ | exact ext_app3 _ _ _ _ _ _ _ | exact ext_app4 _ _ _ _ _ _ _ _ | exact ext_app5 _ _ _ _ _ _ _ _ _)) | ((with_reducible refine ext_suffix ⟨_, ?_⟩); (try simp only [Array.append_assoc]); rfl) | (with_reducible (first | apply Ext.drew | apply Ext.alloc | apply Ext.more_)) | apply Ext.drew | apply Ext.alloc | apply Ext.more_)))
  try simp only [Act.put, zqA, zqB, zqC]
  (refine wpPl_eff rfl ?_ (fun K hK => ?_); rfl; go_simp; (go_at_call 148; (with_reducible refine (hsp2 _ (HT.out.ext (by with_reducible repeat (first | exact Ext.refl _ | apply Ext.drew | apply Ext.alloc | apply Ext.more_)))).mono ?_); rintro e w' ⟨v2, rfl, ho2, hx2⟩; obtain ⟨os2, d2, rfl⟩ := hx2.more; obtain ⟨A2, p2, rfl, hg2, _⟩ := Dg.of_own (l := Y) (k := .u8) ho2; clear ho2); refine hK _ _ ?_ ?_; (repeat (first | (with_reducible (first | exact Ext.refl _ | exact ext_d _ _ _ _ | exact ext_app _ _ _ _ _ | exact ext_app2 _ _ _ _ _ _ | exact ext_app3 _ _ _ _ _ _ _ | exact ext_app4 _ _ _ _ _ _ _ _ | exact ext_app5 _ _ _ _ _ _ _ _ _)) | ((with_reducible refine ext_suffix ⟨_, ?_⟩); (try simp only [Array.append_assoc]); rfl) | (with_reducible (first | apply Ext.drew | apply Ext.alloc | apply Ext.more_)) | apply Ext.drew | apply Ext.alloc | apply Ext.more_)))
  try simp only [Act.put, zqA, zqB, zqC]
  iterate 2 ((refine wpPl_read (v := ?_) rfl ?_ (fun _ h => ?_) ?_; rotate_left 1; rfl; (obtain ⟨_, _, rfl⟩ := h.more; go_simp; try rfl)); try simp only [Act.put, zqA, zqB, zqC])
  refine wpPl_nil ?_
  go_upto_region 5 with fail
  refine wp_world fun W hW => ?_
  have c0 : W.cell? ⟨w.heap.size, 0, none⟩ = some (.int .i64 ma) := by rw [hW]; go_simp
  have c2 : W.cell? ⟨w.heap.size + 1, 0, none⟩ = some (.int .i64 mb) := by rw [hW]; go_simp
  have c4 : W.cell? ⟨w.heap.size + 1 + 1, 0, none⟩ = some (.int .i64 0) := by rw [hW]; go_simp
  have c5 : W.cell? ⟨w.heap.size + 1 + 1, 1, none⟩ = some (.int .i64 0) := by rw [hW]; go_simp
  have f4 : W.frozen? ⟨w.heap.size + 1 + 1, 0, none⟩ = false := by rw [hW]; go_simp
  have f5 : W.frozen? ⟨w.heap.size + 1 + 1, 1, none⟩ = false := by rw [hW]; go_simp
  have hz : w.heap.size + 1 + 1 < W.heap.size := by rw [hW]; simp; try omega
  have hz1 : w.heap.size + 1 < W.heap.size := by omega
  have hz0 : w.heap.size < W.heap.size := by omega
  have hxW : Ext w W := by rw [hW]; exact by with_reducible repeat (first | exact Ext.refl _ | apply Ext.drew | apply Ext.alloc | apply Ext.more_)
  have HRX : Hid (Rd 0 W A1 (b8 X) ∧ ∀ p, A1 = some p → X ≠ [] → p.block < W.heap.size) := by
    have h3 : Rd 0 W A1 (b8 X) := by rw [hW]; exact Rd.ext (hg1.rd.mono (Nat.zero_le _)) (by (try simp only [more_more, more_drew, drew_more, Array.append_assoc]); repeat (first | (with_reducible (first | exact Ext.refl _ | exact ext_d _ _ _ _ | exact ext_app _ _ _ _ _ | exact ext_app2 _ _ _ _ _ _ | exact ext_app3 _ _ _ _ _ _ _)) | ((with_reducible refine ext_suffix ⟨_, ?_⟩); (try simp only [Array.append_assoc]); rfl) | (with_reducible (first | apply Ext.drew | apply Ext.alloc | apply Ext.more_))))
    refine ⟨h3, fun p hp hne => ?_⟩
    obtain ⟨x, X', rfl⟩ := List.exists_cons_of_ne_nil hne
    obtain ⟨b', o', hA, _, hc⟩ := h3 0 _ rfl
    rw [hp] at hA
    obtain rfl : p = ⟨b', o', none⟩ := Option.some.inj hA
    exact lt_of_cell hc
  have HRY : Hid (Rd 0 W A2 (b8 Y) ∧ ∀ p, A2 = some p → Y ≠ [] → p.block < W.heap.size) := by
    have h3 : Rd 0 W A2 (b8 Y) := by rw [hW]; exact Rd.ext (hg2.rd.mono (Nat.zero_le _)) (by (try simp only [more_more, more_drew, drew_more, Array.append_assoc]); repeat (first | (with_reducible (first | exact Ext.refl _ | exact ext_d _ _ _ _ | exact ext_app _ _ _ _ _ | exact ext_app2 _ _ _ _ _ _ | exact ext_app3 _ _ _ _ _ _ _)) | ((with_reducible refine ext_suffix ⟨_, ?_⟩); (try simp only [Array.append_assoc]); rfl) | (with_reducible (first | apply Ext.drew | apply Ext.alloc | apply Ext.more_))))
    refine ⟨h3, fun p hp hne => ?_⟩
    obtain ⟨x, X', rfl⟩ := List.exists_cons_of_ne_nil hne
    obtain ⟨b', o', hA, _, hc⟩ := h3 0 _ rfl
    rw [hp] at hA
    obtain rfl : p = ⟨b', o', none⟩ := Option.some.inj hA
    exact lt_of_cell hc
  clear hW hg1 hg2 hx1 hx2 hsp1 hsp2
  have hmk := make_int (max X.length Y.length + 1) (by omega)
  rw [show (((max X.length Y.length + 1 : Nat)) : Int) = max (X.length : Int) (Y.length : Int) + 1 by omega] at hmk
  obtain ⟨n, hn⟩ : ∃ n, n = max X.length Y.length + 1 := ⟨_, rfl⟩
  have hnb : n ≤ 1000 := by omega
  have hnx : X.length ≤ n := by omega
  have hny : Y.length ≤ n := by omega
  rw [← hn] at hmk HRR HLEN HOK HLT
  have HI0 : Hid (IRow (W.alloc (.cells (madeCells #[.int .i64 0] n) 3)) W.heap.size (List.replicate n 0)) := by
    show _ = _
    have hC : madeCells #[.int .i64 0] n = ((List.replicate n (0 : Int)).map (Value.int .i64)).toArray := by
      apply Array.ext'
      rw [toList_madeCells_one]
      simp
    rw [hC]
    exact Array.getElem?_push_size
  have hga1 := fun W' (hx : Ext W W') (hi : IRow W' W.heap.size (List.replicate n 0)) => gather_any W.heap.size n (List.replicate n 0) A1 p1 X (decide (ma < 0)) W' (by simp) hi (HRX.out.1.ext hx) (fun p hp h0 => by have := HRX.out.2 p hp h0; omega) hnx (by omega) HAX.out (fun x hx => by rw [List.eq_of_mem_replicate hx]; omega)
  have hga2 := fun W' (hx : Ext W W') (hi : IRow W' W.heap.size (List.zipWith (· + ·) (List.replicate n 0) (pad (decide (ma < 0)) n X.length X))) => gather_any W.heap.size n _ A2 p2 Y (decide (mb < 0)) W' (by rw [List.length_zipWith, pad_length hnx (Nat.le_refl _), List.length_replicate]; omega) hi (HRY.out.1.ext hx) (fun p hp h0 => by have := HRY.out.2 p hp h0; omega) hny (by omega) HAY.out (fun x hx => by
    obtain ⟨u, hu, v, hv, rfl⟩ := mem_zip hx
    rw [List.eq_of_mem_replicate hu]
    have := pad_all HAX.out v hv
    omega)
  have hse := fun W' (hi : IRow W' W.heap.size (both (decide (ma < 0)) (decide (mb < 0)) n X Y)) => settle_any W.heap.size n _ W' HLEN.out hi HOK.out (by omega) HLT.out
  have hx0 : Ext W (W.alloc (.cells (madeCells #[.int .i64 0] n) 3)) := (Ext.refl _).alloc _
  clear hn
  go_upto_region 7 with (go_at_call 149; (with_reducible refine (hga1 _ hx0 HI0.out).mono ?_); rintro e w1 ⟨rfl, hi1, ho1⟩; have hx1 := ho1.ext hx0 (Nat.le_refl _))
  have c2' := hx1.cell_some c2
  go_upto_region 8 with (go_at_call 149; (with_reducible refine (hga2 _ hx1 hi1).mono ?_); rintro e w2 ⟨rfl, hi2, ho2⟩; have hx2 := ho2.ext hx1 (Nat.le_refl _))
  have hse2 := hse w2 hi2
  clear hse hga1 hga2 hi1 hi2 HLEN HOK HLT HRX HRY HI0 hmk ho1 ho2 c2'
  generalize valI (both (decide (ma < 0)) (decide (mb < 0)) n X Y) = V at *
  go_upto_region 9 with (go_at_call 150; (with_reducible refine hse2.mono ?_); rintro e w3 ⟨rfl, ⟨D, hdg, hdl, hda, hdv⟩, hx3⟩)
  have hrd := round_any w2.heap.size (decide (V < 0)) (some ⟨w2.heap.size, 0, none⟩) n D (min ea eb) w3 hdg hda (by omega) hx3.size (by omega)
  rw [hdl, hdv, show rnd (decide (V < 0)) V.natAbs false (min ea eb) = R from HRR.out] at hrd
  clear hdg hda hdv hdl HRR hse2
  go_wp2_with (go_at_call 138; (with_reducible refine hrd.mono ?_); rintro e w4 ⟨rfl, hb4⟩; have hx4 : Ext W w4 := (hx2.trans hx3).trans_below hb4 hx2.size; obtain ⟨os4, d4, rfl⟩ := hx4.more)
  exact bodyPost_ret (v := rnV R) (by simp [results, Tryz.results95, go_sem, c4, c5, hz]) rfl ⟨rfl, ((hxW.set _ (by show w.heap.size ≤ w.heap.size + 1 + 1; omega)).set _ (by show w.heap.size ≤ w.heap.size + 1 + 1; omega)).more_ _ _⟩
theorem add_any (ma ea mb eb : Int) (w : World) (htab : Tab w) (hma : I64 ma) (hmb : I64 mb) :
    Calls Tryz.prog 95 #[NV ma ea, NV mb eb] w fun e w' => e = .returned (rnV (addS ma ea mb eb)) ∧ Ext w w' := by
  unfold addS
  split
  · rename_i h; exact add_yes ma ea mb eb w htab h.1 h.2
  · rename_i h; exact add_no ma ea mb eb w hma hmb h
end Go.Proofs.YtmjmijjbijlhfaaGreatDoor
namespace Go.Proofs.YtmjmijjbijlhfaaGreatDoor
open Go.RowKit NM
theorem Rt_i64 {m e : Int} (h : Rt m e) : I64 m ∧ I64 e := by
  obtain ⟨b1, b2, b3⟩ := Rt_bd h
  unfold I64; omega
/-- A variable of type Num in block p. -/
def PV (w : World) (p : Nat) (m e : Int) : Prop := w.heap[p]? = some (.cells #[.int .i64 m, .int .i64 e] 41 (0, 0))
theorem PV.c0 {w : World} {p : Nat} {m e : Int} (h : PV w p m e) : w.cell? ⟨p, 0, none⟩ = some (.int .i64 m) := by rw [cell_of_row w p 0 _ _ (0, 0) h]; rfl
theorem PV.c1 {w : World} {p : Nat} {m e : Int} (h : PV w p m e) : w.cell? ⟨p, 1, none⟩ = some (.int .i64 e) := by rw [cell_of_row w p 1 _ _ (0, 0) h]; rfl
theorem PV.fz {w : World} {p : Nat} {m e : Int} (h : PV w p m e) (o : Nat) : w.frozen? ⟨p, o, none⟩ = false := frozen_of_row w p o _ _ h
theorem PV.lt {w : World} {p : Nat} {m e : Int} (h : PV w p m e) : p < w.heap.size := lt_block h
theorem PV.ext {w w' : World} {p : Nat} {m e : Int} (h : PV w p m e) (hx : Ext w w') : PV w' p m e := by unfold PV; rw [hx.block h.lt]; exact h
theorem PV.set {w : World} {p : Nat} {m e : Int} (h : PV w p m e) (m' e' : Int) : PV ((w.setCell ⟨p, 0, none⟩ (.int .i64 m')).setCell ⟨p, 1, none⟩ (.int .i64 e')) p m' e' := by
  have h1 := heap_setCell_same w p 0 _ _ (.int .i64 m') h
  have h2 := heap_setCell_same _ p 1 _ _ (.int .i64 e') h1
  exact h2
theorem PV.new {w : World} {n : Nat} (m e : Int) (hn : n = w.heap.size) : PV (w.alloc (.cells #[.int .i64 m, .int .i64 e] 41)) n m e := by subst hn; exact Array.getElem?_push_size
end Go.Proofs.YtmjmijjbijlhfaaGreatDoor
namespace Go.Proofs.YtmjmijjbijlhfaaGreatDoor
open Go.RowKit NM
set_option maxHeartbeats 1000000 in
theorem sign_any (m ex : Int) (w : World) :
    Calls Tryz.prog 202 #[NV m ex] w fun e w' => e = .returned (.int .i64 m.sign) ∧ Ext w w' := by
  rcases Int.lt_trichotomy m 0 with h | h | h
  · rw [Int.sign_eq_neg_one_of_neg h]
    go_enter Tryz.func202, Tryz.ntmps202
    go_wp2
    go_ret
    exact ⟨rfl, by with_reducible repeat (first | exact Ext.refl _ | apply Ext.drew | apply Ext.alloc | apply Ext.more_)⟩
  · subst h
    go_enter Tryz.func202, Tryz.ntmps202
    go_wp2
    go_ret
    exact ⟨rfl, by with_reducible repeat (first | exact Ext.refl _ | apply Ext.drew | apply Ext.alloc | apply Ext.more_)⟩
  · rw [Int.sign_eq_one_of_pos h]
    have h' : ¬ m < 0 := by omega
    go_enter Tryz.func202, Tryz.ntmps202
    go_wp2
    go_ret
    exact ⟨rfl, by with_reducible repeat (first | exact Ext.refl _ | apply Ext.drew | apply Ext.alloc | apply Ext.more_)⟩
def cmpN (x y : Nat) : Int := if x < y then -1 else if y < x then 1 else 0
theorem cmp_top {x y ka kb : Nat} (hx : x ≠ 0) (hy : y ≠ 0) (h : nd x + ka < nd y + kb) : x * T ka < y * T kb := by
  have h1 := lt_T_nd (x * T ka)
  rw [nd_mul_T ka hx] at h1
  have h2 := T_le_of_nd (Nat.mul_ne_zero hy (by have := T_pos kb; omega) : y * T kb ≠ 0)
  rw [nd_mul_T kb hy] at h2
  have h3 : T (nd x + ka) ≤ T (nd y + kb - 1) := T_mono (by omega)
  omega
theorem cmp_same {x y ka kb : Nat} (hx : nd x ≤ 15) (hy : nd y ≤ 15) (h : nd x + ka = nd y + kb) : cmpN (x * T ka) (y * T kb) = cmpN (x * T (15 - nd x)) (y * T (15 - nd y)) := by
  have e1 : x * T (15 - nd x) * T (nd x + ka) = x * T ka * T 15 := by
    rw [Nat.mul_assoc, ← T_add, Nat.mul_assoc, ← T_add]; congr 2; omega
  have e2 : y * T (15 - nd y) * T (nd x + ka) = y * T kb * T 15 := by
    rw [Nat.mul_assoc, ← T_add, Nat.mul_assoc, ← T_add]; congr 2; omega
  have p1 := T_pos (nd x + ka)
  have p2 := T_pos 15
  have i1 : x * T ka < y * T kb ↔ x * T (15 - nd x) < y * T (15 - nd y) := by
    rw [← Nat.mul_lt_mul_right p2, ← e1, ← e2, Nat.mul_lt_mul_right p1]
  have i2 : y * T kb < x * T ka ↔ y * T (15 - nd y) < x * T (15 - nd x) := by
    rw [← Nat.mul_lt_mul_right p2, ← e1, ← e2, Nat.mul_lt_mul_right p1]
  unfold cmpN
  rw [ite_iff _ _ i1, ite_iff _ _ i2]
theorem count_nat (n : Nat) (w : World) (h : n < 18446744073709551616) (h0 : n ≠ 0) :
    Calls Tryz.prog 160 #[.int .u64 (n : Int)] w fun e w' => e = .returned (.int .i64 ((nd n : Nat) : Int)) ∧ w = w' := by
  have := count_any n w (by omega) (by omega)
  rw [show countI (n : Int) = ((nd n : Nat) : Int) by unfold countI; rw [Int.toNat_natCast, cnt_nd h0]] at this
  exact this
set_option maxHeartbeats 4000000 in
theorem cmpSize_any (ma ea mb eb : Int) (ka kb : Nat) (w : World) (h1 : Rt ma ea) (h2 : Rt mb eb) (h0 : ma = 0 ↔ mb = 0) (hk : ea - (ka : Int) = eb - (kb : Int)) :
    Calls Tryz.prog 203 #[NV ma ea, NV mb eb] w fun e w' => e = .returned (.int .i64 (cmpN (ma.natAbs * T ka) (mb.natAbs * T kb))) ∧ Ext w w' := by
  by_cases hz : ma = 0
  · have hz' := h0.1 hz
    rw [hz, hz', show (0 : Int).natAbs = 0 from rfl, Nat.zero_mul, Nat.zero_mul]
    go_enter Tryz.func203, Tryz.ntmps203
    go_wp2
    go_ret
    exact ⟨rfl, by with_reducible repeat (first | exact Ext.refl _ | apply Ext.drew | apply Ext.alloc | apply Ext.more_)⟩
  · have hz' : mb ≠ 0 := fun h => hz (h0.2 h)
    have e0 : (ma == 0) = false := by simp [hz]
    obtain ⟨b1, b2, b3⟩ := Rt_bd h1
    obtain ⟨b4, b5, b6⟩ := Rt_bd h2
    have hma : I64 ma := by unfold I64; omega
    have hmb : I64 mb := by unfold I64; omega
    have hsa := fun W => size_nat ma W hma
    have hsb := fun W => size_nat mb W hmb
    have hca := fun W => count_nat ma.natAbs W (by omega) (by omega)
    have hcb := fun W => count_nat mb.natAbs W (by omega) (by omega)
    have hT15 : T 15 = 1000000000000000 := by decide
    have n1 : nd ma.natAbs ≤ 15 := (nd_le_iff _ _).2 (by omega)
    have n2 : nd mb.natAbs ≤ 15 := (nd_le_iff _ _).2 (by omega)
    have hpa := fun W => power_any (15 - nd ma.natAbs) W (by omega)
    have hpb := fun W => power_any (15 - nd mb.natAbs) W (by omega)
    have hna : ma.natAbs ≠ 0 := by omega
    have hnb : mb.natAbs ≠ 0 := by omega
    have l1 : ma.natAbs * T (15 - nd ma.natAbs) < 1000000000000000 := by
      have := Nat.mul_lt_mul_of_pos_right (lt_T_nd ma.natAbs) (T_pos (15 - nd ma.natAbs))
      rw [← T_add, show nd ma.natAbs + (15 - nd ma.natAbs) = 15 by omega, hT15] at this; exact this
    have l2 : mb.natAbs * T (15 - nd mb.natAbs) < 1000000000000000 := by
      have := Nat.mul_lt_mul_of_pos_right (lt_T_nd mb.natAbs) (T_pos (15 - nd mb.natAbs))
      rw [← T_add, show nd mb.natAbs + (15 - nd mb.natAbs) = 15 by omega, hT15] at this; exact this
    have ct1 := cmp_top (x := ma.natAbs) (y := mb.natAbs) (ka := ka) (kb := kb) hna hnb
    have ct2 := cmp_top (x := mb.natAbs) (y := ma.natAbs) (ka := kb) (kb := ka) hnb hna
    have ct3 := cmp_same (x := ma.natAbs) (y := mb.natAbs) (ka := ka) (kb := kb) n1 n2
    clear h1 h2 h0 hz hz' hna hnb hT15
    generalize ma.natAbs = Na at *
    generalize mb.natAbs = Nb at *
    have ca : (15 : Int) - (nd Na : Int) = ((15 - nd Na : Nat) : Int) := by omega
    have cb : (15 : Int) - (nd Nb : Int) = ((15 - nd Nb : Nat) : Int) := by omega
    generalize hda : nd Na = da at *
    generalize hdb : nd Nb = db at *
    clear hda hdb
    rcases Int.lt_trichotomy ((da : Int) + ea) ((db : Int) + eb) with ht | ht | ht
    · have hR : cmpN (Na * T ka) (Nb * T kb) = -1 := by unfold cmpN; rw [if_pos (ct1 (by omega))]
      rw [hR]
      have e1 : ((da : Int) + ea == (db : Int) + eb) = false := by simp; omega
      clear ct1 ct2 ct3 hk
      go_enter Tryz.func203, Tryz.ntmps203
      go_wp2
      refine wp_plan (S := Ext _) [(0, 0), (1, 0), (3, 0), (4, 0), (2, 1), (5, 1), (6, 0), (7, 0)] [] (by kernel_rfl) (by kernel_rfl) (by kernel_rfl) (fun _ _ d _ _ h => by cases d <;> exact h) (Ext.drew (Ext.refl _)) ?_
      iterate 4 ((refine wpPl_read (v := ?_) rfl ?_ (fun _ h => ?_) ?_; rotate_left 1; rfl; (obtain ⟨_, _, rfl⟩ := h.more; go_simp; try rfl)); try simp only [Act.put, zqA, zqB, zqC])
      (refine wpPl_eff rfl ?_ (fun K hK => ?_); rfl; go_simp; (go_at_call 140; (with_reducible refine (hsa _).mono ?_); rintro e w' ⟨rfl, rfl⟩); refine hK _ _ ?_ ?_; (repeat (first | (with_reducible (first | exact Ext.refl _ | exact ext_d _ _ _ _ | exact ext_app _ _ _ _ _ | exact ext_app2 _ _ _ _ _ _ | exact ext_app3 _ _ _ _ _ _ _ | exact ext_app4 _ _ _ _ _ _ _ _ | exact ext_app5 _ _ _ _ _ _ _ _ _)) | ((with_reducible refine ext_suffix ⟨_, ?_⟩); (try simp only [Array.append_assoc]); rfl) | (with_reducible (first | apply Ext.drew | apply Ext.alloc | apply Ext.more_)) | apply Ext.drew | apply Ext.alloc | apply Ext.more_)))
      try simp only [Act.put, zqA, zqB, zqC]
      (refine wpPl_eff rfl ?_ (fun K hK => ?_); rfl; go_simp; (go_at_call 140; (with_reducible refine (hsb _).mono ?_); rintro e w' ⟨rfl, rfl⟩); refine hK _ _ ?_ ?_; (repeat (first | (with_reducible (first | exact Ext.refl _ | exact ext_d _ _ _ _ | exact ext_app _ _ _ _ _ | exact ext_app2 _ _ _ _ _ _ | exact ext_app3 _ _ _ _ _ _ _ | exact ext_app4 _ _ _ _ _ _ _ _ | exact ext_app5 _ _ _ _ _ _ _ _ _)) | ((with_reducible refine ext_suffix ⟨_, ?_⟩); (try simp only [Array.append_assoc]); rfl) | (with_reducible (first | apply Ext.drew | apply Ext.alloc | apply Ext.more_)) | apply Ext.drew | apply Ext.alloc | apply Ext.more_)))
      try simp only [Act.put, zqA, zqB, zqC]
      iterate 2 ((refine wpPl_read (v := ?_) rfl ?_ (fun _ h => ?_) ?_; rotate_left 1; rfl; (obtain ⟨_, _, rfl⟩ := h.more; go_simp; try rfl)); try simp only [Act.put, zqA, zqB, zqC])
      refine wpPl_nil ?_
      go_wp2_with (first | (go_at_call_of 160 (Value.int IntKind.u64 (Na : Int)); (with_reducible refine (hca _).mono ?_); rintro e w' ⟨rfl, rfl⟩) | (go_at_call 160; (with_reducible refine (hcb _).mono ?_); rintro e w' ⟨rfl, rfl⟩))
      refine wp_plan (S := Ext _) [(0, 0), (1, 0), (2, 0), (3, 0), (4, 0), (5, 0), (6, 0), (7, 0), (8, 0), (9, 0)] [] (by kernel_rfl) (by kernel_rfl) (by kernel_rfl) (fun _ _ d _ _ h => by cases d <;> exact h) (Ext.drew (Ext.refl _)) ?_
      iterate 10 ((refine wpPl_read (v := ?_) rfl ?_ (fun _ h => ?_) ?_; rotate_left 1; rfl; (obtain ⟨_, _, rfl⟩ := h.more; go_simp; try rfl)); try simp only [Act.put, zqA, zqB, zqC])
      refine wpPl_nil ?_
      go_wp2
      go_ret
      exact ⟨rfl, by with_reducible repeat (first | exact Ext.refl _ | apply Ext.drew | apply Ext.alloc | apply Ext.more_)⟩
    · have hR := ct3 (by omega)
      rw [hR]
      have e1 : ((da : Int) + ea == (db : Int) + eb) = true := by simp; omega
      clear ct1 ct2 ct3 hk hR
      generalize T (15 - da) = Ta at *
      generalize T (15 - db) = Tb at *
      have m1 : (Na : Int) * (Ta : Int) = ((Na * Ta : Nat) : Int) := by rw [Int.natCast_mul]
      have m2 : (Nb : Int) * (Tb : Int) = ((Nb * Tb : Nat) : Int) := by rw [Int.natCast_mul]
      generalize Na * Ta = Pa at *
      generalize Nb * Tb = Pb at *
      have w1 : IntKind.u64.wrap (Pa : Int) = Pa := by rw [IntKind.wrap_u64]; omega
      have w2 : IntKind.u64.wrap (Pb : Int) = Pb := by rw [IntKind.wrap_u64]; omega
      rcases Nat.lt_trichotomy Pa Pb with hc | hc | hc
      · have hR : cmpN Pa Pb = -1 := by unfold cmpN; rw [if_pos hc]
        rw [hR]
        go_enter Tryz.func203, Tryz.ntmps203
        go_wp2
        refine wp_plan (S := Ext _) [(0, 0), (1, 0), (3, 0), (4, 0), (2, 1), (5, 1), (6, 0), (7, 0)] [] (by kernel_rfl) (by kernel_rfl) (by kernel_rfl) (fun _ _ d _ _ h => by cases d <;> exact h) (Ext.drew (Ext.refl _)) ?_
        iterate 4 ((refine wpPl_read (v := ?_) rfl ?_ (fun _ h => ?_) ?_; rotate_left 1; rfl; (obtain ⟨_, _, rfl⟩ := h.more; go_simp; try rfl)); try simp only [Act.put, zqA, zqB, zqC])
        (refine wpPl_eff rfl ?_ (fun K hK => ?_); rfl; go_simp; (go_at_call 140; (with_reducible refine (hsa _).mono ?_); rintro e w' ⟨rfl, rfl⟩); refine hK _ _ ?_ ?_; (repeat (first | (with_reducible (first | exact Ext.refl _ | exact ext_d _ _ _ _ | exact ext_app _ _ _ _ _ | exact ext_app2 _ _ _ _ _ _ | exact ext_app3 _ _ _ _ _ _ _ | exact ext_app4 _ _ _ _ _ _ _ _ | exact ext_app5 _ _ _ _ _ _ _ _ _)) | ((with_reducible refine ext_suffix ⟨_, ?_⟩); (try simp only [Array.append_assoc]); rfl) | (with_reducible (first | apply Ext.drew | apply Ext.alloc | apply Ext.more_)) | apply Ext.drew | apply Ext.alloc | apply Ext.more_)))
        try simp only [Act.put, zqA, zqB, zqC]
        (refine wpPl_eff rfl ?_ (fun K hK => ?_); rfl; go_simp; (go_at_call 140; (with_reducible refine (hsb _).mono ?_); rintro e w' ⟨rfl, rfl⟩); refine hK _ _ ?_ ?_; (repeat (first | (with_reducible (first | exact Ext.refl _ | exact ext_d _ _ _ _ | exact ext_app _ _ _ _ _ | exact ext_app2 _ _ _ _ _ _ | exact ext_app3 _ _ _ _ _ _ _ | exact ext_app4 _ _ _ _ _ _ _ _ | exact ext_app5 _ _ _ _ _ _ _ _ _)) | ((with_reducible refine ext_suffix ⟨_, ?_⟩); (try simp only [Array.append_assoc]); rfl) | (with_reducible (first | apply Ext.drew | apply Ext.alloc | apply Ext.more_)) | apply Ext.drew | apply Ext.alloc | apply Ext.more_)))
        try simp only [Act.put, zqA, zqB, zqC]
        iterate 2 ((refine wpPl_read (v := ?_) rfl ?_ (fun _ h => ?_) ?_; rotate_left 1; rfl; (obtain ⟨_, _, rfl⟩ := h.more; go_simp; try rfl)); try simp only [Act.put, zqA, zqB, zqC])
        refine wpPl_nil ?_
        go_wp2_with (first | (go_at_call_of 160 (Value.int IntKind.u64 (Na : Int)); (with_reducible refine (hca _).mono ?_); rintro e w' ⟨rfl, rfl⟩) | (go_at_call 160; (with_reducible refine (hcb _).mono ?_); rintro e w' ⟨rfl, rfl⟩))
        refine wp_plan (S := Ext _) [(0, 0), (1, 0), (2, 0), (3, 0), (4, 0), (5, 0), (6, 0), (7, 0), (8, 0), (9, 0)] [] (by kernel_rfl) (by kernel_rfl) (by kernel_rfl) (fun _ _ d _ _ h => by cases d <;> exact h) (Ext.drew (Ext.refl _)) ?_
        iterate 10 ((refine wpPl_read (v := ?_) rfl ?_ (fun _ h => ?_) ?_; rotate_left 1; rfl; (obtain ⟨_, _, rfl⟩ := h.more; go_simp; try rfl)); try simp only [Act.put, zqA, zqB, zqC])
        refine wpPl_nil ?_
        go_wp2_with (first | (go_at_call 173; (with_reducible refine (hpa _).mono ?_); rintro e w' ⟨rfl, rfl⟩) | (go_at_call 173; (with_reducible refine (hpb _).mono ?_); rintro e w' ⟨rfl, rfl⟩))
        go_ret
        exact ⟨rfl, by with_reducible repeat (first | exact Ext.refl _ | apply Ext.drew | apply Ext.alloc | apply Ext.more_)⟩
      · have hR : cmpN Pa Pb = 0 := by unfold cmpN; rw [if_neg (by omega), if_neg (by omega)]
        rw [hR]
        go_enter Tryz.func203, Tryz.ntmps203
        go_wp2
        refine wp_plan (S := Ext _) [(0, 0), (1, 0), (3, 0), (4, 0), (2, 1), (5, 1), (6, 0), (7, 0)] [] (by kernel_rfl) (by kernel_rfl) (by kernel_rfl) (fun _ _ d _ _ h => by cases d <;> exact h) (Ext.drew (Ext.refl _)) ?_
        iterate 4 ((refine wpPl_read (v := ?_) rfl ?_ (fun _ h => ?_) ?_; rotate_left 1; rfl; (obtain ⟨_, _, rfl⟩ := h.more; go_simp; try rfl)); try simp only [Act.put, zqA, zqB, zqC])
        (refine wpPl_eff rfl ?_ (fun K hK => ?_); rfl; go_simp; (go_at_call 140; (with_reducible refine (hsa _).mono ?_); rintro e w' ⟨rfl, rfl⟩); refine hK _ _ ?_ ?_; (repeat (first | (with_reducible (first | exact Ext.refl _ | exact ext_d _ _ _ _ | exact ext_app _ _ _ _ _ | exact ext_app2 _ _ _ _ _ _ | exact ext_app3 _ _ _ _ _ _ _ | exact ext_app4 _ _ _ _ _ _ _ _ | exact ext_app5 _ _ _ _ _ _ _ _ _)) | ((with_reducible refine ext_suffix ⟨_, ?_⟩); (try simp only [Array.append_assoc]); rfl) | (with_reducible (first | apply Ext.drew | apply Ext.alloc | apply Ext.more_)) | apply Ext.drew | apply Ext.alloc | apply Ext.more_)))
        try simp only [Act.put, zqA, zqB, zqC]
        (refine wpPl_eff rfl ?_ (fun K hK => ?_); rfl; go_simp; (go_at_call 140; (with_reducible refine (hsb _).mono ?_); rintro e w' ⟨rfl, rfl⟩); refine hK _ _ ?_ ?_; (repeat (first | (with_reducible (first | exact Ext.refl _ | exact ext_d _ _ _ _ | exact ext_app _ _ _ _ _ | exact ext_app2 _ _ _ _ _ _ | exact ext_app3 _ _ _ _ _ _ _ | exact ext_app4 _ _ _ _ _ _ _ _ | exact ext_app5 _ _ _ _ _ _ _ _ _)) | ((with_reducible refine ext_suffix ⟨_, ?_⟩); (try simp only [Array.append_assoc]); rfl) | (with_reducible (first | apply Ext.drew | apply Ext.alloc | apply Ext.more_)) | apply Ext.drew | apply Ext.alloc | apply Ext.more_)))
        try simp only [Act.put, zqA, zqB, zqC]
        iterate 2 ((refine wpPl_read (v := ?_) rfl ?_ (fun _ h => ?_) ?_; rotate_left 1; rfl; (obtain ⟨_, _, rfl⟩ := h.more; go_simp; try rfl)); try simp only [Act.put, zqA, zqB, zqC])
        refine wpPl_nil ?_
        go_wp2_with (first | (go_at_call_of 160 (Value.int IntKind.u64 (Na : Int)); (with_reducible refine (hca _).mono ?_); rintro e w' ⟨rfl, rfl⟩) | (go_at_call 160; (with_reducible refine (hcb _).mono ?_); rintro e w' ⟨rfl, rfl⟩))
        refine wp_plan (S := Ext _) [(0, 0), (1, 0), (2, 0), (3, 0), (4, 0), (5, 0), (6, 0), (7, 0), (8, 0), (9, 0)] [] (by kernel_rfl) (by kernel_rfl) (by kernel_rfl) (fun _ _ d _ _ h => by cases d <;> exact h) (Ext.drew (Ext.refl _)) ?_
        iterate 10 ((refine wpPl_read (v := ?_) rfl ?_ (fun _ h => ?_) ?_; rotate_left 1; rfl; (obtain ⟨_, _, rfl⟩ := h.more; go_simp; try rfl)); try simp only [Act.put, zqA, zqB, zqC])
        refine wpPl_nil ?_
        go_wp2_with (first | (go_at_call 173; (with_reducible refine (hpa _).mono ?_); rintro e w' ⟨rfl, rfl⟩) | (go_at_call 173; (with_reducible refine (hpb _).mono ?_); rintro e w' ⟨rfl, rfl⟩))
        go_ret
        exact ⟨rfl, by with_reducible repeat (first | exact Ext.refl _ | apply Ext.drew | apply Ext.alloc | apply Ext.more_)⟩
      · have hR : cmpN Pa Pb = 1 := by unfold cmpN; rw [if_neg (by omega), if_pos (by omega)]
        rw [hR]
        have hc' : ¬ Pa < Pb := by omega
        go_enter Tryz.func203, Tryz.ntmps203
        go_wp2
        refine wp_plan (S := Ext _) [(0, 0), (1, 0), (3, 0), (4, 0), (2, 1), (5, 1), (6, 0), (7, 0)] [] (by kernel_rfl) (by kernel_rfl) (by kernel_rfl) (fun _ _ d _ _ h => by cases d <;> exact h) (Ext.drew (Ext.refl _)) ?_
        iterate 4 ((refine wpPl_read (v := ?_) rfl ?_ (fun _ h => ?_) ?_; rotate_left 1; rfl; (obtain ⟨_, _, rfl⟩ := h.more; go_simp; try rfl)); try simp only [Act.put, zqA, zqB, zqC])
        (refine wpPl_eff rfl ?_ (fun K hK => ?_); rfl; go_simp; (go_at_call 140; (with_reducible refine (hsa _).mono ?_); rintro e w' ⟨rfl, rfl⟩); refine hK _ _ ?_ ?_; (repeat (first | (with_reducible (first | exact Ext.refl _ | exact ext_d _ _ _ _ | exact ext_app _ _ _ _ _ | exact ext_app2 _ _ _ _ _ _ | exact ext_app3 _ _ _ _ _ _ _ | exact ext_app4 _ _ _ _ _ _ _ _ | exact ext_app5 _ _ _ _ _ _ _ _ _)) | ((with_reducible refine ext_suffix ⟨_, ?_⟩); (try simp only [Array.append_assoc]); rfl) | (with_reducible (first | apply Ext.drew | apply Ext.alloc | apply Ext.more_)) | apply Ext.drew | apply Ext.alloc | apply Ext.more_)))
        try simp only [Act.put, zqA, zqB, zqC]
        (refine wpPl_eff rfl ?_ (fun K hK => ?_); rfl; go_simp; (go_at_call 140; (with_reducible refine (hsb _).mono ?_); rintro e w' ⟨rfl, rfl⟩); refine hK _ _ ?_ ?_; (repeat (first | (with_reducible (first | exact Ext.refl _ | exact ext_d _ _ _ _ | exact ext_app _ _ _ _ _ | exact ext_app2 _ _ _ _ _ _ | exact ext_app3 _ _ _ _ _ _ _ | exact ext_app4 _ _ _ _ _ _ _ _ | exact ext_app5 _ _ _ _ _ _ _ _ _)) | ((with_reducible refine ext_suffix ⟨_, ?_⟩); (try simp only [Array.append_assoc]); rfl) | (with_reducible (first | apply Ext.drew | apply Ext.alloc | apply Ext.more_)) | apply Ext.drew | apply Ext.alloc | apply Ext.more_)))
        try simp only [Act.put, zqA, zqB, zqC]
        iterate 2 ((refine wpPl_read (v := ?_) rfl ?_ (fun _ h => ?_) ?_; rotate_left 1; rfl; (obtain ⟨_, _, rfl⟩ := h.more; go_simp; try rfl)); try simp only [Act.put, zqA, zqB, zqC])
        refine wpPl_nil ?_
        go_wp2_with (first | (go_at_call_of 160 (Value.int IntKind.u64 (Na : Int)); (with_reducible refine (hca _).mono ?_); rintro e w' ⟨rfl, rfl⟩) | (go_at_call 160; (with_reducible refine (hcb _).mono ?_); rintro e w' ⟨rfl, rfl⟩))
        refine wp_plan (S := Ext _) [(0, 0), (1, 0), (2, 0), (3, 0), (4, 0), (5, 0), (6, 0), (7, 0), (8, 0), (9, 0)] [] (by kernel_rfl) (by kernel_rfl) (by kernel_rfl) (fun _ _ d _ _ h => by cases d <;> exact h) (Ext.drew (Ext.refl _)) ?_
        iterate 10 ((refine wpPl_read (v := ?_) rfl ?_ (fun _ h => ?_) ?_; rotate_left 1; rfl; (obtain ⟨_, _, rfl⟩ := h.more; go_simp; try rfl)); try simp only [Act.put, zqA, zqB, zqC])
        refine wpPl_nil ?_
        go_wp2_with (first | (go_at_call 173; (with_reducible refine (hpa _).mono ?_); rintro e w' ⟨rfl, rfl⟩) | (go_at_call 173; (with_reducible refine (hpb _).mono ?_); rintro e w' ⟨rfl, rfl⟩))
        go_ret
        exact ⟨rfl, by with_reducible repeat (first | exact Ext.refl _ | apply Ext.drew | apply Ext.alloc | apply Ext.more_)⟩
    · have hR : cmpN (Na * T ka) (Nb * T kb) = 1 := by
        have := ct2 (by omega)
        unfold cmpN; rw [if_neg (by omega), if_pos this]
      rw [hR]
      have e1 : ((da : Int) + ea == (db : Int) + eb) = false := by simp; omega
      have e2 : ¬ ((da : Int) + ea < (db : Int) + eb) := by omega
      clear ct1 ct2 ct3 hk
      go_enter Tryz.func203, Tryz.ntmps203
      go_wp2
      refine wp_plan (S := Ext _) [(0, 0), (1, 0), (3, 0), (4, 0), (2, 1), (5, 1), (6, 0), (7, 0)] [] (by kernel_rfl) (by kernel_rfl) (by kernel_rfl) (fun _ _ d _ _ h => by cases d <;> exact h) (Ext.drew (Ext.refl _)) ?_
      iterate 4 ((refine wpPl_read (v := ?_) rfl ?_ (fun _ h => ?_) ?_; rotate_left 1; rfl; (obtain ⟨_, _, rfl⟩ := h.more; go_simp; try rfl)); try simp only [Act.put, zqA, zqB, zqC])
      (refine wpPl_eff rfl ?_ (fun K hK => ?_); rfl; go_simp; (go_at_call 140; (with_reducible refine (hsa _).mono ?_); rintro e w' ⟨rfl, rfl⟩); refine hK _ _ ?_ ?_; (repeat (first | (with_reducible (first | exact Ext.refl _ | exact ext_d _ _ _ _ | exact ext_app _ _ _ _ _ | exact ext_app2 _ _ _ _ _ _ | exact ext_app3 _ _ _ _ _ _ _ | exact ext_app4 _ _ _ _ _ _ _ _ | exact ext_app5 _ _ _ _ _ _ _ _ _)) | ((with_reducible refine ext_suffix ⟨_, ?_⟩); (try simp only [Array.append_assoc]); rfl) | (with_reducible (first | apply Ext.drew | apply Ext.alloc | apply Ext.more_)) | apply Ext.drew | apply Ext.alloc | apply Ext.more_)))
      try simp only [Act.put, zqA, zqB, zqC]
      (refine wpPl_eff rfl ?_ (fun K hK => ?_); rfl; go_simp; (go_at_call 140; (with_reducible refine (hsb _).mono ?_); rintro e w' ⟨rfl, rfl⟩); refine hK _ _ ?_ ?_; (repeat (first | (with_reducible (first | exact Ext.refl _ | exact ext_d _ _ _ _ | exact ext_app _ _ _ _ _ | exact ext_app2 _ _ _ _ _ _ | exact ext_app3 _ _ _ _ _ _ _ | exact ext_app4 _ _ _ _ _ _ _ _ | exact ext_app5 _ _ _ _ _ _ _ _ _)) | ((with_reducible refine ext_suffix ⟨_, ?_⟩); (try simp only [Array.append_assoc]); rfl) | (with_reducible (first | apply Ext.drew | apply Ext.alloc | apply Ext.more_)) | apply Ext.drew | apply Ext.alloc | apply Ext.more_)))
      try simp only [Act.put, zqA, zqB, zqC]
      iterate 2 ((refine wpPl_read (v := ?_) rfl ?_ (fun _ h => ?_) ?_; rotate_left 1; rfl; (obtain ⟨_, _, rfl⟩ := h.more; go_simp; try rfl)); try simp only [Act.put, zqA, zqB, zqC])
      refine wpPl_nil ?_
      go_wp2_with (first | (go_at_call_of 160 (Value.int IntKind.u64 (Na : Int)); (with_reducible refine (hca _).mono ?_); rintro e w' ⟨rfl, rfl⟩) | (go_at_call 160; (with_reducible refine (hcb _).mono ?_); rintro e w' ⟨rfl, rfl⟩))
      refine wp_plan (S := Ext _) [(0, 0), (1, 0), (2, 0), (3, 0), (4, 0), (5, 0), (6, 0), (7, 0), (8, 0), (9, 0)] [] (by kernel_rfl) (by kernel_rfl) (by kernel_rfl) (fun _ _ d _ _ h => by cases d <;> exact h) (Ext.drew (Ext.refl _)) ?_
      iterate 10 ((refine wpPl_read (v := ?_) rfl ?_ (fun _ h => ?_) ?_; rotate_left 1; rfl; (obtain ⟨_, _, rfl⟩ := h.more; go_simp; try rfl)); try simp only [Act.put, zqA, zqB, zqC])
      refine wpPl_nil ?_
      go_wp2
      go_ret
      exact ⟨rfl, by with_reducible repeat (first | exact Ext.refl _ | apply Ext.drew | apply Ext.alloc | apply Ext.more_)⟩
theorem cmp_sign (A B : Int) : (A - B).sign = if A.sign = B.sign then A.sign * cmpN A.natAbs B.natAbs else if A.sign < B.sign then -1 else 1 := by
  have hp : ∀ x : Int, 0 < x → x.sign = 1 := fun x h => Int.sign_eq_one_of_pos h
  have hn : ∀ x : Int, x < 0 → x.sign = -1 := fun x h => Int.sign_eq_neg_one_of_neg h
  have hz : (0 : Int).sign = 0 := rfl
  rcases Int.lt_trichotomy A 0 with a | a | a <;> rcases Int.lt_trichotomy B 0 with b | b | b
  · rw [hn A a, hn B b, if_pos rfl]
    unfold cmpN
    rcases Int.lt_trichotomy A B with c | c | c
    · rw [hn _ (by omega), if_neg (by omega), if_pos (by omega)]; rfl
    · rw [c, Int.sub_self, if_neg (by omega), if_neg (by omega)]; rfl
    · rw [hp _ (by omega), if_pos (by omega)]; rfl
  · rw [hn A a, b, hz, hn _ (by omega)]; rfl
  · rw [hn A a, hp B b, hn _ (by omega)]; rfl
  · rw [hn B b, a, hz, hp _ (by omega)]; rfl
  · rw [a, b]; rfl
  · rw [hp B b, a, hz, hn _ (by omega)]; rfl
  · rw [hp A a, hn B b, hp _ (by omega)]; rfl
  · rw [hp A a, b, hz, hp _ (by omega)]; rfl
  · rw [hp A a, hp B b, if_pos rfl]
    unfold cmpN
    rcases Int.lt_trichotomy A B with c | c | c
    · rw [hn _ (by omega), if_pos (by omega)]; rfl
    · rw [c, Int.sub_self, if_neg (by omega), if_neg (by omega)]; rfl
    · rw [hp _ (by omega), if_neg (by omega), if_pos (by omega)]; rfl
theorem sign_T (m : Int) (k : Nat) : (m * (T k : Nat)).sign = m.sign := by
  have h : ((T k : Nat) : Int).sign = 1 := Int.sign_eq_one_of_pos (by have := T_pos k; omega)
  rw [Int.sign_mul, h, Int.mul_one]
theorem cmp_sum (ma ea mb eb : Int) : (sumI ma ea (-mb) eb).sign = if ma.sign = mb.sign then ma.sign * cmpN (ma.natAbs * T (ea - min ea eb).toNat) (mb.natAbs * T (eb - min ea eb).toNat) else if ma.sign < mb.sign then -1 else 1 := by
  unfold sumI
  rw [Int.neg_mul, ← Int.sub_eq_add_neg, cmp_sign, sign_T, sign_T, Int.natAbs_mul, Int.natAbs_mul, Int.natAbs_natCast, Int.natAbs_natCast]
theorem sign_bd (m : Int) : -1 ≤ m.sign ∧ m.sign ≤ 1 := by
  rcases Int.lt_trichotomy m 0 with a | a | a
  · rw [Int.sign_eq_neg_one_of_neg a]; omega
  · rw [a]; decide
  · rw [Int.sign_eq_one_of_pos a]; omega
theorem cmpN_bd (x y : Nat) : -1 ≤ cmpN x y ∧ cmpN x y ≤ 1 := by unfold cmpN; split <;> (try split) <;> omega
set_option maxHeartbeats 4000000 in
theorem cmp_yes (ma ea mb eb : Int) (w : World) (h1 : Rt ma ea) (h2 : Rt mb eb) :
    Calls Tryz.prog 179 #[NV ma ea, NV mb eb] w fun e w' => e = .returned (.int .i64 (sumI ma ea (-mb) eb).sign) ∧ Ext w w' := by
  obtain ⟨b1, b2, b3⟩ := Rt_bd h1
  obtain ⟨b4, b5, b6⟩ := Rt_bd h2
  have hma : I64 ma := by unfold I64; omega
  have hmb : I64 mb := by unfold I64; omega
  have r1 := rtB_yes h1
  have r2 := rtB_yes h2
  have hsa := fun W => sign_any ma ea W
  have hsb := fun W => sign_any mb eb W
  have s1 := sign_bd ma
  have s2 := sign_bd mb
  rw [cmp_sum]
  by_cases hs : ma.sign = mb.sign
  · have hcs := fun W => cmpSize_any ma ea mb eb (ea - min ea eb).toNat (eb - min ea eb).toNat W h1 h2 (by rw [← Int.sign_eq_zero_iff_zero, ← Int.sign_eq_zero_iff_zero (a := mb), hs]) (by omega)
    rw [if_pos hs]
    have s3 := cmpN_bd (ma.natAbs * T (ea - min ea eb).toNat) (mb.natAbs * T (eb - min ea eb).toNat)
    generalize cmpN (ma.natAbs * T (ea - min ea eb).toNat) (mb.natAbs * T (eb - min ea eb).toNat) = C at *
    rw [← hs] at hsb
    clear s2 hs h1 h2
    generalize ma.sign = sa at *
    have w1 : IntKind.i64.wrap (sa * C) = sa * C := by
      have h6 : sa = -1 ∨ sa = 0 ∨ sa = 1 := by omega
      rcases h6 with h | h | h <;> rw [h] <;> exact i64w (by omega) (by omega)
    have w2 : wrap64 (sa * C) = sa * C := by
      have h6 : sa = -1 ∨ sa = 0 ∨ sa = 1 := by omega
      rcases h6 with h | h | h <;> rw [h] <;> exact IntWalk.wrap64_in _ (by omega)
    go_enter Tryz.func179, Tryz.ntmps179
    go_wp2_with (go_at_call 122; (with_reducible refine (right_rt _ _ _ (by assumption)).mono ?_); rintro e w' ⟨rfl, hbr⟩; obtain ⟨osr, dr, rfl⟩ := hbr.more)
    refine wp_plan (S := Ext _) [(0, 0), (2, 0), (1, 1), (3, 1), (4, 0), (5, 0)] [] (by kernel_rfl) (by kernel_rfl) (by kernel_rfl) (fun _ _ d _ _ h => by cases d <;> exact h) (Ext.drew (Ext.refl _)) ?_
    iterate 2 ((refine wpPl_read (v := ?_) rfl ?_ (fun _ h => ?_) ?_; rotate_left 1; rfl; (obtain ⟨_, _, rfl⟩ := h.more; go_simp; try rfl)); try simp only [Act.put, zqA, zqB, zqC])
    (refine wpPl_eff rfl ?_ (fun K hK => ?_); rfl; go_simp; (go_at_call 202; (with_reducible refine (hsa _).mono ?_); rintro e w' ⟨rfl, hx⟩; obtain ⟨os1, d1, rfl⟩ := hx.more); refine hK _ _ ?_ ?_; (repeat (first | (with_reducible (first | exact Ext.refl _ | exact ext_d _ _ _ _ | exact ext_app _ _ _ _ _ | exact ext_app2 _ _ _ _ _ _ | exact ext_app3 _ _ _ _ _ _ _ | exact ext_app4 _ _ _ _ _ _ _ _ | exact ext_app5 _ _ _ _ _ _ _ _ _)) | ((with_reducible refine ext_suffix ⟨_, ?_⟩); (try simp only [Array.append_assoc]); rfl) | (with_reducible (first | apply Ext.drew | apply Ext.alloc | apply Ext.more_)) | apply Ext.drew | apply Ext.alloc | apply Ext.more_)))
    try simp only [Act.put, zqA, zqB, zqC]
    (refine wpPl_eff rfl ?_ (fun K hK => ?_); rfl; go_simp; (go_at_call 202; (with_reducible refine (hsb _).mono ?_); rintro e w' ⟨rfl, hx⟩; obtain ⟨os2, d2, rfl⟩ := hx.more); refine hK _ _ ?_ ?_; (repeat (first | (with_reducible (first | exact Ext.refl _ | exact ext_d _ _ _ _ | exact ext_app _ _ _ _ _ | exact ext_app2 _ _ _ _ _ _ | exact ext_app3 _ _ _ _ _ _ _ | exact ext_app4 _ _ _ _ _ _ _ _ | exact ext_app5 _ _ _ _ _ _ _ _ _)) | ((with_reducible refine ext_suffix ⟨_, ?_⟩); (try simp only [Array.append_assoc]); rfl) | (with_reducible (first | apply Ext.drew | apply Ext.alloc | apply Ext.more_)) | apply Ext.drew | apply Ext.alloc | apply Ext.more_)))
    try simp only [Act.put, zqA, zqB, zqC]
    iterate 2 ((refine wpPl_read (v := ?_) rfl ?_ (fun _ h => ?_) ?_; rotate_left 1; rfl; (obtain ⟨_, _, rfl⟩ := h.more; go_simp; try rfl)); try simp only [Act.put, zqA, zqB, zqC])
    refine wpPl_nil ?_
    go_wp2
    refine wp_plan (S := Ext _) [(0, 0), (2, 0), (3, 0), (1, 1), (4, 1), (5, 0), (6, 0)] [] (by kernel_rfl) (by kernel_rfl) (by kernel_rfl) (fun _ _ d _ _ h => by cases d <;> exact h) (Ext.drew (Ext.refl _)) ?_
    iterate 3 ((refine wpPl_read (v := ?_) rfl ?_ (fun _ h => ?_) ?_; rotate_left 1; rfl; (obtain ⟨_, _, rfl⟩ := h.more; go_simp; try rfl)); try simp only [Act.put, zqA, zqB, zqC])
    (refine wpPl_eff rfl ?_ (fun K hK => ?_); rfl; go_simp; (go_at_call 202; (with_reducible refine (hsa _).mono ?_); rintro e w' ⟨rfl, hx⟩; obtain ⟨os1, d1, rfl⟩ := hx.more); refine hK _ _ ?_ ?_; (repeat (first | (with_reducible (first | exact Ext.refl _ | exact ext_d _ _ _ _ | exact ext_app _ _ _ _ _ | exact ext_app2 _ _ _ _ _ _ | exact ext_app3 _ _ _ _ _ _ _ | exact ext_app4 _ _ _ _ _ _ _ _ | exact ext_app5 _ _ _ _ _ _ _ _ _)) | ((with_reducible refine ext_suffix ⟨_, ?_⟩); (try simp only [Array.append_assoc]); rfl) | (with_reducible (first | apply Ext.drew | apply Ext.alloc | apply Ext.more_)) | apply Ext.drew | apply Ext.alloc | apply Ext.more_)))
    try simp only [Act.put, zqA, zqB, zqC]
    (refine wpPl_eff rfl ?_ (fun K hK => ?_); rfl; go_simp; (go_at_call 203; (with_reducible refine (hcs _).mono ?_); rintro e w' ⟨rfl, hx⟩; obtain ⟨os2, d2, rfl⟩ := hx.more); refine hK _ _ ?_ ?_; (repeat (first | (with_reducible (first | exact Ext.refl _ | exact ext_d _ _ _ _ | exact ext_app _ _ _ _ _ | exact ext_app2 _ _ _ _ _ _ | exact ext_app3 _ _ _ _ _ _ _ | exact ext_app4 _ _ _ _ _ _ _ _ | exact ext_app5 _ _ _ _ _ _ _ _ _)) | ((with_reducible refine ext_suffix ⟨_, ?_⟩); (try simp only [Array.append_assoc]); rfl) | (with_reducible (first | apply Ext.drew | apply Ext.alloc | apply Ext.more_)) | apply Ext.drew | apply Ext.alloc | apply Ext.more_)))
    try simp only [Act.put, zqA, zqB, zqC]
    iterate 2 ((refine wpPl_read (v := ?_) rfl ?_ (fun _ h => ?_) ?_; rotate_left 1; rfl; (obtain ⟨_, _, rfl⟩ := h.more; go_simp; try rfl)); try simp only [Act.put, zqA, zqB, zqC])
    refine wpPl_nil ?_
    go_wp2
    go_ret
    exact ⟨rfl, by with_reducible repeat (first | exact Ext.refl _ | apply Ext.drew | apply Ext.alloc | apply Ext.more_)⟩
  · rw [if_neg hs]
    have e1 : (ma.sign == mb.sign) = false := by simp [hs]
    generalize ma.sign = sa at *
    generalize mb.sign = sb at *
    by_cases hl : sa < sb
    · rw [if_pos hl]
      clear h1 h2 hs
      go_enter Tryz.func179, Tryz.ntmps179
      go_wp2_with (go_at_call 122; (with_reducible refine (right_rt _ _ _ (by assumption)).mono ?_); rintro e w' ⟨rfl, hbr⟩; obtain ⟨osr, dr, rfl⟩ := hbr.more)
      refine wp_plan (S := Ext _) [(0, 0), (2, 0), (1, 1), (3, 1), (4, 0), (5, 0)] [] (by kernel_rfl) (by kernel_rfl) (by kernel_rfl) (fun _ _ d _ _ h => by cases d <;> exact h) (Ext.drew (Ext.refl _)) ?_
      iterate 2 ((refine wpPl_read (v := ?_) rfl ?_ (fun _ h => ?_) ?_; rotate_left 1; rfl; (obtain ⟨_, _, rfl⟩ := h.more; go_simp; try rfl)); try simp only [Act.put, zqA, zqB, zqC])
      (refine wpPl_eff rfl ?_ (fun K hK => ?_); rfl; go_simp; (go_at_call 202; (with_reducible refine (hsa _).mono ?_); rintro e w' ⟨rfl, hx⟩; obtain ⟨os1, d1, rfl⟩ := hx.more); refine hK _ _ ?_ ?_; (repeat (first | (with_reducible (first | exact Ext.refl _ | exact ext_d _ _ _ _ | exact ext_app _ _ _ _ _ | exact ext_app2 _ _ _ _ _ _ | exact ext_app3 _ _ _ _ _ _ _ | exact ext_app4 _ _ _ _ _ _ _ _ | exact ext_app5 _ _ _ _ _ _ _ _ _)) | ((with_reducible refine ext_suffix ⟨_, ?_⟩); (try simp only [Array.append_assoc]); rfl) | (with_reducible (first | apply Ext.drew | apply Ext.alloc | apply Ext.more_)) | apply Ext.drew | apply Ext.alloc | apply Ext.more_)))
      try simp only [Act.put, zqA, zqB, zqC]
      (refine wpPl_eff rfl ?_ (fun K hK => ?_); rfl; go_simp; (go_at_call 202; (with_reducible refine (hsb _).mono ?_); rintro e w' ⟨rfl, hx⟩; obtain ⟨os2, d2, rfl⟩ := hx.more); refine hK _ _ ?_ ?_; (repeat (first | (with_reducible (first | exact Ext.refl _ | exact ext_d _ _ _ _ | exact ext_app _ _ _ _ _ | exact ext_app2 _ _ _ _ _ _ | exact ext_app3 _ _ _ _ _ _ _ | exact ext_app4 _ _ _ _ _ _ _ _ | exact ext_app5 _ _ _ _ _ _ _ _ _)) | ((with_reducible refine ext_suffix ⟨_, ?_⟩); (try simp only [Array.append_assoc]); rfl) | (with_reducible (first | apply Ext.drew | apply Ext.alloc | apply Ext.more_)) | apply Ext.drew | apply Ext.alloc | apply Ext.more_)))
      try simp only [Act.put, zqA, zqB, zqC]
      iterate 2 ((refine wpPl_read (v := ?_) rfl ?_ (fun _ h => ?_) ?_; rotate_left 1; rfl; (obtain ⟨_, _, rfl⟩ := h.more; go_simp; try rfl)); try simp only [Act.put, zqA, zqB, zqC])
      refine wpPl_nil ?_
      go_wp2
      go_ret
      exact ⟨rfl, by with_reducible repeat (first | exact Ext.refl _ | apply Ext.drew | apply Ext.alloc | apply Ext.more_)⟩
    · rw [if_neg hl]
      clear h1 h2 hs
      go_enter Tryz.func179, Tryz.ntmps179
      go_wp2_with (go_at_call 122; (with_reducible refine (right_rt _ _ _ (by assumption)).mono ?_); rintro e w' ⟨rfl, hbr⟩; obtain ⟨osr, dr, rfl⟩ := hbr.more)
      refine wp_plan (S := Ext _) [(0, 0), (2, 0), (1, 1), (3, 1), (4, 0), (5, 0)] [] (by kernel_rfl) (by kernel_rfl) (by kernel_rfl) (fun _ _ d _ _ h => by cases d <;> exact h) (Ext.drew (Ext.refl _)) ?_
      iterate 2 ((refine wpPl_read (v := ?_) rfl ?_ (fun _ h => ?_) ?_; rotate_left 1; rfl; (obtain ⟨_, _, rfl⟩ := h.more; go_simp; try rfl)); try simp only [Act.put, zqA, zqB, zqC])
      (refine wpPl_eff rfl ?_ (fun K hK => ?_); rfl; go_simp; (go_at_call 202; (with_reducible refine (hsa _).mono ?_); rintro e w' ⟨rfl, hx⟩; obtain ⟨os1, d1, rfl⟩ := hx.more); refine hK _ _ ?_ ?_; (repeat (first | (with_reducible (first | exact Ext.refl _ | exact ext_d _ _ _ _ | exact ext_app _ _ _ _ _ | exact ext_app2 _ _ _ _ _ _ | exact ext_app3 _ _ _ _ _ _ _ | exact ext_app4 _ _ _ _ _ _ _ _ | exact ext_app5 _ _ _ _ _ _ _ _ _)) | ((with_reducible refine ext_suffix ⟨_, ?_⟩); (try simp only [Array.append_assoc]); rfl) | (with_reducible (first | apply Ext.drew | apply Ext.alloc | apply Ext.more_)) | apply Ext.drew | apply Ext.alloc | apply Ext.more_)))
      try simp only [Act.put, zqA, zqB, zqC]
      (refine wpPl_eff rfl ?_ (fun K hK => ?_); rfl; go_simp; (go_at_call 202; (with_reducible refine (hsb _).mono ?_); rintro e w' ⟨rfl, hx⟩; obtain ⟨os2, d2, rfl⟩ := hx.more); refine hK _ _ ?_ ?_; (repeat (first | (with_reducible (first | exact Ext.refl _ | exact ext_d _ _ _ _ | exact ext_app _ _ _ _ _ | exact ext_app2 _ _ _ _ _ _ | exact ext_app3 _ _ _ _ _ _ _ | exact ext_app4 _ _ _ _ _ _ _ _ | exact ext_app5 _ _ _ _ _ _ _ _ _)) | ((with_reducible refine ext_suffix ⟨_, ?_⟩); (try simp only [Array.append_assoc]); rfl) | (with_reducible (first | apply Ext.drew | apply Ext.alloc | apply Ext.more_)) | apply Ext.drew | apply Ext.alloc | apply Ext.more_)))
      try simp only [Act.put, zqA, zqB, zqC]
      iterate 2 ((refine wpPl_read (v := ?_) rfl ?_ (fun _ h => ?_) ?_; rotate_left 1; rfl; (obtain ⟨_, _, rfl⟩ := h.more; go_simp; try rfl)); try simp only [Act.put, zqA, zqB, zqC])
      refine wpPl_nil ?_
      go_wp2
      go_ret
      exact ⟨rfl, by with_reducible repeat (first | exact Ext.refl _ | apply Ext.drew | apply Ext.alloc | apply Ext.more_)⟩
set_option maxHeartbeats 2000000 in
theorem cmp_any (ma ea mb eb : Int) (w : World) (hma : I64 ma) (hmb : I64 mb) :
    Calls Tryz.prog 179 #[NV ma ea, NV mb eb] w fun e w' => e = .returned (.int .i64 (cmpS ma ea mb eb)) ∧ Ext w w' := by
  unfold cmpS
  by_cases h1 : Rt ma ea
  · have r1 := rtB_yes h1
    by_cases h2 : Rt mb eb
    · rw [if_pos ⟨h1, h2⟩]; exact cmp_yes ma ea mb eb w h1 h2
    · have r2 := rtB_no h2
      rw [if_neg (fun h => h2 h.2)]
      clear h1 h2
      go_enter Tryz.func179, Tryz.ntmps179
      go_wp2_with (go_at_call 122; (with_reducible refine (right_rt _ _ _ (by assumption)).mono ?_); rintro e w' ⟨rfl, hbr⟩; obtain ⟨osr, dr, rfl⟩ := hbr.more)
      go_ret
      exact ⟨rfl, by with_reducible repeat (first | exact Ext.refl _ | apply Ext.drew | apply Ext.alloc | apply Ext.more_)⟩
  · have r1 := rtB_no h1
    rw [if_neg (fun h => h1 h.1)]
    clear h1
    go_enter Tryz.func179, Tryz.ntmps179
    go_wp2_with (go_at_call 122; (with_reducible refine (right_rt _ _ _ (by assumption)).mono ?_); rintro e w' ⟨rfl, hbr⟩; obtain ⟨osr, dr, rfl⟩ := hbr.more)
    go_ret
    exact ⟨rfl, by with_reducible repeat (first | exact Ext.refl _ | apply Ext.drew | apply Ext.alloc | apply Ext.more_)⟩
end Go.Proofs.YtmjmijjbijlhfaaGreatDoor
namespace Go.Proofs.YtmjmijjbijlhfaaGreatDoor
open Go.RowKit NM
theorem sum_flip (ma ea mb eb : Int) : sumI mb eb (-ma) ea = - sumI ma ea (-mb) eb := by
  unfold sumI
  rw [Int.min_comm eb ea, Int.neg_mul, Int.neg_mul]; omega
theorem cmp_flip (ma ea mb eb : Int) : cmpS mb eb ma ea = - cmpS ma ea mb eb := by
  unfold cmpS
  by_cases h : Rt ma ea ∧ Rt mb eb
  · rw [if_pos h, if_pos h.symm, sum_flip, Int.sign_neg]
  · rw [if_neg h, if_neg (fun h' => h h'.symm)]; rfl
end Go.Proofs.YtmjmijjbijlhfaaGreatDoor
namespace Go.Proofs.YtmjmijjbijlhfaaGreatDoor
open NM
theorem T_cast_mul (a b : Nat) : ((T (a + b) : Nat) : Int) = (T a : Nat) * (T b : Nat) := by rw [T_add, Int.natCast_mul]
theorem sum_sc {ma ea mb eb : Int} (h1 : -100 ≤ ea) (h2 : -100 ≤ eb) : sumI ma ea mb eb * (T (min ea eb + 100).toNat : Nat) = sc ma ea + sc mb eb := by
  unfold sumI sc
  rw [Int.add_mul, Int.mul_assoc, Int.mul_assoc, ← T_cast_mul, ← T_cast_mul]
  congr 3
  · congr 2; omega
  · congr 2; omega
theorem sc_neg (m e : Int) : sc (-m) e = - sc m e := by unfold sc; rw [Int.neg_mul]
theorem cmp_sc {ma ea mb eb : Int} (h1 : Rt ma ea) (h2 : Rt mb eb) : cmpS ma ea mb eb = (sc ma ea - sc mb eb).sign := by
  obtain ⟨_, b2, b3⟩ := Rt_bd h1
  obtain ⟨_, b5, b6⟩ := Rt_bd h2
  unfold cmpS
  rw [if_pos ⟨h1, h2⟩, ← sign_T _ (min ea eb + 100).toNat, sum_sc (by omega) (by omega), sc_neg, Int.sub_eq_add_neg]
theorem sign_le {x : Int} : x.sign ≤ 0 ↔ x ≤ 0 := by
  rcases Int.lt_trichotomy x 0 with h | h | h
  · rw [Int.sign_eq_neg_one_of_neg h]; omega
  · subst h; simp
  · rw [Int.sign_eq_one_of_pos h]; omega
theorem cmp_le {ma ea mb eb : Int} (h1 : Rt ma ea) (h2 : Rt mb eb) : cmpS ma ea mb eb ≤ 0 ↔ sc ma ea ≤ sc mb eb := by
  rw [cmp_sc h1 h2, sign_le]; omega
end Go.Proofs.YtmjmijjbijlhfaaGreatDoor
namespace Go.Proofs.YtmjmijjbijlhfaaGreatDoor
open Go.RowKit NM
def tl (t : ByteArray) : List UInt8 := t.data.toList
theorem tl_size (a : ByteArray) : (tl a).length = a.size := rfl
theorem tl_eq {a : ByteArray} {l : List UInt8} (h : tl a = l) : a = ⟨l.toArray⟩ := bytes_eq h
end Go.Proofs.YtmjmijjbijlhfaaGreatDoor
namespace Go.Proofs.YtmjmijjbijlhfaaGreatDoor
open Go.RowKit NM
def upB (b : UInt8) : UInt8 := if 97 ≤ b ∧ b ≤ 122 then b - 32 else b
def foldB (s : ByteArray) : ByteArray := ⟨((tl s).map upB).toArray⟩
theorem tl_fold (s : ByteArray) : tl (foldB s) = (tl s).map upB := by unfold foldB; rfl
theorem foldB_size (s : ByteArray) : (foldB s).size = s.size := by rw [← tl_size, tl_fold, List.length_map, tl_size]
def cmpT (a b : ByteArray) : Int := Lib.compareBytes (tl (foldB a)) (tl (foldB b))
def sgI (a b : Int) : Int := if a < b then -1 else if b < a then 1 else 0
def sgB (a b : Bool) : Int := if a = b then 0 else if b then -1 else 1
def Val.only (k : Int) : Val := ⟨k, 0, 0, ⟨#[]⟩, false, 0⟩
/-- value.beside. -/
def besideV (v w : Val) : Val := if v.kind ≠ 0 then v else if w.kind = 1 ∨ w.kind = 2 ∨ w.kind = 3 then Val.only w.kind else v
def cmpK (a b : Val) : Int :=
  if a.kind ≠ b.kind then (if a.kind < b.kind then -1 else 1)
  else if a.kind = 1 then cmpS a.mant a.exp b.mant b.exp
  else if a.kind = 2 then cmpT a.text b.text
  else if a.kind = 3 then sgB a.truth b.truth
  else if a.kind = 4 then sgI a.fault b.fault
  else 0
/-- value.Compare. -/
def cmpV (a b : Val) : Int := cmpK (besideV a b) (besideV b a)
/-- value.Order. -/
def ordV (a b : Val) : Int := if a.kind = 0 ∧ b.kind = 0 then 0 else if a.kind = 0 then 1 else if b.kind = 0 then -1 else cmpV a b
/-- counterpaneref02.sign. -/
def sgn2 (l m : Bool) : Int := if l then -1 else if m then 1 else 0
theorem cb_flip : ∀ a b : List UInt8, Lib.compareBytes b a = - Lib.compareBytes a b
  | [], [] => rfl
  | [], _ :: _ => rfl
  | _ :: _, [] => rfl
  | a :: l, b :: m => by
    unfold Lib.compareBytes
    by_cases h1 : a < b
    · rw [if_pos h1, if_neg (UInt8.lt_asymm h1), if_pos h1]; rfl
    · by_cases h2 : b < a
      · rw [if_pos h2, if_neg h1, if_pos h2]
      · rw [if_neg h2, if_neg h1, if_neg h1, if_neg h2]; exact cb_flip l m
theorem cb_trans : ∀ {a b c : List UInt8}, Lib.compareBytes a b ≤ 0 → Lib.compareBytes b c ≤ 0 → Lib.compareBytes a c ≤ 0
  | [], _, [], _, _ => by unfold Lib.compareBytes; omega
  | [], _, _ :: _, _, _ => by unfold Lib.compareBytes; omega
  | _ :: _, [], _, h, _ => by unfold Lib.compareBytes at h; omega
  | _ :: _, _ :: _, [], _, h => by unfold Lib.compareBytes at h; omega
  | a :: l, b :: m, c :: n, h1, h2 => by
    unfold Lib.compareBytes at h1 h2 ⊢
    have hab : a ≤ b := by
      rw [UInt8.le_iff_toNat_le]
      by_cases h : b < a
      · rw [if_neg (UInt8.lt_asymm h), if_pos h] at h1; omega
      · rw [UInt8.lt_iff_toNat_lt] at h; omega
    have hbc : b ≤ c := by
      rw [UInt8.le_iff_toNat_le]
      by_cases h : c < b
      · rw [if_neg (UInt8.lt_asymm h), if_pos h] at h2; omega
      · rw [UInt8.lt_iff_toNat_lt] at h; omega
    rw [UInt8.le_iff_toNat_le] at hab hbc
    by_cases hac : a < c
    · rw [if_pos hac]; omega
    · rw [if_neg hac, if_neg (by rw [UInt8.lt_iff_toNat_lt]; omega)]
      rw [UInt8.lt_iff_toNat_lt] at hac
      have e1 : ¬ a < b := by rw [UInt8.lt_iff_toNat_lt]; omega
      have e2 : ¬ b < a := by rw [UInt8.lt_iff_toNat_lt]; omega
      have e3 : ¬ b < c := by rw [UInt8.lt_iff_toNat_lt]; omega
      have e4 : ¬ c < b := by rw [UInt8.lt_iff_toNat_lt]; omega
      rw [if_neg e1, if_neg e2] at h1
      rw [if_neg e3, if_neg e4] at h2
      exact cb_trans h1 h2
/-- A kind that may be, and nothing told beside it where there is nothing. -/
def Val.sane (x : Val) : Prop := 0 ≤ x.kind ∧ x.kind ≤ 4 ∧ (x.kind = 0 → x.fault = 0)
/-- Blank has nothing told. -/
def Val.tidy (x : Val) : Prop := x.sane ∧ (x.kind = 0 → x = Val.only 0)
theorem cmpV_same {a b : Val} (h : a.kind = b.kind) : cmpV a b = cmpK a b := by
  unfold cmpV
  have h1 : ∀ x y : Val, x.kind = y.kind → besideV x y = x := fun x y e => by
    unfold besideV
    by_cases h0 : x.kind = 0
    · rw [if_neg (show ¬ (x.kind ≠ 0) from fun h => h h0), if_neg (show ¬ (y.kind = 1 ∨ y.kind = 2 ∨ y.kind = 3) by omega)]
    · rw [if_pos h0]
  rw [h1 a b h, h1 b a h.symm]
/-- What a right value is. -/
theorem right_cases {x : Val} (h : valRight x = true) : x.tidy ∧ (x.kind = 1 → numRightB x.mant x.exp = true) ∧ (x.kind = 2 → x.text.size ≤ 255) ∧ (x.kind = 4 → 1 ≤ x.fault ∧ x.fault ≤ 9) := by
  unfold valRight at h
  by_cases h0 : x.kind = 0
  · rw [if_pos h0] at h
    have := of_decide_eq_true h
    subst this
    exact ⟨⟨⟨by decide, by decide, fun _ => rfl⟩, fun _ => rfl⟩, fun h => absurd h (by decide), fun h => absurd h (by decide), fun h => absurd h (by decide)⟩
  · rw [if_neg h0] at h
    by_cases h1 : x.kind = 1
    · rw [if_pos h1, Bool.and_eq_true] at h
      exact ⟨⟨⟨by omega, by omega, fun h => by omega⟩, fun h => by omega⟩, fun _ => h.1, fun h => by omega, fun h => by omega⟩
    · rw [if_neg h1] at h
      by_cases h2 : x.kind = 2
      · rw [if_pos h2] at h
        have := of_decide_eq_true h
        refine ⟨⟨⟨by omega, by omega, fun h => by omega⟩, fun h => by omega⟩, fun h => by omega, fun _ => ?_, fun h => by omega⟩
        unfold textV at this
        by_cases h5 : 255 < x.text.size
        · rw [if_pos h5] at this; rw [this] at h2; cases h2
        · omega
      · rw [if_neg h2] at h
        by_cases h3 : x.kind = 3
        · exact ⟨⟨⟨by omega, by omega, fun h => by omega⟩, fun h => by omega⟩, fun h => by omega, fun h => by omega, fun h => by omega⟩
        · rw [if_neg h3] at h
          by_cases h4 : x.kind = 4
          · rw [if_pos h4] at h
            have := of_decide_eq_true h
            refine ⟨⟨⟨by omega, by omega, fun h => by omega⟩, fun h => by omega⟩, fun h => by omega, fun h => by omega, fun _ => ?_⟩
            have hf : x.fault = badF x.fault := congrArg Val.fault this
            unfold badF at hf
            split at hf <;> omega
          · rw [if_neg h4] at h; cases h
end Go.Proofs.YtmjmijjbijlhfaaGreatDoor
namespace Go.Proofs.YtmjmijjbijlhfaaGreatDoor
open Go.RowKit NM
/-- Where num's reader stands. -/
structure St where
  st : Nat
  neg : Bool
  npow : Bool
  ds : List Nat
  beh : Nat
  pow : Nat
def isD (c : Nat) : Bool := decide (48 ≤ c ∧ c ≤ 57)
def digS (s : St) (c : Nat) : St :=
  if s.st ≤ 2 then { s with st := 2, ds := s.ds ++ [c - 48] }
  else if s.st ≤ 4 then { s with st := 4, beh := s.beh + 1, ds := s.ds ++ [c - 48] }
  else { s with st := 7, pow := if s.pow < 100000 then s.pow * 10 + (c - 48) else s.pow }
def takeS (s : St) (c : Nat) : Option St :=
  if isD c = true then some (digS s c)
  else if c = 45 ∧ s.st = 0 then some { s with neg := true, st := 1 }
  else if c = 46 ∧ s.st ≤ 2 then some { s with st := 3 }
  else if (c = 101 ∨ c = 69) ∧ (s.st = 2 ∨ s.st = 4) then some { s with st := 5 }
  else if (c = 45 ∨ c = 43) ∧ s.st = 5 then some { s with npow := decide (c = 45), st := 6 }
  else none
def runS : List Nat → St → Option St
  | [], s => some s
  | c :: l, s => (takeS s c).bind (runS l)
def endS (s : St) : Option (Int × Int) :=
  if s.st = 2 ∨ s.st = 4 ∨ s.st = 7 then rnd s.neg (val s.ds) false ((if s.npow then -(s.pow : Int) else s.pow) - s.beh) else none
def st0 : St := ⟨0, false, false, [], 0, 0⟩
def parM (l : List Nat) : Option (Int × Int) := (runS l st0).bind endS
theorem runS_append (a b : List Nat) : ∀ s, runS (a ++ b) s = (runS a s).bind (runS b) := by
  induction a with
  | nil => intro s; rfl
  | cons c l ih =>
    intro s
    show (takeS s c).bind (runS (l ++ b)) = ((takeS s c).bind (runS l)).bind (runS b)
    cases takeS s c with
    | none => rfl
    | some s' => exact ih s'
end Go.Proofs.YtmjmijjbijlhfaaGreatDoor
namespace Go.Proofs.YtmjmijjbijlhfaaGreatDoor
open Go.RowKit NM
theorem own_slice1 {w : World} {base : Nat} {e : TypeId} {v : Value} {n : Nat} {xs : List Value} (h : w.ownsRow base e 1 v n xs) : ∃ A L c, v = .slice A L c := by
  obtain ⟨_, h2⟩ := h
  rcases h2 with ⟨rfl, _⟩ | ⟨g, cap, cur, rfl, _⟩
  · exact ⟨_, _, _, rfl⟩
  · exact ⟨_, _, _, rfl⟩
/-- What a reader leaves as it was. -/
structure Fr (base : Nat) (w w' : World) : Prop where
  low : Below base w w'
  it : ∀ (b : Nat) (s : ByteArray) (pos : Nat), w.heap[b]? = some (Obj.stringIter s pos) → w'.heap[b]? = some (Obj.stringIter s pos)
theorem Fr.refl (base : Nat) (w : World) : Fr base w w := ⟨Below.refl _ _, fun _ _ _ h => h⟩
theorem Fr.trans {base : Nat} {a b c : World} (h : Fr base a b) (k : Fr base b c) : Fr base a c := ⟨Below.trans h.low k.low, fun i s pos hi => k.it i s pos (h.it i s pos hi)⟩
/-- A reader in block q. -/
structure RD (base q : Nat) (st : Nat) (neg npow : Bool) (ds : List Nat) (beh pow : Nat) (v : Value) (w : World) : Prop where
  row : w.heap[q]? = some (.cells #[.int .i64 (st : Int), .bool neg, .bool npow, v, .int .i64 (beh : Int), .int .i64 (pow : Int)] 163 (0, 0))
  own : w.ownsRow base 5 1 v ds.length (b8 ds)
  qb : base ≤ q
section
variable {base q st beh pow : Nat} {neg npow : Bool} {ds : List Nat} {v : Value} {w : World}
theorem RD.at (h : RD base q st neg npow ds beh pow v w) : w.cell? ⟨q, 0, none⟩ = some (.int .i64 (st : Int)) ∧ w.cell? ⟨q, 1, none⟩ = some (.bool neg) ∧ w.cell? ⟨q, 2, none⟩ = some (.bool npow) ∧ w.cell? ⟨q, 3, none⟩ = some v ∧ w.cell? ⟨q, 4, none⟩ = some (.int .i64 (beh : Int)) ∧ w.cell? ⟨q, 5, none⟩ = some (.int .i64 (pow : Int)) := by
  refine ⟨?_, ?_, ?_, ?_, ?_, ?_⟩ <;> rw [cell_of_row w q _ _ _ (0, 0) h.row] <;> rfl
theorem RD.fz (h : RD base q st neg npow ds beh pow v w) (o : Nat) : w.frozen? ⟨q, o, none⟩ = false := frozen_of_row w q o _ _ h.row
theorem RD.lt (h : RD base q st neg npow ds beh pow v w) : q < w.heap.size := lt_block h.row
theorem RD.fr (h : RD base q st neg npow ds beh pow v w) (o : Nat) (x : Value) : Fr base w (w.setCell ⟨q, o, none⟩ x) :=
  ⟨Below.setCell (Below.refl _ _) h.qb x, fun b s pos hb => by
    rw [RowKit.Below.heap_setCell _ _ _ _ (fun he => by subst he; rw [h.row] at hb; cases hb)]; exact hb⟩
theorem RD.keep (h : RD base q st neg npow ds beh pow v w) (o : Nat) (x : Value) : (w.setCell ⟨q, o, none⟩ x).ownsRow base 5 1 v ds.length (b8 ds) :=
  own_keep h.own fun g cur hg => RowKit.Below.heap_setCell _ _ _ _ (fun he => by subst he; rw [h.row] at hg; cases hg)
theorem RD.set0 (h : RD base q st neg npow ds beh pow v w) (st' : Nat) : RD base q st' neg npow ds beh pow v (w.setCell ⟨q, 0, none⟩ (.int .i64 (st' : Int))) := ⟨heap_setCell_same w q 0 _ _ _ h.row, h.keep _ _, h.qb⟩
theorem RD.set1 (h : RD base q st neg npow ds beh pow v w) (n' : Bool) : RD base q st n' npow ds beh pow v (w.setCell ⟨q, 1, none⟩ (.bool n')) := ⟨heap_setCell_same w q 1 _ _ _ h.row, h.keep _ _, h.qb⟩
theorem RD.set2 (h : RD base q st neg npow ds beh pow v w) (n' : Bool) : RD base q st neg n' ds beh pow v (w.setCell ⟨q, 2, none⟩ (.bool n')) := ⟨heap_setCell_same w q 2 _ _ _ h.row, h.keep _ _, h.qb⟩
theorem RD.set4 (h : RD base q st neg npow ds beh pow v w) (b' : Nat) : RD base q st neg npow ds b' pow v (w.setCell ⟨q, 4, none⟩ (.int .i64 (b' : Int))) := ⟨heap_setCell_same w q 4 _ _ _ h.row, h.keep _ _, h.qb⟩
theorem RD.set5 (h : RD base q st neg npow ds beh pow v w) (p' : Nat) : RD base q st neg npow ds beh p' v (w.setCell ⟨q, 5, none⟩ (.int .i64 (p' : Int))) := ⟨heap_setCell_same w q 5 _ _ _ h.row, h.keep _ _, h.qb⟩
/-- One digit more. -/
theorem RD.grown {w3 : World} {v3 : Value} {o : Obj} {d : Nat} (h : RD base q st neg npow ds beh pow v w) (hg : (w.alloc o).grownBy w3 v.ownBlock) (ho : w3.ownsRow base 5 1 v3 (ds.length + 1) (b8 ds ++ [.int .u8 (d : Int)])) (hb : base ≤ w.heap.size) :
    w3.heap[q]? = w.heap[q]? ∧ RD base q st neg npow (ds ++ [d]) beh pow v3 (w3.setCell ⟨q, 3, none⟩ v3) ∧ Fr base w (w3.setCell ⟨q, 3, none⟩ v3) := by
  have hob := own_block1 h.own
  have hne : ∀ b, (∀ cur, w.heap[b]? ≠ some (.cells cur 5 (0, 0))) → some b ≠ v.ownBlock := fun b hb he => by
    obtain ⟨_, cur, hc⟩ := hob b he.symm
    exact hb cur hc
  have hk : ∀ b, b < w.heap.size → some b ≠ v.ownBlock → w3.heap[b]? = w.heap[b]? := fun b hb he => by
    rw [hg.block b (by simp; omega) he, RowKit.Below.heap_alloc _ o b hb]
  have hq : w3.heap[q]? = w.heap[q]? := hk q h.lt (hne q fun cur hc => by rw [h.row] at hc; cases hc)
  have hrow := h.row
  rw [← hq] at hrow
  have hsz := hg.size
  simp at hsz
  refine ⟨hq, ⟨heap_setCell_same w3 q 3 _ _ v3 hrow, ?_, h.qb⟩, ?_, ?_⟩
  · rw [List.length_append, b8, List.map_append]
    exact own_keep ho fun g cur hc => RowKit.Below.heap_setCell _ _ _ _ (fun he => by subst he; rw [hrow] at hc; cases hc)
  · have hbl : Below base w w3 := ⟨hg.os, hg.tape, hg.output, by omega, fun b hb' => hk b (by omega) fun he => by have := (hob b he.symm).1; omega⟩
    exact Below.setCell hbl h.qb v3
  · intro b s pos hb'
    rw [RowKit.Below.heap_setCell _ _ _ _ (fun he => by subst he; rw [h.row] at hb'; cases hb'), hk b (lt_block hb') (hne b fun cur hc => by rw [hb'] at hc; cases hc)]
    exact hb'
end
set_option maxHeartbeats 1000000 in
theorem digit_any (base q st : Nat) (neg npow : Bool) (ds : List Nat) (beh pow c : Nat) (v : Value) (w : World) (h : RD base q st neg npow ds beh pow v w) (hbw : base ≤ w.heap.size) (hc : 48 ≤ c ∧ c ≤ 57) (hst : st ≤ 7) (hds : ds.length ≤ 300) (hbeh : beh ≤ 300) (hpow : pow ≤ 1000000) :
    Calls Tryz.prog 199 #[.pointer (some ⟨q, 0, none⟩), .int .i32 (c : Int)] w fun r w' => r = .returned (.tuple #[]) ∧ ∃ s' v', digS ⟨st, neg, npow, ds, beh, pow⟩ c = s' ∧ RD base q s'.st s'.neg s'.npow s'.ds s'.beh s'.pow v' w' ∧ Fr base w w' := by
  obtain ⟨i0, hi, hz0, hz1, hz2⟩ := info_parts info_byte
  have hcd : (c : Int) - 48 = ((c - 48 : Nat) : Int) := by omega
  obtain ⟨c0, c1, c2, c3, c4, c5⟩ := h.at
  have f0 := h.fz 0
  have f4 := h.fz 4
  have f5 := h.fz 5
  have lq := h.lt
  have HR := Lib.hid h
  clear h
  have hst' : st = 0 ∨ st = 1 ∨ st = 2 ∨ st = 3 ∨ st = 4 ∨ st = 5 ∨ st = 6 ∨ st = 7 := by omega
  rcases hst' with rfl | rfl | rfl | rfl | rfl | rfl | rfl | rfl
  · go_enter Tryz.func199, Tryz.ntmps199; go_upto_region 12 with fail; refine wp_world fun W hW => ?_; (have hR : RD base q 2 neg npow ds beh pow v W := by rw [hW]; exact HR.out.set0 2); (have hF : Fr base w W := by rw [hW]; exact HR.out.fr _ _); (have hbW : base ≤ W.heap.size := Nat.le_trans hbw hF.low.size); clear hW HR c0 c1 c2 c3 c4 c5 f0 f4 f5 lq hbw; obtain ⟨c0, c1, c2, c3, c4, c5⟩ := hR.at; have lq := hR.lt; have HR := Lib.hid hR; clear hR; go_wp2_with (at_builtin; refine wpList_append_own _ rfl _ _ _ rfl base 5 i0 (.int .u8 0) 1 1 Tryz.underlying135 hi hz0 hz1 hz2 rfl (by decide) _ ds.length (b8 ds) rfl (own_keep HR.out.own fun g cur hg => RowKit.Below.heap_alloc _ _ g (lt_block hg)) _ 1 1 [.int .u8 ((c - 48 : Nat) : Int)] rfl rfl (Rd.one_ _ _ rfl).add (one_u8 _) (by simp [maxLen]; omega) (by omega) (by simp; omega) ?_; intro v3 w3 ho3 hg3 _; obtain ⟨A3, L3, C3, hv3⟩ := own_slice1 ho3; subst hv3; obtain ⟨hq3, hRD3, hFr3⟩ := HR.out.grown hg3 ho3 hbW; have hrow3 := HR.out.row; rw [← hq3] at hrow3; have fz3 := frozen_of_row w3 q 3 _ _ hrow3; have lt3 := lt_block hrow3; have q3 : w3.cell? ⟨q, 3, none⟩ = some v := by rw [cell_of_row w3 q 3 _ _ (0, 0) hrow3]; rfl); exact bodyPost_end (v := .tuple #[]) (by simp [results, Tryz.results199, go_sem]) rfl ⟨rfl, _, _, rfl, hRD3, hF.trans hFr3⟩
  · go_enter Tryz.func199, Tryz.ntmps199; go_upto_region 12 with fail; refine wp_world fun W hW => ?_; (have hR : RD base q 2 neg npow ds beh pow v W := by rw [hW]; exact HR.out.set0 2); (have hF : Fr base w W := by rw [hW]; exact HR.out.fr _ _); (have hbW : base ≤ W.heap.size := Nat.le_trans hbw hF.low.size); clear hW HR c0 c1 c2 c3 c4 c5 f0 f4 f5 lq hbw; obtain ⟨c0, c1, c2, c3, c4, c5⟩ := hR.at; have lq := hR.lt; have HR := Lib.hid hR; clear hR; go_wp2_with (at_builtin; refine wpList_append_own _ rfl _ _ _ rfl base 5 i0 (.int .u8 0) 1 1 Tryz.underlying135 hi hz0 hz1 hz2 rfl (by decide) _ ds.length (b8 ds) rfl (own_keep HR.out.own fun g cur hg => RowKit.Below.heap_alloc _ _ g (lt_block hg)) _ 1 1 [.int .u8 ((c - 48 : Nat) : Int)] rfl rfl (Rd.one_ _ _ rfl).add (one_u8 _) (by simp [maxLen]; omega) (by omega) (by simp; omega) ?_; intro v3 w3 ho3 hg3 _; obtain ⟨A3, L3, C3, hv3⟩ := own_slice1 ho3; subst hv3; obtain ⟨hq3, hRD3, hFr3⟩ := HR.out.grown hg3 ho3 hbW; have hrow3 := HR.out.row; rw [← hq3] at hrow3; have fz3 := frozen_of_row w3 q 3 _ _ hrow3; have lt3 := lt_block hrow3; have q3 : w3.cell? ⟨q, 3, none⟩ = some v := by rw [cell_of_row w3 q 3 _ _ (0, 0) hrow3]; rfl); exact bodyPost_end (v := .tuple #[]) (by simp [results, Tryz.results199, go_sem]) rfl ⟨rfl, _, _, rfl, hRD3, hF.trans hFr3⟩
  · go_enter Tryz.func199, Tryz.ntmps199; go_upto_region 12 with fail; refine wp_world fun W hW => ?_; (have hR : RD base q 2 neg npow ds beh pow v W := by rw [hW]; exact HR.out.set0 2); (have hF : Fr base w W := by rw [hW]; exact HR.out.fr _ _); (have hbW : base ≤ W.heap.size := Nat.le_trans hbw hF.low.size); clear hW HR c0 c1 c2 c3 c4 c5 f0 f4 f5 lq hbw; obtain ⟨c0, c1, c2, c3, c4, c5⟩ := hR.at; have lq := hR.lt; have HR := Lib.hid hR; clear hR; go_wp2_with (at_builtin; refine wpList_append_own _ rfl _ _ _ rfl base 5 i0 (.int .u8 0) 1 1 Tryz.underlying135 hi hz0 hz1 hz2 rfl (by decide) _ ds.length (b8 ds) rfl (own_keep HR.out.own fun g cur hg => RowKit.Below.heap_alloc _ _ g (lt_block hg)) _ 1 1 [.int .u8 ((c - 48 : Nat) : Int)] rfl rfl (Rd.one_ _ _ rfl).add (one_u8 _) (by simp [maxLen]; omega) (by omega) (by simp; omega) ?_; intro v3 w3 ho3 hg3 _; obtain ⟨A3, L3, C3, hv3⟩ := own_slice1 ho3; subst hv3; obtain ⟨hq3, hRD3, hFr3⟩ := HR.out.grown hg3 ho3 hbW; have hrow3 := HR.out.row; rw [← hq3] at hrow3; have fz3 := frozen_of_row w3 q 3 _ _ hrow3; have lt3 := lt_block hrow3; have q3 : w3.cell? ⟨q, 3, none⟩ = some v := by rw [cell_of_row w3 q 3 _ _ (0, 0) hrow3]; rfl); exact bodyPost_end (v := .tuple #[]) (by simp [results, Tryz.results199, go_sem]) rfl ⟨rfl, _, _, rfl, hRD3, hF.trans hFr3⟩
  · go_enter Tryz.func199, Tryz.ntmps199; go_upto_region 12 with fail; refine wp_world fun W hW => ?_; (have hR : RD base q 4 neg npow ds (beh + 1) pow v W := by rw [hW]; exact (HR.out.set0 4).set4 (beh + 1)); (have hF : Fr base w W := by rw [hW]; exact (HR.out.fr _ _).trans ((HR.out.set0 4).fr _ _)); (have hbW : base ≤ W.heap.size := Nat.le_trans hbw hF.low.size); clear hW HR c0 c1 c2 c3 c4 c5 f0 f4 f5 lq hbw; obtain ⟨c0, c1, c2, c3, c4, c5⟩ := hR.at; have lq := hR.lt; have HR := Lib.hid hR; clear hR; go_wp2_with (at_builtin; refine wpList_append_own _ rfl _ _ _ rfl base 5 i0 (.int .u8 0) 1 1 Tryz.underlying135 hi hz0 hz1 hz2 rfl (by decide) _ ds.length (b8 ds) rfl (own_keep HR.out.own fun g cur hg => RowKit.Below.heap_alloc _ _ g (lt_block hg)) _ 1 1 [.int .u8 ((c - 48 : Nat) : Int)] rfl rfl (Rd.one_ _ _ rfl).add (one_u8 _) (by simp [maxLen]; omega) (by omega) (by simp; omega) ?_; intro v3 w3 ho3 hg3 _; obtain ⟨A3, L3, C3, hv3⟩ := own_slice1 ho3; subst hv3; obtain ⟨hq3, hRD3, hFr3⟩ := HR.out.grown hg3 ho3 hbW; have hrow3 := HR.out.row; rw [← hq3] at hrow3; have fz3 := frozen_of_row w3 q 3 _ _ hrow3; have lt3 := lt_block hrow3; have q3 : w3.cell? ⟨q, 3, none⟩ = some v := by rw [cell_of_row w3 q 3 _ _ (0, 0) hrow3]; rfl); exact bodyPost_end (v := .tuple #[]) (by simp [results, Tryz.results199, go_sem]) rfl ⟨rfl, _, _, rfl, hRD3, hF.trans hFr3⟩
  · go_enter Tryz.func199, Tryz.ntmps199; go_upto_region 12 with fail; refine wp_world fun W hW => ?_; (have hR : RD base q 4 neg npow ds (beh + 1) pow v W := by rw [hW]; exact (HR.out.set0 4).set4 (beh + 1)); (have hF : Fr base w W := by rw [hW]; exact (HR.out.fr _ _).trans ((HR.out.set0 4).fr _ _)); (have hbW : base ≤ W.heap.size := Nat.le_trans hbw hF.low.size); clear hW HR c0 c1 c2 c3 c4 c5 f0 f4 f5 lq hbw; obtain ⟨c0, c1, c2, c3, c4, c5⟩ := hR.at; have lq := hR.lt; have HR := Lib.hid hR; clear hR; go_wp2_with (at_builtin; refine wpList_append_own _ rfl _ _ _ rfl base 5 i0 (.int .u8 0) 1 1 Tryz.underlying135 hi hz0 hz1 hz2 rfl (by decide) _ ds.length (b8 ds) rfl (own_keep HR.out.own fun g cur hg => RowKit.Below.heap_alloc _ _ g (lt_block hg)) _ 1 1 [.int .u8 ((c - 48 : Nat) : Int)] rfl rfl (Rd.one_ _ _ rfl).add (one_u8 _) (by simp [maxLen]; omega) (by omega) (by simp; omega) ?_; intro v3 w3 ho3 hg3 _; obtain ⟨A3, L3, C3, hv3⟩ := own_slice1 ho3; subst hv3; obtain ⟨hq3, hRD3, hFr3⟩ := HR.out.grown hg3 ho3 hbW; have hrow3 := HR.out.row; rw [← hq3] at hrow3; have fz3 := frozen_of_row w3 q 3 _ _ hrow3; have lt3 := lt_block hrow3; have q3 : w3.cell? ⟨q, 3, none⟩ = some v := by rw [cell_of_row w3 q 3 _ _ (0, 0) hrow3]; rfl); exact bodyPost_end (v := .tuple #[]) (by simp [results, Tryz.results199, go_sem]) rfl ⟨rfl, _, _, rfl, hRD3, hF.trans hFr3⟩
  · go_enter Tryz.func199, Tryz.ntmps199; go_upto_region 2 with fail; refine wp_world fun W hW => ?_; (have hR : RD base q 7 neg npow ds beh pow v W := by rw [hW]; exact HR.out.set0 7); (have hF : Fr base w W := by rw [hW]; exact HR.out.fr _ _); clear hW HR c0 c1 c2 c3 c4 c5 f0 f4 f5 lq hbw; obtain ⟨c0, c1, c2, c3, c4, c5⟩ := hR.at; have f5 := hR.fz 5; have lq := hR.lt; have HR := Lib.hid hR; clear hR; by_cases hp : pow < 100000
    · have hd : decide ((pow : Int) < 100000) = true := decide_eq_true (by omega)
      have HP := Lib.hid hp
      clear hp
      go_wp2_with fail
      refine bodyPost_ret (v := .tuple #[]) (by simp [results, Tryz.results199, go_sem]) rfl ⟨rfl, ⟨7, neg, npow, ds, beh, pow * 10 + (c - 48)⟩, v, by simp [digS, HP.out], ?_, hF.trans (HR.out.fr _ _)⟩
      have := HR.out.set5 (pow * 10 + (c - 48))
      rw [Int.natCast_add, Int.natCast_mul] at this
      exact this
    · have hd : decide ((pow : Int) < 100000) = false := decide_eq_false (by omega)
      have HP := Lib.hid hp
      clear hp
      go_wp2_with fail
      exact bodyPost_ret (v := .tuple #[]) (by simp [results, Tryz.results199, go_sem]) rfl ⟨rfl, ⟨7, neg, npow, ds, beh, pow⟩, v, by simp [digS, HP.out], HR.out, hF⟩
  · go_enter Tryz.func199, Tryz.ntmps199; go_upto_region 2 with fail; refine wp_world fun W hW => ?_; (have hR : RD base q 7 neg npow ds beh pow v W := by rw [hW]; exact HR.out.set0 7); (have hF : Fr base w W := by rw [hW]; exact HR.out.fr _ _); clear hW HR c0 c1 c2 c3 c4 c5 f0 f4 f5 lq hbw; obtain ⟨c0, c1, c2, c3, c4, c5⟩ := hR.at; have f5 := hR.fz 5; have lq := hR.lt; have HR := Lib.hid hR; clear hR; by_cases hp : pow < 100000
    · have hd : decide ((pow : Int) < 100000) = true := decide_eq_true (by omega)
      have HP := Lib.hid hp
      clear hp
      go_wp2_with fail
      refine bodyPost_ret (v := .tuple #[]) (by simp [results, Tryz.results199, go_sem]) rfl ⟨rfl, ⟨7, neg, npow, ds, beh, pow * 10 + (c - 48)⟩, v, by simp [digS, HP.out], ?_, hF.trans (HR.out.fr _ _)⟩
      have := HR.out.set5 (pow * 10 + (c - 48))
      rw [Int.natCast_add, Int.natCast_mul] at this
      exact this
    · have hd : decide ((pow : Int) < 100000) = false := decide_eq_false (by omega)
      have HP := Lib.hid hp
      clear hp
      go_wp2_with fail
      exact bodyPost_ret (v := .tuple #[]) (by simp [results, Tryz.results199, go_sem]) rfl ⟨rfl, ⟨7, neg, npow, ds, beh, pow⟩, v, by simp [digS, HP.out], HR.out, hF⟩
  · go_enter Tryz.func199, Tryz.ntmps199; go_upto_region 2 with fail; refine wp_world fun W hW => ?_; (have hR : RD base q 7 neg npow ds beh pow v W := by rw [hW]; exact HR.out.set0 7); (have hF : Fr base w W := by rw [hW]; exact HR.out.fr _ _); clear hW HR c0 c1 c2 c3 c4 c5 f0 f4 f5 lq hbw; obtain ⟨c0, c1, c2, c3, c4, c5⟩ := hR.at; have f5 := hR.fz 5; have lq := hR.lt; have HR := Lib.hid hR; clear hR; by_cases hp : pow < 100000
    · have hd : decide ((pow : Int) < 100000) = true := decide_eq_true (by omega)
      have HP := Lib.hid hp
      clear hp
      go_wp2_with fail
      refine bodyPost_ret (v := .tuple #[]) (by simp [results, Tryz.results199, go_sem]) rfl ⟨rfl, ⟨7, neg, npow, ds, beh, pow * 10 + (c - 48)⟩, v, by simp [digS, HP.out], ?_, hF.trans (HR.out.fr _ _)⟩
      have := HR.out.set5 (pow * 10 + (c - 48))
      rw [Int.natCast_add, Int.natCast_mul] at this
      exact this
    · have hd : decide ((pow : Int) < 100000) = false := decide_eq_false (by omega)
      have HP := Lib.hid hp
      clear hp
      go_wp2_with fail
      exact bodyPost_ret (v := .tuple #[]) (by simp [results, Tryz.results199, go_sem]) rfl ⟨rfl, ⟨7, neg, npow, ds, beh, pow⟩, v, by simp [digS, HP.out], HR.out, hF⟩
end Go.Proofs.YtmjmijjbijlhfaaGreatDoor
namespace Go.Proofs.YtmjmijjbijlhfaaGreatDoor
open Go.RowKit NM
set_option maxHeartbeats 1000000 in
theorem take_any (base q st : Nat) (neg npow : Bool) (ds : List Nat) (beh pow c : Nat) (v : Value) (w : World) (h : RD base q st neg npow ds beh pow v w) (hbw : base ≤ w.heap.size) (hst : st ≤ 7) (hds : ds.length ≤ 300) (hbeh : beh ≤ 300) (hpow : pow ≤ 1000000) :
    Calls Tryz.prog 176 #[.pointer (some ⟨q, 0, none⟩), .int .i32 (c : Int)] w fun r w' => r = .returned (.bool (takeS ⟨st, neg, npow, ds, beh, pow⟩ c).isSome) ∧ Fr base w w' ∧ ∀ s', takeS ⟨st, neg, npow, ds, beh, pow⟩ c = some s' → ∃ v', RD base q s'.st s'.neg s'.npow s'.ds s'.beh s'.pow v' w' := by
  obtain ⟨c0, c1, c2, c3, c4, c5⟩ := h.at
  have f0 := h.fz 0
  have f1 := h.fz 1
  have f2 := h.fz 2
  have lq := h.lt
  by_cases hd : 48 ≤ c ∧ c ≤ 57
  · have hdg := digit_any base q st neg npow ds beh pow c v w h hbw hd hst hds hbeh hpow
    have hS : takeS ⟨st, neg, npow, ds, beh, pow⟩ c = some (digS ⟨st, neg, npow, ds, beh, pow⟩ c) := by unfold takeS isD; rw [if_pos (decide_eq_true hd)]
    have g1 : decide (48 ≤ (c : Int)) = true := decide_eq_true (by omega)
    have g2 : decide ((c : Int) ≤ 57) = true := decide_eq_true (by omega)
    have HS := Lib.hid hS
    clear h hS
    go_enter Tryz.func176, Tryz.ntmps176
    go_wp2_with (go_at_call 199; (with_reducible refine hdg.mono ?_); rintro e w' ⟨rfl, s', v', hs, hrd, hfr⟩)
    exact bodyPost_ret (v := .bool true) (by simp [results, Tryz.results176, go_sem]) rfl ⟨by rw [HS.out]; rfl, hfr, fun s'' h'' => by rw [HS.out] at h''; cases h''; rw [hs]; exact ⟨v', hrd⟩⟩
  · have HR := Lib.hid h
    have hst0 : (st = 0 ∨ st = 1 ∨ st = 2 ∨ st = 3 ∨ st = 4 ∨ st = 5 ∨ st = 6 ∨ st = 7) := by omega
    clear h
    by_cases h45 : c = 45
    · subst h45
      clear hd
      rcases hst0 with rfl | rfl | rfl | rfl | rfl | rfl | rfl | rfl
      · have HS : Hid (takeS ⟨0, neg, npow, ds, beh, pow⟩ 45 = some ⟨1, true, npow, ds, beh, pow⟩) := by show takeS _ _ = _; simp [takeS, isD]
        (go_enter Tryz.func176, Tryz.ntmps176; go_wp2_with fail; exact bodyPost_ret (v := .bool true) (by simp [results, Tryz.results176, go_sem]) rfl ⟨by rw [HS.out]; rfl, (HR.out.fr _ _).trans ((HR.out.set1 true).fr _ _), fun s' hs => by rw [HS.out] at hs; cases hs; exact ⟨v, (HR.out.set1 true).set0 1⟩⟩)
      · have HS : Hid (takeS ⟨1, neg, npow, ds, beh, pow⟩ 45 = none) := by show takeS _ _ = _; simp [takeS, isD]
        (go_enter Tryz.func176, Tryz.ntmps176; go_wp2_with fail; exact bodyPost_ret (v := .bool false) (by simp [results, Tryz.results176, go_sem]) rfl ⟨by rw [HS.out]; rfl, Fr.refl _ _, fun s' hs => by rw [HS.out] at hs; cases hs⟩)
      · have HS : Hid (takeS ⟨2, neg, npow, ds, beh, pow⟩ 45 = none) := by show takeS _ _ = _; simp [takeS, isD]
        (go_enter Tryz.func176, Tryz.ntmps176; go_wp2_with fail; exact bodyPost_ret (v := .bool false) (by simp [results, Tryz.results176, go_sem]) rfl ⟨by rw [HS.out]; rfl, Fr.refl _ _, fun s' hs => by rw [HS.out] at hs; cases hs⟩)
      · have HS : Hid (takeS ⟨3, neg, npow, ds, beh, pow⟩ 45 = none) := by show takeS _ _ = _; simp [takeS, isD]
        (go_enter Tryz.func176, Tryz.ntmps176; go_wp2_with fail; exact bodyPost_ret (v := .bool false) (by simp [results, Tryz.results176, go_sem]) rfl ⟨by rw [HS.out]; rfl, Fr.refl _ _, fun s' hs => by rw [HS.out] at hs; cases hs⟩)
      · have HS : Hid (takeS ⟨4, neg, npow, ds, beh, pow⟩ 45 = none) := by show takeS _ _ = _; simp [takeS, isD]
        (go_enter Tryz.func176, Tryz.ntmps176; go_wp2_with fail; exact bodyPost_ret (v := .bool false) (by simp [results, Tryz.results176, go_sem]) rfl ⟨by rw [HS.out]; rfl, Fr.refl _ _, fun s' hs => by rw [HS.out] at hs; cases hs⟩)
      · have HS : Hid (takeS ⟨5, neg, npow, ds, beh, pow⟩ 45 = some ⟨6, neg, true, ds, beh, pow⟩) := by show takeS _ _ = _; simp [takeS, isD]
        (go_enter Tryz.func176, Tryz.ntmps176; go_wp2_with fail; exact bodyPost_ret (v := .bool true) (by simp [results, Tryz.results176, go_sem]) rfl ⟨by rw [HS.out]; rfl, (HR.out.fr _ _).trans ((HR.out.set2 true).fr _ _), fun s' hs => by rw [HS.out] at hs; cases hs; exact ⟨v, (HR.out.set2 true).set0 6⟩⟩)
      · have HS : Hid (takeS ⟨6, neg, npow, ds, beh, pow⟩ 45 = none) := by show takeS _ _ = _; simp [takeS, isD]
        (go_enter Tryz.func176, Tryz.ntmps176; go_wp2_with fail; exact bodyPost_ret (v := .bool false) (by simp [results, Tryz.results176, go_sem]) rfl ⟨by rw [HS.out]; rfl, Fr.refl _ _, fun s' hs => by rw [HS.out] at hs; cases hs⟩)
      · have HS : Hid (takeS ⟨7, neg, npow, ds, beh, pow⟩ 45 = none) := by show takeS _ _ = _; simp [takeS, isD]
        (go_enter Tryz.func176, Tryz.ntmps176; go_wp2_with fail; exact bodyPost_ret (v := .bool false) (by simp [results, Tryz.results176, go_sem]) rfl ⟨by rw [HS.out]; rfl, Fr.refl _ _, fun s' hs => by rw [HS.out] at hs; cases hs⟩)
    by_cases h43 : c = 43
    · subst h43
      clear hd
      rcases hst0 with rfl | rfl | rfl | rfl | rfl | rfl | rfl | rfl
      · have HS : Hid (takeS ⟨0, neg, npow, ds, beh, pow⟩ 43 = none) := by show takeS _ _ = _; simp [takeS, isD]
        (go_enter Tryz.func176, Tryz.ntmps176; go_wp2_with fail; exact bodyPost_ret (v := .bool false) (by simp [results, Tryz.results176, go_sem]) rfl ⟨by rw [HS.out]; rfl, Fr.refl _ _, fun s' hs => by rw [HS.out] at hs; cases hs⟩)
      · have HS : Hid (takeS ⟨1, neg, npow, ds, beh, pow⟩ 43 = none) := by show takeS _ _ = _; simp [takeS, isD]
        (go_enter Tryz.func176, Tryz.ntmps176; go_wp2_with fail; exact bodyPost_ret (v := .bool false) (by simp [results, Tryz.results176, go_sem]) rfl ⟨by rw [HS.out]; rfl, Fr.refl _ _, fun s' hs => by rw [HS.out] at hs; cases hs⟩)
      · have HS : Hid (takeS ⟨2, neg, npow, ds, beh, pow⟩ 43 = none) := by show takeS _ _ = _; simp [takeS, isD]
        (go_enter Tryz.func176, Tryz.ntmps176; go_wp2_with fail; exact bodyPost_ret (v := .bool false) (by simp [results, Tryz.results176, go_sem]) rfl ⟨by rw [HS.out]; rfl, Fr.refl _ _, fun s' hs => by rw [HS.out] at hs; cases hs⟩)
      · have HS : Hid (takeS ⟨3, neg, npow, ds, beh, pow⟩ 43 = none) := by show takeS _ _ = _; simp [takeS, isD]
        (go_enter Tryz.func176, Tryz.ntmps176; go_wp2_with fail; exact bodyPost_ret (v := .bool false) (by simp [results, Tryz.results176, go_sem]) rfl ⟨by rw [HS.out]; rfl, Fr.refl _ _, fun s' hs => by rw [HS.out] at hs; cases hs⟩)
      · have HS : Hid (takeS ⟨4, neg, npow, ds, beh, pow⟩ 43 = none) := by show takeS _ _ = _; simp [takeS, isD]
        (go_enter Tryz.func176, Tryz.ntmps176; go_wp2_with fail; exact bodyPost_ret (v := .bool false) (by simp [results, Tryz.results176, go_sem]) rfl ⟨by rw [HS.out]; rfl, Fr.refl _ _, fun s' hs => by rw [HS.out] at hs; cases hs⟩)
      · have HS : Hid (takeS ⟨5, neg, npow, ds, beh, pow⟩ 43 = some ⟨6, neg, false, ds, beh, pow⟩) := by show takeS _ _ = _; simp [takeS, isD]
        (go_enter Tryz.func176, Tryz.ntmps176; go_wp2_with fail; exact bodyPost_ret (v := .bool true) (by simp [results, Tryz.results176, go_sem]) rfl ⟨by rw [HS.out]; rfl, (HR.out.fr _ _).trans ((HR.out.set2 false).fr _ _), fun s' hs => by rw [HS.out] at hs; cases hs; exact ⟨v, (HR.out.set2 false).set0 6⟩⟩)
      · have HS : Hid (takeS ⟨6, neg, npow, ds, beh, pow⟩ 43 = none) := by show takeS _ _ = _; simp [takeS, isD]
        (go_enter Tryz.func176, Tryz.ntmps176; go_wp2_with fail; exact bodyPost_ret (v := .bool false) (by simp [results, Tryz.results176, go_sem]) rfl ⟨by rw [HS.out]; rfl, Fr.refl _ _, fun s' hs => by rw [HS.out] at hs; cases hs⟩)
      · have HS : Hid (takeS ⟨7, neg, npow, ds, beh, pow⟩ 43 = none) := by show takeS _ _ = _; simp [takeS, isD]
        (go_enter Tryz.func176, Tryz.ntmps176; go_wp2_with fail; exact bodyPost_ret (v := .bool false) (by simp [results, Tryz.results176, go_sem]) rfl ⟨by rw [HS.out]; rfl, Fr.refl _ _, fun s' hs => by rw [HS.out] at hs; cases hs⟩)
    by_cases h46 : c = 46
    · subst h46
      clear hd
      rcases hst0 with rfl | rfl | rfl | rfl | rfl | rfl | rfl | rfl
      · have HS : Hid (takeS ⟨0, neg, npow, ds, beh, pow⟩ 46 = some ⟨3, neg, npow, ds, beh, pow⟩) := by show takeS _ _ = _; simp [takeS, isD]
        (go_enter Tryz.func176, Tryz.ntmps176; go_wp2_with fail; exact bodyPost_ret (v := .bool true) (by simp [results, Tryz.results176, go_sem]) rfl ⟨by rw [HS.out]; rfl, HR.out.fr _ _, fun s' hs => by rw [HS.out] at hs; cases hs; exact ⟨v, HR.out.set0 3⟩⟩)
      · have HS : Hid (takeS ⟨1, neg, npow, ds, beh, pow⟩ 46 = some ⟨3, neg, npow, ds, beh, pow⟩) := by show takeS _ _ = _; simp [takeS, isD]
        (go_enter Tryz.func176, Tryz.ntmps176; go_wp2_with fail; exact bodyPost_ret (v := .bool true) (by simp [results, Tryz.results176, go_sem]) rfl ⟨by rw [HS.out]; rfl, HR.out.fr _ _, fun s' hs => by rw [HS.out] at hs; cases hs; exact ⟨v, HR.out.set0 3⟩⟩)
      · have HS : Hid (takeS ⟨2, neg, npow, ds, beh, pow⟩ 46 = some ⟨3, neg, npow, ds, beh, pow⟩) := by show takeS _ _ = _; simp [takeS, isD]
        (go_enter Tryz.func176, Tryz.ntmps176; go_wp2_with fail; exact bodyPost_ret (v := .bool true) (by simp [results, Tryz.results176, go_sem]) rfl ⟨by rw [HS.out]; rfl, HR.out.fr _ _, fun s' hs => by rw [HS.out] at hs; cases hs; exact ⟨v, HR.out.set0 3⟩⟩)
      · have HS : Hid (takeS ⟨3, neg, npow, ds, beh, pow⟩ 46 = none) := by show takeS _ _ = _; simp [takeS, isD]
        (go_enter Tryz.func176, Tryz.ntmps176; go_wp2_with fail; exact bodyPost_ret (v := .bool false) (by simp [results, Tryz.results176, go_sem]) rfl ⟨by rw [HS.out]; rfl, Fr.refl _ _, fun s' hs => by rw [HS.out] at hs; cases hs⟩)
      · have HS : Hid (takeS ⟨4, neg, npow, ds, beh, pow⟩ 46 = none) := by show takeS _ _ = _; simp [takeS, isD]
        (go_enter Tryz.func176, Tryz.ntmps176; go_wp2_with fail; exact bodyPost_ret (v := .bool false) (by simp [results, Tryz.results176, go_sem]) rfl ⟨by rw [HS.out]; rfl, Fr.refl _ _, fun s' hs => by rw [HS.out] at hs; cases hs⟩)
      · have HS : Hid (takeS ⟨5, neg, npow, ds, beh, pow⟩ 46 = none) := by show takeS _ _ = _; simp [takeS, isD]
        (go_enter Tryz.func176, Tryz.ntmps176; go_wp2_with fail; exact bodyPost_ret (v := .bool false) (by simp [results, Tryz.results176, go_sem]) rfl ⟨by rw [HS.out]; rfl, Fr.refl _ _, fun s' hs => by rw [HS.out] at hs; cases hs⟩)
      · have HS : Hid (takeS ⟨6, neg, npow, ds, beh, pow⟩ 46 = none) := by show takeS _ _ = _; simp [takeS, isD]
        (go_enter Tryz.func176, Tryz.ntmps176; go_wp2_with fail; exact bodyPost_ret (v := .bool false) (by simp [results, Tryz.results176, go_sem]) rfl ⟨by rw [HS.out]; rfl, Fr.refl _ _, fun s' hs => by rw [HS.out] at hs; cases hs⟩)
      · have HS : Hid (takeS ⟨7, neg, npow, ds, beh, pow⟩ 46 = none) := by show takeS _ _ = _; simp [takeS, isD]
        (go_enter Tryz.func176, Tryz.ntmps176; go_wp2_with fail; exact bodyPost_ret (v := .bool false) (by simp [results, Tryz.results176, go_sem]) rfl ⟨by rw [HS.out]; rfl, Fr.refl _ _, fun s' hs => by rw [HS.out] at hs; cases hs⟩)
    by_cases h101 : c = 101
    · subst h101
      clear hd
      rcases hst0 with rfl | rfl | rfl | rfl | rfl | rfl | rfl | rfl
      · have HS : Hid (takeS ⟨0, neg, npow, ds, beh, pow⟩ 101 = none) := by show takeS _ _ = _; simp [takeS, isD]
        (go_enter Tryz.func176, Tryz.ntmps176; go_wp2_with fail; exact bodyPost_ret (v := .bool false) (by simp [results, Tryz.results176, go_sem]) rfl ⟨by rw [HS.out]; rfl, Fr.refl _ _, fun s' hs => by rw [HS.out] at hs; cases hs⟩)
      · have HS : Hid (takeS ⟨1, neg, npow, ds, beh, pow⟩ 101 = none) := by show takeS _ _ = _; simp [takeS, isD]
        (go_enter Tryz.func176, Tryz.ntmps176; go_wp2_with fail; exact bodyPost_ret (v := .bool false) (by simp [results, Tryz.results176, go_sem]) rfl ⟨by rw [HS.out]; rfl, Fr.refl _ _, fun s' hs => by rw [HS.out] at hs; cases hs⟩)
      · have HS : Hid (takeS ⟨2, neg, npow, ds, beh, pow⟩ 101 = some ⟨5, neg, npow, ds, beh, pow⟩) := by show takeS _ _ = _; simp [takeS, isD]
        (go_enter Tryz.func176, Tryz.ntmps176; go_wp2_with fail; exact bodyPost_ret (v := .bool true) (by simp [results, Tryz.results176, go_sem]) rfl ⟨by rw [HS.out]; rfl, HR.out.fr _ _, fun s' hs => by rw [HS.out] at hs; cases hs; exact ⟨v, HR.out.set0 5⟩⟩)
      · have HS : Hid (takeS ⟨3, neg, npow, ds, beh, pow⟩ 101 = none) := by show takeS _ _ = _; simp [takeS, isD]
        (go_enter Tryz.func176, Tryz.ntmps176; go_wp2_with fail; exact bodyPost_ret (v := .bool false) (by simp [results, Tryz.results176, go_sem]) rfl ⟨by rw [HS.out]; rfl, Fr.refl _ _, fun s' hs => by rw [HS.out] at hs; cases hs⟩)
      · have HS : Hid (takeS ⟨4, neg, npow, ds, beh, pow⟩ 101 = some ⟨5, neg, npow, ds, beh, pow⟩) := by show takeS _ _ = _; simp [takeS, isD]
        (go_enter Tryz.func176, Tryz.ntmps176; go_wp2_with fail; exact bodyPost_ret (v := .bool true) (by simp [results, Tryz.results176, go_sem]) rfl ⟨by rw [HS.out]; rfl, HR.out.fr _ _, fun s' hs => by rw [HS.out] at hs; cases hs; exact ⟨v, HR.out.set0 5⟩⟩)
      · have HS : Hid (takeS ⟨5, neg, npow, ds, beh, pow⟩ 101 = none) := by show takeS _ _ = _; simp [takeS, isD]
        (go_enter Tryz.func176, Tryz.ntmps176; go_wp2_with fail; exact bodyPost_ret (v := .bool false) (by simp [results, Tryz.results176, go_sem]) rfl ⟨by rw [HS.out]; rfl, Fr.refl _ _, fun s' hs => by rw [HS.out] at hs; cases hs⟩)
      · have HS : Hid (takeS ⟨6, neg, npow, ds, beh, pow⟩ 101 = none) := by show takeS _ _ = _; simp [takeS, isD]
        (go_enter Tryz.func176, Tryz.ntmps176; go_wp2_with fail; exact bodyPost_ret (v := .bool false) (by simp [results, Tryz.results176, go_sem]) rfl ⟨by rw [HS.out]; rfl, Fr.refl _ _, fun s' hs => by rw [HS.out] at hs; cases hs⟩)
      · have HS : Hid (takeS ⟨7, neg, npow, ds, beh, pow⟩ 101 = none) := by show takeS _ _ = _; simp [takeS, isD]
        (go_enter Tryz.func176, Tryz.ntmps176; go_wp2_with fail; exact bodyPost_ret (v := .bool false) (by simp [results, Tryz.results176, go_sem]) rfl ⟨by rw [HS.out]; rfl, Fr.refl _ _, fun s' hs => by rw [HS.out] at hs; cases hs⟩)
    by_cases h69 : c = 69
    · subst h69
      clear hd
      rcases hst0 with rfl | rfl | rfl | rfl | rfl | rfl | rfl | rfl
      · have HS : Hid (takeS ⟨0, neg, npow, ds, beh, pow⟩ 69 = none) := by show takeS _ _ = _; simp [takeS, isD]
        (go_enter Tryz.func176, Tryz.ntmps176; go_wp2_with fail; exact bodyPost_ret (v := .bool false) (by simp [results, Tryz.results176, go_sem]) rfl ⟨by rw [HS.out]; rfl, Fr.refl _ _, fun s' hs => by rw [HS.out] at hs; cases hs⟩)
      · have HS : Hid (takeS ⟨1, neg, npow, ds, beh, pow⟩ 69 = none) := by show takeS _ _ = _; simp [takeS, isD]
        (go_enter Tryz.func176, Tryz.ntmps176; go_wp2_with fail; exact bodyPost_ret (v := .bool false) (by simp [results, Tryz.results176, go_sem]) rfl ⟨by rw [HS.out]; rfl, Fr.refl _ _, fun s' hs => by rw [HS.out] at hs; cases hs⟩)
      · have HS : Hid (takeS ⟨2, neg, npow, ds, beh, pow⟩ 69 = some ⟨5, neg, npow, ds, beh, pow⟩) := by show takeS _ _ = _; simp [takeS, isD]
        (go_enter Tryz.func176, Tryz.ntmps176; go_wp2_with fail; exact bodyPost_ret (v := .bool true) (by simp [results, Tryz.results176, go_sem]) rfl ⟨by rw [HS.out]; rfl, HR.out.fr _ _, fun s' hs => by rw [HS.out] at hs; cases hs; exact ⟨v, HR.out.set0 5⟩⟩)
      · have HS : Hid (takeS ⟨3, neg, npow, ds, beh, pow⟩ 69 = none) := by show takeS _ _ = _; simp [takeS, isD]
        (go_enter Tryz.func176, Tryz.ntmps176; go_wp2_with fail; exact bodyPost_ret (v := .bool false) (by simp [results, Tryz.results176, go_sem]) rfl ⟨by rw [HS.out]; rfl, Fr.refl _ _, fun s' hs => by rw [HS.out] at hs; cases hs⟩)
      · have HS : Hid (takeS ⟨4, neg, npow, ds, beh, pow⟩ 69 = some ⟨5, neg, npow, ds, beh, pow⟩) := by show takeS _ _ = _; simp [takeS, isD]
        (go_enter Tryz.func176, Tryz.ntmps176; go_wp2_with fail; exact bodyPost_ret (v := .bool true) (by simp [results, Tryz.results176, go_sem]) rfl ⟨by rw [HS.out]; rfl, HR.out.fr _ _, fun s' hs => by rw [HS.out] at hs; cases hs; exact ⟨v, HR.out.set0 5⟩⟩)
      · have HS : Hid (takeS ⟨5, neg, npow, ds, beh, pow⟩ 69 = none) := by show takeS _ _ = _; simp [takeS, isD]
        (go_enter Tryz.func176, Tryz.ntmps176; go_wp2_with fail; exact bodyPost_ret (v := .bool false) (by simp [results, Tryz.results176, go_sem]) rfl ⟨by rw [HS.out]; rfl, Fr.refl _ _, fun s' hs => by rw [HS.out] at hs; cases hs⟩)
      · have HS : Hid (takeS ⟨6, neg, npow, ds, beh, pow⟩ 69 = none) := by show takeS _ _ = _; simp [takeS, isD]
        (go_enter Tryz.func176, Tryz.ntmps176; go_wp2_with fail; exact bodyPost_ret (v := .bool false) (by simp [results, Tryz.results176, go_sem]) rfl ⟨by rw [HS.out]; rfl, Fr.refl _ _, fun s' hs => by rw [HS.out] at hs; cases hs⟩)
      · have HS : Hid (takeS ⟨7, neg, npow, ds, beh, pow⟩ 69 = none) := by show takeS _ _ = _; simp [takeS, isD]
        (go_enter Tryz.func176, Tryz.ntmps176; go_wp2_with fail; exact bodyPost_ret (v := .bool false) (by simp [results, Tryz.results176, go_sem]) rfl ⟨by rw [HS.out]; rfl, Fr.refl _ _, fun s' hs => by rw [HS.out] at hs; cases hs⟩)
    have HS : Hid (takeS ⟨st, neg, npow, ds, beh, pow⟩ c = none) := by
      show takeS _ _ = _
      unfold takeS isD
      rw [if_neg (by rw [decide_eq_true_eq]; exact hd), if_neg (by omega), if_neg (by omega), if_neg (by omega), if_neg (by omega)]
    have e1 : ((c : Int) == 45) = false := by simp; omega
    have e2 : ((c : Int) == 46) = false := by simp; omega
    have e3 : ((c : Int) == 101) = false := by simp; omega
    have e4 : ((c : Int) == 69) = false := by simp; omega
    have e5 : ((c : Int) == 43) = false := by simp; omega
    by_cases h48 : 48 ≤ c
    · have g1 : decide (48 ≤ (c : Int)) = true := decide_eq_true (by omega)
      have g2 : decide ((c : Int) ≤ 57) = false := decide_eq_false (by omega)
      clear hd h45 h43 h46 h101 h69 h48 hst0
      (go_enter Tryz.func176, Tryz.ntmps176; go_wp2_with fail; exact bodyPost_ret (v := .bool false) (by simp [results, Tryz.results176, go_sem]) rfl ⟨by rw [HS.out]; rfl, Fr.refl _ _, fun s' hs => by rw [HS.out] at hs; cases hs⟩)
    · have g1 : decide (48 ≤ (c : Int)) = false := decide_eq_false (by omega)
      clear hd h45 h43 h46 h101 h69 h48 hst0
      (go_enter Tryz.func176, Tryz.ntmps176; go_wp2_with fail; exact bodyPost_ret (v := .bool false) (by simp [results, Tryz.results176, go_sem]) rfl ⟨by rw [HS.out]; rfl, Fr.refl _ _, fun s' hs => by rw [HS.out] at hs; cases hs⟩)
end Go.Proofs.YtmjmijjbijlhfaaGreatDoor
namespace Go.Proofs.YtmjmijjbijlhfaaGreatDoor
open Go.RowKit NM
/-- What holds of a reader wherever it stands. -/
structure SB (n : Nat) (s : St) : Prop where
  st : s.st ≤ 7
  len : s.ds.length ≤ n
  beh : s.beh ≤ n
  pow : s.pow ≤ 1000000
  all : AllD s.ds
theorem SB.step {n : Nat} {s s' : St} {c : Nat} (h : SB n s) (ht : takeS s c = some s') : SB (n + 1) s' := by
  obtain ⟨h1, h2, h3, h4, h5⟩ := h
  unfold takeS at ht
  split at ht
  · rename_i hc
    unfold isD at hc
    have hc := of_decide_eq_true hc
    cases ht
    have h6 : AllD (s.ds ++ [c - 48]) := h5.append (AllD.cons (by omega) AllD.nil)
    unfold digS
    split
    · exact ⟨by simp, by simp; omega, by show s.beh ≤ _; omega, h4, h6⟩
    · split
      · exact ⟨by simp, by simp; omega, by show s.beh + 1 ≤ _; omega, h4, h6⟩
      · refine ⟨by simp, by show s.ds.length ≤ _; omega, by show s.beh ≤ _; omega, ?_, h5⟩
        show (if s.pow < 100000 then s.pow * 10 + (c - 48) else s.pow) ≤ 1000000
        split <;> omega
  all_goals (repeat' (split at ht)) <;> cases ht <;> exact ⟨by simp, by show s.ds.length ≤ _; omega, by show s.beh ≤ _; omega, h4, h5⟩
theorem take_high {s : St} {c : Nat} (h : 128 ≤ c) : takeS s c = none := by
  unfold takeS isD
  rw [if_neg (by rw [decide_eq_true_eq]; omega), if_neg (by omega), if_neg (by omega), if_neg (by omega), if_neg (by omega)]
/-- A text's bytes. -/
def bl (s : ByteArray) : List Nat := s.data.toList.map (·.toNat)
theorem bl_length (s : ByteArray) : (bl s).length = s.size := by unfold bl; rw [List.length_map]; rfl
theorem bl_at (s : ByteArray) (pos : Nat) (h : pos < s.size) : (bl s)[pos]? = some (s[pos]'h).toNat := by
  unfold bl
  rw [List.getElem?_map, List.getElem?_eq_getElem (by exact h)]
  rfl
structure PI (X : World) (s : ByteArray) (q k pos : Nat) (S : St) (v : Value) (wr : World) : Prop where
  run : runS ((bl s).take pos) st0 = some S
  rd : RD X.heap.size q S.st S.neg S.npow S.ds S.beh S.pow v wr
  it : wr.heap[k]? = some (Obj.stringIter s pos)
  ext : Ext X wr
  bd : SB pos S
  kb : X.heap.size ≤ k
theorem PI.next {X wr : World} {s : ByteArray} {q k pos : Nat} {S : St} {v : Value} (h : PI X s q k pos S v wr) (p' : Nat) : RD X.heap.size q S.st S.neg S.npow S.ds S.beh S.pow v (wr.iterAt k s p') ∧ (wr.iterAt k s p').heap[k]? = some (Obj.stringIter s p') ∧ Ext X (wr.iterAt k s p') := by
  have hne : ∀ b cs t, wr.heap[b]? = some (Obj.cells cs t (0, 0)) → b ≠ k := fun b cs t hb he => by subst he; rw [h.it] at hb; cases hb
  refine ⟨⟨?_, own_keep h.rd.own fun g cur hg => Lib.iterAt_other _ _ _ _ _ (hne g cur _ hg), h.rd.qb⟩, Lib.iterAt_heap wr k s pos p' h.it, ?_⟩
  · rw [Lib.iterAt_other _ _ _ _ _ (hne q _ _ h.rd.row)]; exact h.rd.row
  · refine ⟨h.ext.os, h.ext.tape, h.ext.output, by rw [Lib.iterAt_size]; exact h.ext.size, fun b hb => ?_⟩
    rw [Lib.iterAt_other _ _ _ _ _ (by have := h.kb; omega), h.ext.block hb]
theorem PI.step {X wr w' : World} {s : ByteArray} {q k pos c : Nat} {S S' : St} {v v' : Value} (h : PI X s q k pos S v wr) (hc : (bl s)[pos]? = some c) (ht : takeS S c = some S') (hf : Fr X.heap.size (wr.iterAt k s (pos + 1)) w') (hr : RD X.heap.size q S'.st S'.neg S'.npow S'.ds S'.beh S'.pow v' w') : PI X s q k (pos + 1) S' v' w' := by
  obtain ⟨_, h2, h3⟩ := h.next (pos + 1)
  refine ⟨?_, hr, hf.it _ _ _ h2, Below.trans h3 hf.low, h.bd.step ht, h.kb⟩
  rw [take_at hc, runS_append, h.run, Option.bind_some]
  show (takeS S c).bind (runS []) = _
  rw [ht]; rfl
theorem parM_none {s : ByteArray} {pos c : Nat} {S : St} (h : runS ((bl s).take pos) st0 = some S) (hc : (bl s)[pos]? = some c) (ht : takeS S c = none) : parM (bl s) = none := by
  unfold parM
  have hl := lt_at hc
  have h1 : bl s = (bl s).take pos ++ (c :: (bl s).drop (pos + 1)) := by
    rw [← drop_at hc, List.take_append_drop]
  rw [h1, runS_append, h, Option.bind_some]
  show ((takeS S c).bind _).bind endS = none
  rw [ht]; rfl
def parS (s : ByteArray) : Option (Int × Int) := if 255 < s.size then none else parM (bl s)
set_option maxHeartbeats 1000000 in
theorem parse_any (s : ByteArray) (w : World) (hs : s.size ≤ 1000) :
    Calls Tryz.prog 147 #[.string s] w fun r w' => r = .returned (rnV (parS s)) ∧ Ext w w' := by
  unfold parS
  by_cases hlen : 255 < s.size
  · rw [if_pos hlen]
    go_enter Tryz.func147, Tryz.ntmps147
    go_wp2_with fail
    exact bodyPost_ret (v := .tuple #[NV 0 0, .bool false]) (by simp [results, Tryz.results147, go_sem]) rfl ⟨rfl, by with_reducible repeat (first | exact Ext.refl _ | apply Ext.drew | apply Ext.alloc | apply Ext.more_)⟩
  · rw [if_neg hlen]
    generalize hR : parM (bl s) = R
    have HR := Lib.hid hR
    clear hR
    have HX : Hid (∀ W : World, W = ((w.alloc (.cells #[.int .i64 0, .int .i64 0] 41)).alloc (.cells #[.int .i64 0, .bool false, .bool false, .slice none 0 0, .int .i64 0, .int .i64 0] 163)).iter s 0 → PI (w.alloc (.cells #[.int .i64 0, .int .i64 0] 41)) s (w.heap.size + 1) (w.heap.size + 1 + 1) 0 st0 (.slice none 0 0) W) := by
      intro W hW
      have hx : Ext (w.alloc (.cells #[.int .i64 0, .int .i64 0] 41)) W := by rw [hW]; exact (((Ext.refl _).alloc _).alloc _)
      have hz : (w.alloc (.cells #[.int .i64 0, .int .i64 0] 41)).heap.size = w.heap.size + 1 := by simp
      refine ⟨rfl, ⟨?_, World.ownsRow_nil _ _ _ _, by omega⟩, ?_, hx, ⟨by decide, Nat.le_refl _, Nat.le_refl _, by decide, AllD.nil⟩, by omega⟩
      · rw [hW]
        have h1 : ((w.alloc (.cells #[.int .i64 0, .int .i64 0] 41)).alloc (.cells #[.int .i64 0, .bool false, .bool false, .slice none 0 0, .int .i64 0, .int .i64 0] 163)).heap[w.heap.size + 1]? = some (.cells #[.int .i64 0, .bool false, .bool false, .slice none 0 0, .int .i64 0, .int .i64 0] 163) := by rw [← hz]; exact Array.getElem?_push_size
        exact (RowKit.Below.heap_alloc _ _ _ (lt_block h1)).trans h1
      · rw [hW]
        have := World.iter_heap ((w.alloc (.cells #[.int .i64 0, .int .i64 0] 41)).alloc (.cells #[.int .i64 0, .bool false, .bool false, .slice none 0 0, .int .i64 0, .int .i64 0] 163)) s 0
        simpa using this
    go_enter Tryz.func147, Tryz.ntmps147
    go_upto_block 0 with fail
    refine wp_world fun W hW => ?_
    have hPI := HX.out W hW
    have hX0 : PV (w.alloc (.cells #[.int .i64 0, .int .i64 0] 41)) w.heap.size 0 0 := PV.new 0 0 rfl
    have hXw : Ext w (w.alloc (.cells #[.int .i64 0, .int .i64 0] 41)) := (Ext.refl w).alloc _
    have hXs : (w.alloc (.cells #[.int .i64 0, .int .i64 0] 41)).heap.size = w.heap.size + 1 := by simp
    clear hW HX
    generalize w.alloc (.cells #[.int .i64 0, .int .i64 0] 41) = X at *
    have hq : w.heap.size + 1 < w.heap.size + 1 + 1 := by omega
    have hq0 : w.heap.size < w.heap.size + 1 := by omega
    generalize w.heap.size + 1 + 1 = k at *
    have HS0 := Lib.hid hXs
    clear hXs
    generalize w.heap.size + 1 = q at *
    have HP : Hid (PI X s q k 0 st0 (.slice none 0 0) W) := hPI
    clear hPI
    go_wp2_with fail
    go_loopw [6] (fun _ wr => ∃ pos S v, pos ≤ s.size ∧ Hid (PI X s q k pos S v wr)) (fun _ wr => s.size - wr.iterPos k)
    case atStart => exact ⟨0, st0, _, Nat.zero_le _, HP⟩
    case round =>
      obtain ⟨pos, S, v, hpos, H⟩ := hrel
      by_cases hp : pos < s.size
      · have hb := bl_at s pos hp
        have hnx : ∀ ty, (Instr.next (.pointer (some ⟨k, 0, none⟩)) true ty).run Tryz.prog wr = _ := fun ty => Lib.run_next_any_at wr k s pos ty H.out.it hp
        have hbd := H.out.bd
        have heta : (⟨S.st, S.neg, S.npow, S.ds, S.beh, S.pow⟩ : St) = S := rfl
        by_cases ha : (s[pos]'hp).toNat < 128
        · rw [decode_ascii s pos hp ha] at hnx
          generalize (s[pos]'hp).toNat = c at *
          simp only at hnx
          obtain ⟨r1, r2, r3⟩ := H.out.next (pos + 1)
          have htk := take_any X.heap.size q S.st S.neg S.npow S.ds S.beh S.pow c v (wr.iterAt k s (pos + 1)) r1 r3.size hbd.st (by have := hbd.len; omega) (by have := hbd.beh; omega) hbd.pow
          rw [heta] at htk
          have HC := Lib.hid hb
          have HE := Lib.hid r3
          clear hb r1 r2 r3 ha hbd heta
          cases hT : takeS S c with
          | some S' =>
            have HT := Lib.hid hT
            rw [hT] at htk
            clear hT
            go_wp2_with (go_at_call 176; (with_reducible refine htk.mono ?_); rintro e w' ⟨rfl, hfr, hrd⟩)
            obtain ⟨v', hr'⟩ := hrd S' rfl
            have h2 := H.out.step HC.out HT.out hfr hr'
            refine ⟨⟨pos + 1, S', v', by omega, h2⟩, ?_⟩
            simp only [World.iterPos, h2.it, H.out.it]
            omega
          | none =>
            have HT := Lib.hid hT
            rw [hT] at htk
            clear hT
            have hRn : R = none := by rw [← HR.out]; exact parM_none H.out.run HC.out HT.out
            subst hRn
            go_wp2_with (go_at_call 176; (with_reducible refine htk.mono ?_); rintro e w' ⟨rfl, hfr, hrd⟩; have hex : Ext X w' := Below.trans HE.out hfr.low; have hpv := hX0.ext hex; have a0 := hpv.c0; have a1 := hpv.c1; have a2 := hpv.fz 0; have a3 := hpv.fz 1; have a4 := hpv.lt; have z0 := (hpv.set 0 0).c0; have z1 := (hpv.set 0 0).c1)
            exact bodyPost_ret (v := .tuple #[NV 0 0, .bool false]) (by simp [results, Tryz.results147, go_sem, z0, z1]) rfl ⟨rfl, ((hXw.trans hex).set _ (Nat.le_refl _)).set _ (Nat.le_refl _)⟩
        · obtain ⟨d1, d2⟩ := decode_high s pos hp (by omega)
          have hRn : R = none := by rw [← HR.out]; exact parM_none H.out.run hb (take_high (by omega))
          subst hRn
          generalize (Utf8.decode s pos).1 = c at *
          generalize (Utf8.decode s pos).2 = b at *
          obtain ⟨r1, r2, r3⟩ := H.out.next (pos + b)
          have htk := take_any X.heap.size q S.st S.neg S.npow S.ds S.beh S.pow c v (wr.iterAt k s (pos + b)) r1 r3.size hbd.st (by have := hbd.len; omega) (by have := hbd.beh; omega) hbd.pow
          rw [heta, take_high d1] at htk
          have HE := Lib.hid r3
          clear hb r1 r2 r3 ha hbd heta
          go_wp2_with (go_at_call 176; (with_reducible refine htk.mono ?_); rintro e w' ⟨rfl, hfr, hrd⟩; have hex : Ext X w' := Below.trans HE.out hfr.low; have hpv := hX0.ext hex; have a0 := hpv.c0; have a1 := hpv.c1; have a2 := hpv.fz 0; have a3 := hpv.fz 1; have a4 := hpv.lt; have z0 := (hpv.set 0 0).c0; have z1 := (hpv.set 0 0).c1)
          exact bodyPost_ret (v := .tuple #[NV 0 0, .bool false]) (by simp [results, Tryz.results147, go_sem, z0, z1]) rfl ⟨rfl, ((hXw.trans hex).set _ (Nat.le_refl _)).set _ (Nat.le_refl _)⟩
      · have hnx : ∀ ty, (Instr.next (.pointer (some ⟨k, 0, none⟩)) true ty).run Tryz.prog wr = _ := fun ty => Lib.run_next_end_at wr k s pos ty H.out.it hp
        have hpe : pos = s.size := by omega
        have hrun := H.out.run
        have hR := HR.out
        rw [hpe, ← bl_length, List.take_length] at hrun
        unfold parM at hR
        rw [hrun, Option.bind_some] at hR
        have hrd := H.out.rd
        have hbd := H.out.bd
        have hex := H.out.ext
        have HE := Lib.hid hR
        clear hrun hR HR hpe
        obtain ⟨st, neg, npow, ds, beh, pow⟩ := S
        simp only at hrd
        obtain ⟨c0, c1, c2, c3, c4, c5⟩ := hrd.at
        have f5 := hrd.fz 5
        have lq := hrd.lt
        have hpv := hX0.ext hex
        have a0 := hpv.c0
        have a1 := hpv.c1
        have a2 := hpv.fz 0
        have a3 := hpv.fz 1
        have a4 := hpv.lt
        have z0 := (hpv.set 0 0).c0
        have z1 := (hpv.set 0 0).c1
        have HRD := Lib.hid hrd
        have HBD := Lib.hid hbd
        clear hrd hbd
        by_cases hok : st = 2 ∨ st = 4 ∨ st = 7
        · have hRn : rnd neg (val ds) false ((if npow then -(pow : Int) else pow) - beh) = R := by rw [← HE.out]; unfold endS; exact (if_pos hok).symm
          have hpw := HBD.out.pow
          have hbh := HBD.out.beh
          have hln := HBD.out.len
          simp only at hpw hbh hln
          have hqX := HRD.out.qb
          cases npow with
          | true =>
            rw [if_pos rfl] at hRn
            have hro := round_own X neg v ds (-(pow : Int) - beh) (wr.setCell ⟨q, 5, none⟩ (.int .i64 (-(pow : Int)))) ds.length (hex.set _ hqX) (HRD.out.keep 5 _) HBD.out.all (by omega) (by omega)
            rw [hRn] at hro
            have w1 : IntKind.i64.wrap (-(pow : Int)) = -pow := i64w (by omega) (by omega)
            have w2 : IntKind.i64.wrap (-(pow : Int) - beh) = -pow - beh := i64w (by omega) (by omega)
            have x0 := hX0.c0
            have x1 := hX0.c1
            have x2 := hX0.fz 0
            have x3 := hX0.fz 1
            have x4 := hX0.lt
            have z0 := (hX0.set (rm R) (re R)).c0
            have z1 := (hX0.set (rm R) (re R)).c1
            clear hpw hbh hln hRn
            rcases hok with rfl | rfl | rfl
            all_goals
              go_wp2_with (go_at_call 138; (with_reducible refine hro.mono ?_); rintro e w' ⟨rfl, os, d, rfl⟩)
              exact bodyPost_ret (v := rnV R) (by simp [results, Tryz.results147, go_sem, z0, z1, x4]) rfl ⟨rfl, ((hXw.set _ (Nat.le_refl _)).set _ (Nat.le_refl _)).more_ _ _⟩
          | false =>
            rw [if_neg (by simp)] at hRn
            have hro := round_own X neg v ds ((pow : Int) - beh) wr ds.length hex HRD.out.own HBD.out.all (by omega) (by omega)
            rw [hRn] at hro
            have w2 : IntKind.i64.wrap ((pow : Int) - beh) = pow - beh := i64w (by omega) (by omega)
            have x0 := hX0.c0
            have x1 := hX0.c1
            have x2 := hX0.fz 0
            have x3 := hX0.fz 1
            have x4 := hX0.lt
            have z0 := (hX0.set (rm R) (re R)).c0
            have z1 := (hX0.set (rm R) (re R)).c1
            clear hpw hbh hln hRn
            rcases hok with rfl | rfl | rfl
            all_goals
              go_wp2_with (go_at_call 138; (with_reducible refine hro.mono ?_); rintro e w' ⟨rfl, os, d, rfl⟩)
              exact bodyPost_ret (v := rnV R) (by simp [results, Tryz.results147, go_sem, z0, z1, x4]) rfl ⟨rfl, ((hXw.set _ (Nat.le_refl _)).set _ (Nat.le_refl _)).more_ _ _⟩
        · have hRn : R = none := by rw [← HE.out]; unfold endS; exact if_neg hok
          subst hRn
          have e1 : ((st : Int) != 2) = true := by simp; omega
          have e2 : ((st : Int) != 4) = true := by simp; omega
          have e3 : ((st : Int) != 7) = true := by simp; omega
          go_wp2_with fail
          exact bodyPost_ret (v := .tuple #[NV 0 0, .bool false]) (by simp [results, Tryz.results147, go_sem, z0, z1]) rfl ⟨rfl, ((hXw.trans hex).set _ (Nat.le_refl _)).set _ (Nat.le_refl _)⟩
end Go.Proofs.YtmjmijjbijlhfaaGreatDoor
namespace Go.Proofs.YtmjmijjbijlhfaaGreatDoor
open Go.RowKit NM
/-- n, k times multiplied by ten, as long as it is an int. -/
def intGo (n : Int) : Nat → Option Int
  | 0 => some n
  | k + 1 => if 922337203685477580 < n.natAbs then none else intGo (n * 10) k
def intS (m e : Int) : Option Int := if ¬ Rt m e ∨ e < 0 then none else intGo m e.toNat
abbrev inV (r : Option Int) : Value := .tuple #[.int .i64 (r.getD 0), .bool r.isSome]
theorem mul64_ten (x : Nat) (hx : x < 18446744073709551616) (w : World) :
    Calls Tryz.prog 172 #[.int .u64 (x : Int), .int .u64 10] w fun e w' => e = .returned (.tuple #[.int .u64 ((x * 10 / 18446744073709551616 : Nat) : Int), .int .u64 ((x * 10 % 18446744073709551616 : Nat) : Int)]) ∧ w = w' :=
  (Tryz.bits_Mul64 x 10 hx (by omega) w).mono fun e w' ⟨h1, h2⟩ => ⟨h1, h2.symm⟩
set_option maxHeartbeats 2000000 in
theorem int_any (m ex : Int) (w : World) (hm : I64 m) :
    Calls Tryz.prog 141 #[NV m ex] w fun e w' => e = .returned (inV (intS m ex)) ∧ Ext w w' := by
  by_cases h : Rt m ex
  · have r1 := rtB_yes h
    obtain ⟨b1, b2, b3⟩ := Rt_bd h
    by_cases h1 : ex < 0
    · have hs : intS m ex = none := by unfold intS; rw [if_pos (Or.inr h1)]
      rw [hs]
      clear h hs
      go_enter Tryz.func141, Tryz.ntmps141
      go_wp2_with (go_at_call 122; (with_reducible refine (right_rt _ _ _ (by assumption)).mono ?_); rintro e w' ⟨rfl, hbr⟩; obtain ⟨osr, dr, rfl⟩ := hbr.more)
      go_ret2
      exact ⟨rfl, by repeat (first | exact Ext.refl _ | apply Ext.drew | apply Ext.alloc | apply Ext.more_)⟩
    · obtain ⟨n, rfl⟩ : ∃ n : Nat, ex = n := ⟨ex.toNat, by omega⟩
      have hs : intS m (n : Int) = intGo m n := by unfold intS; rw [if_neg (by rintro (h3 | h3); exact h3 h; omega)]; rfl
      generalize hR : intS m (n : Int) = R at *
      have HR := Lib.hid hs
      clear hs hR h
      go_enter Tryz.func141, Tryz.ntmps141
      go_wp2_with (go_at_call 122; (with_reducible refine (right_rt _ _ _ (by assumption)).mono ?_); rintro e w' ⟨rfl, hbr⟩; obtain ⟨osr, dr, rfl⟩ := hbr.more)
      go_loop [4, 19] (fun a i => ∃ (j : Nat) (x : Int), j ≤ n ∧ i = .int .i64 (j : Int) ∧ a = .int .i64 x ∧ Hid (I64 x) ∧ Hid (R = intGo x (n - j))) (fun _ i => n - (intOf i).toNat)
      case atStart => exact ⟨0, m, Nat.zero_le _, rfl, rfl, hm, HR⟩
      case round =>
        obtain ⟨j, x, hj, rfl, rfl, HX, HG⟩ := hrel
        by_cases hlt : j < n
        · have hx64 : x.natAbs < 18446744073709551616 := by obtain ⟨h1, h2⟩ := HX.out; omega
          have hml := mul64_ten x.natAbs hx64
          have hsz := fun W => size_nat x W HX.out
          have HG1 : Hid (R = if 922337203685477580 < x.natAbs then none else intGo (x * 10) (n - (j + 1))) := by
            show _ = _
            rw [HG.out, show n - j = n - (j + 1) + 1 by omega]; rfl
          by_cases hbig : 922337203685477580 < x.natAbs
          · have hRn : R = none := by rw [HG1.out, if_pos hbig]
            have hor : x.natAbs * 10 / 18446744073709551616 ≠ 0 ∨ 9223372036854775807 < x.natAbs * 10 % 18446744073709551616 := by omega
            generalize x.natAbs * 10 / 18446744073709551616 = hi at *
            generalize x.natAbs * 10 % 18446744073709551616 = lo at *
            generalize x.natAbs = xa at *
            subst hRn
            clear hx64 hbig
            by_cases hh : hi = 0
            · have e1 : ((hi : Int) != 0) = false := by simp [hh]
              have e1b : (hi != 0) = false := by simp [hh]
              have e2 : decide ((9223372036854775807 : Int) < (lo : Int)) = true := by simp; omega
              have e3 : decide (9223372036854775807 < lo) = true := by simp; omega
              clear hor hh
              go_wp2_with (first | (go_at_call 140; (with_reducible refine (hsz _).mono ?_); rintro e w' ⟨rfl, rfl⟩) | (go_at_call 172; (with_reducible refine (hml _).mono ?_); rintro e w' ⟨rfl, rfl⟩))
              go_ret2
              exact ⟨rfl, by repeat (first | exact Ext.refl _ | apply Ext.drew | apply Ext.alloc | apply Ext.more_)⟩
            · have e1 : ((hi : Int) != 0) = true := by simp [hh]
              have e1b : (hi != 0) = true := by simp [hh]
              clear hor hh
              go_wp2_with (first | (go_at_call 140; (with_reducible refine (hsz _).mono ?_); rintro e w' ⟨rfl, rfl⟩) | (go_at_call 172; (with_reducible refine (hml _).mono ?_); rintro e w' ⟨rfl, rfl⟩))
              go_ret2
              exact ⟨rfl, by repeat (first | exact Ext.refl _ | apply Ext.drew | apply Ext.alloc | apply Ext.more_)⟩
          · have HRn : Hid (R = intGo (x * 10) (n - (j + 1))) := by show _ = _; rw [HG1.out, if_neg hbig]
            have h10 : Hid (I64 (x * 10)) := by show I64 _; unfold I64; omega
            have hhi : x.natAbs * 10 / 18446744073709551616 = 0 := by omega
            have hlo : ¬ 9223372036854775807 < x.natAbs * 10 % 18446744073709551616 := by omega
            have w1 : IntKind.i64.wrap (x * 10) = x * 10 := i64w h10.out.1 h10.out.2
            have w2 : wrap64 (x * 10) = x * 10 := IntWalk.wrap64_in _ h10.out
            rw [hhi] at hml
            generalize x.natAbs * 10 % 18446744073709551616 = lo at *
            generalize x.natAbs = xa at *
            clear hx64 hbig hhi HG1
            have e2 : decide ((9223372036854775807 : Int) < (lo : Int)) = false := by simp; omega
            have e3 : decide (9223372036854775807 < lo) = false := by simp; omega
            clear hlo
            simp only [show ((0 : Nat) : Int) = 0 from rfl] at hml
            go_wp2_with (first | (go_at_call 140; (with_reducible refine (hsz _).mono ?_); rintro e w' ⟨rfl, rfl⟩) | (go_at_call 172; (with_reducible refine (hml _).mono ?_); rintro e w' ⟨rfl, rfl⟩))
            exact ⟨⟨j + 1, x * 10, by omega, by go_num, rfl, h10, HRn⟩, by simp [intOf]; omega⟩
        · have hRn : R = some x := by rw [HG.out, show n - j = 0 by omega]; rfl
          subst hRn
          go_wp2_with fail
          go_ret2
          exact ⟨rfl, by repeat (first | exact Ext.refl _ | apply Ext.drew | apply Ext.alloc | apply Ext.more_)⟩
  · have r1 := rtB_no h
    have hs : intS m ex = none := by unfold intS; rw [if_pos (Or.inl h)]
    rw [hs]
    clear h hs
    go_enter Tryz.func141, Tryz.ntmps141
    go_wp2_with (go_at_call 122; (with_reducible refine (right_rt _ _ _ (by assumption)).mono ?_); rintro e w' ⟨rfl, hbr⟩; obtain ⟨osr, dr, rfl⟩ := hbr.more)
    go_ret2
    exact ⟨rfl, by repeat (first | exact Ext.refl _ | apply Ext.drew | apply Ext.alloc | apply Ext.more_)⟩
end Go.Proofs.YtmjmijjbijlhfaaGreatDoor
namespace Go.Proofs.YtmjmijjbijlhfaaGreatDoor
open Go.RowKit
theorem eql_val (k1 m1 e1 f1 k2 m2 e2 f2 : Int) (t1 t2 : ByteArray) (b1 b2 : Bool) (w : World) : (binOp .eql 43 (VV k1 m1 e1 t1 b1 f1) (VV k2 m2 e2 t2 b2 f2)).run Tryz.prog w = .ok (.bool (eqV ⟨k1, m1, e1, t1, b1, f1⟩ ⟨k2, m2, e2, t2, b2, f2⟩)) w := by
  have ht : (t1.toList = t2.toList) ↔ t1 = t2 := ⟨fun h => by
    cases t1; cases t2
    rename_i a b
    have : a.toList = b.toList := by simpa [ByteArray.toList_eq] using h
    simpa using this, fun h => by rw [h]⟩
  simp only [VV, eqV]
  simp [go_sem, ht]
  by_cases h1 : k1 = k2 <;> simp [h1]
  by_cases h2 : m1 = m2 <;> simp [h2]
  by_cases h3 : e1 = e2 <;> simp [h3]
  by_cases h4 : t1 = t2 <;> simp [h4]
  by_cases h5 : b1 = b2 <;> simp [h5]
  by_cases h6 : f1 = f2 <;> simp [h6]
set_option maxHeartbeats 400000 in
theorem bad_any (f : Int) (w : World) :
    Calls Tryz.prog 70 #[.int .i64 f] w fun e w' => e = .returned (VV 4 0 0 ⟨#[]⟩ false (badF f)) ∧ Ext w w' := by
  by_cases h : f < 1 ∨ 9 < f
  · have hb : badF f = 9 := by simp [badF, h]
    rw [hb]
    rcases h with h | h
    · go_enter Tryz.func70, Tryz.ntmps70
      go_wp2
      exact bodyPost_ret (v := VV 4 0 0 ⟨#[]⟩ false 9) (by simp [results, Tryz.results70, go_sem]) rfl ⟨rfl, by repeat (first | exact Ext.refl _ | apply Ext.drew | apply Ext.alloc | apply Ext.more_)⟩
    · have h1 : ¬ f < 1 := by omega
      go_enter Tryz.func70, Tryz.ntmps70
      go_wp2
      exact bodyPost_ret (v := VV 4 0 0 ⟨#[]⟩ false 9) (by simp [results, Tryz.results70, go_sem]) rfl ⟨rfl, by repeat (first | exact Ext.refl _ | apply Ext.drew | apply Ext.alloc | apply Ext.more_)⟩
  · have hb : badF f = f := by simp [badF, h]
    rw [hb]
    have h1 : ¬ f < 1 := by omega
    have h2 : ¬ 9 < f := by omega
    go_enter Tryz.func70, Tryz.ntmps70
    go_wp2
    exact bodyPost_ret (v := VV 4 0 0 ⟨#[]⟩ false f) (by simp [results, Tryz.results70, go_sem]) rfl ⟨rfl, by repeat (first | exact Ext.refl _ | apply Ext.drew | apply Ext.alloc | apply Ext.more_)⟩
set_option maxHeartbeats 400000 in
theorem of_any (m ex : Int) (w : World) :
    Calls Tryz.prog 80 #[NV m ex] w fun e w' => e = .returned (VV 1 m ex ⟨#[]⟩ false 0) ∧ Ext w w' := by
  go_enter Tryz.func80, Tryz.ntmps80
  go_wp2
  exact bodyPost_ret (v := VV 1 m ex ⟨#[]⟩ false 0) (by simp [results, Tryz.results80, go_sem]) rfl ⟨rfl, by repeat (first | exact Ext.refl _ | apply Ext.drew | apply Ext.alloc | apply Ext.more_)⟩
set_option maxHeartbeats 400000 in
theorem truth_any (t : Bool) (w : World) :
    Calls Tryz.prog 124 #[.bool t] w fun e w' => e = .returned (VV 3 0 0 ⟨#[]⟩ t 0) ∧ Ext w w' := by
  go_enter Tryz.func124, Tryz.ntmps124
  go_wp2
  exact bodyPost_ret (v := VV 3 0 0 ⟨#[]⟩ t 0) (by simp [results, Tryz.results124, go_sem]) rfl ⟨rfl, by repeat (first | exact Ext.refl _ | apply Ext.drew | apply Ext.alloc | apply Ext.more_)⟩
set_option maxHeartbeats 400000 in
theorem text_any (t : ByteArray) (w : World) (ht : t.size ≤ 9223372036854775807) :
    Calls Tryz.prog 123 #[.string t] w fun e w' => e = .returned (VV (textV t).kind 0 0 (textV t).text false (textV t).fault) ∧ Ext w w' := by
  by_cases h : 255 < t.size
  · have hv : textV t = ⟨4, 0, 0, ⟨#[]⟩, false, 2⟩ := by simp [textV, h]
    rw [hv]
    have hb : badF 2 = 2 := by decide
    go_enter Tryz.func123, Tryz.ntmps123
    go_wp2_with (go_at_call 70; refine (bad_any _ _).mono ?_; rintro e w' ⟨rfl, hb⟩; obtain ⟨os, d, rfl⟩ := hb.more)
    exact bodyPost_ret (v := VV 4 0 0 ⟨#[]⟩ false 2) (by simp [results, Tryz.results123, go_sem]) rfl ⟨rfl, by repeat (first | exact Ext.refl _ | apply Ext.drew | apply Ext.alloc | apply Ext.more_)⟩
  · have hv : textV t = ⟨2, 0, 0, t, false, 0⟩ := by simp [textV, h]
    rw [hv]
    go_enter Tryz.func123, Tryz.ntmps123
    go_wp2
    exact bodyPost_ret (v := VV 2 0 0 t false 0) (by simp [results, Tryz.results123, go_sem]) rfl ⟨rfl, by repeat (first | exact Ext.refl _ | apply Ext.drew | apply Ext.alloc | apply Ext.more_)⟩
end Go.Proofs.YtmjmijjbijlhfaaGreatDoor
namespace Go.Proofs.YtmjmijjbijlhfaaGreatDoor
open Go.RowKit
set_option maxHeartbeats 400000 in
theorem valRight_any (k m ex f : Int) (t : ByteArray) (b : Bool) (w : World) (hm : I64 m) (ht : t.size ≤ 9223372036854775807) :
    Calls Tryz.prog 72 #[VV k m ex t b f] w fun e w' => e = .returned (.bool (valRight ⟨k, m, ex, t, b, f⟩)) ∧ Ext w w' := by
  have heq := eql_val
  by_cases h0 : k = 0
  · subst h0
    go_enter Tryz.func72, Tryz.ntmps72
    go_wp2
    go_ret
    exact ⟨ret_bool (by simp [valRight, Val.zero]), by repeat (first | exact Ext.refl _ | apply Ext.drew | apply Ext.alloc | apply Ext.more_)⟩
  by_cases h1 : k = 1
  · subst h1
    by_cases hr : numRightB m ex = true
    · have e : valRight ⟨1, m, ex, t, b, f⟩ = eqV ⟨1, m, ex, t, b, f⟩ ⟨1, m, ex, ⟨#[]⟩, false, 0⟩ := by simp [valRight, hr]
      rw [e]; clear e h0
      go_enter Tryz.func72, Tryz.ntmps72
      go_wp2
      refine wp_plan (S := Ext _) [(0, 0), (1, 0), (2, 1), (3, 0), (4, 0), (5, 0), (6, 0), (7, 1), (8, 0), (9, 0), (10, 0)] [] (by kernel_rfl) (by kernel_rfl) (by kernel_rfl) (fun _ _ d _ _ h => by cases d <;> exact h) (Ext.drew (Ext.refl _)) ?_
      iterate 2 ((refine wpPl_read (v := ?_) rfl ?_ (fun _ h => ?_) ?_; rotate_left 1; rfl; (obtain ⟨_, _, rfl⟩ := h.more; go_simp; try rfl)); try simp only [Act.put, zqA, zqB, zqC])
      (refine wpPl_eff rfl ?_ (fun K hK => ?_); rfl; go_simp; refine (numRight_any _ _ _ hm).mono ?_; rintro e w' ⟨rfl, hb⟩; obtain ⟨os, d, rfl⟩ := hb.more; refine hK _ _ ?_ ?_; (repeat (first | (with_reducible (first | exact Ext.refl _ | exact ext_d _ _ _ _ | exact ext_app _ _ _ _ _ | exact ext_app2 _ _ _ _ _ _ | exact ext_app3 _ _ _ _ _ _ _ | exact ext_app4 _ _ _ _ _ _ _ _ | exact ext_app5 _ _ _ _ _ _ _ _ _)) | ((with_reducible refine ext_suffix ⟨_, ?_⟩); (try simp only [Array.append_assoc]); rfl) | (with_reducible (first | apply Ext.drew | apply Ext.alloc | apply Ext.more_)) | apply Ext.drew | apply Ext.alloc | apply Ext.more_)))
      try simp only [Act.put, zqA, zqB, zqC]
      (refine wpPl_read (v := ?_) rfl ?_ (fun _ h => ?_) ?_; rotate_left 1; rfl; (obtain ⟨_, _, rfl⟩ := h.more; go_simp; try rfl))
      try simp only [Act.put, zqA, zqB, zqC]
      iterate 3 ((first | (refine wpPl_skip rfl rfl ?_) | (refine wpPl_read (v := ?_) rfl ?_ (fun w1 h1 => ?_) ?_; rotate_left 1; rfl; (obtain ⟨os1, d1, rfl⟩ := h1.more; go_simp; first | done | rfl)) | (refine wpPl_gread (v := ?_) (c := ?_) rfl rfl rfl rfl ?_ (fun hc w1 h1 => ?_) ?_; rotate_left 2; (first | exact gc_t _ | exact gc_f _ | exact gc_gt _ _ | exact gc_gf _ _); (obtain ⟨os1, d1, rfl⟩ := h1.more; (try simp only [gv_of hc]); (try (have hc1 := and_l hc; (try simp only [gv_of hc1]); (try (have hc2 := and_l hc1; (try simp only [gv_of hc2]))))); go_simp; first | done | rfl))); try simp only [Act.put, zqA, zqB, zqC])
      first | (refine wpPl_effskip rfl ?_ ?_ ?_; (first | with_reducible rfl | rfl | (go_simp; done)); (repeat (first | (with_reducible (first | exact Ext.refl _ | exact ext_d _ _ _ _ | exact ext_app _ _ _ _ _ | exact ext_app2 _ _ _ _ _ _ | exact ext_app3 _ _ _ _ _ _ _ | exact ext_app4 _ _ _ _ _ _ _ _ | exact ext_app5 _ _ _ _ _ _ _ _ _)) | ((with_reducible refine ext_suffix ⟨_, ?_⟩); (try simp only [Array.append_assoc]); rfl) | (with_reducible (first | apply Ext.drew | apply Ext.alloc | apply Ext.more_)) | apply Ext.drew | apply Ext.alloc | apply Ext.more_))) | (refine wpPl_eff rfl ?_ (fun K hK => ?_); (first | with_reducible rfl | rfl | (go_simp; done)); go_simp; refine (of_any _ _ _).mono ?_; rintro e w' ⟨rfl, hb⟩; obtain ⟨os, d, rfl⟩ := hb.more; refine hK _ _ ?_ ?_; (repeat (first | (with_reducible (first | exact Ext.refl _ | exact ext_d _ _ _ _ | exact ext_app _ _ _ _ _ | exact ext_app2 _ _ _ _ _ _ | exact ext_app3 _ _ _ _ _ _ _ | exact ext_app4 _ _ _ _ _ _ _ _ | exact ext_app5 _ _ _ _ _ _ _ _ _)) | ((with_reducible refine ext_suffix ⟨_, ?_⟩); (try simp only [Array.append_assoc]); rfl) | (with_reducible (first | apply Ext.drew | apply Ext.alloc | apply Ext.more_)) | apply Ext.drew | apply Ext.alloc | apply Ext.more_)))
      try simp only [Act.put, zqA, zqB, zqC]
      first | (refine wpPl_skip rfl rfl ?_) | (refine wpPl_read (v := ?_) rfl ?_ (fun w1 h1 => ?_) ?_; rotate_left 1; rfl; (obtain ⟨os1, d1, rfl⟩ := h1.more; go_simp; first | done | rfl)) | (refine wpPl_gread (v := ?_) (c := ?_) rfl rfl rfl rfl ?_ (fun hc w1 h1 => ?_) ?_; rotate_left 2; (first | exact gc_t _ | exact gc_f _ | exact gc_gt _ _ | exact gc_gf _ _); (obtain ⟨os1, d1, rfl⟩ := h1.more; (try simp only [gv_of hc]); (try (have hc1 := and_l hc; (try simp only [gv_of hc1]); (try (have hc2 := and_l hc1; (try simp only [gv_of hc2]))))); go_simp; first | done | rfl))
      try simp only [Act.put, zqA, zqB, zqC]
      first | (refine wpPl_pick_and rfl rfl rfl rfl rfl rfl ?_) | (refine wpPl_pick_or rfl rfl rfl rfl rfl rfl ?_) | (refine wpPl_read (v := ?_) rfl ?_ (fun w1 h1 => ?_) ?_; rotate_left 1; rfl; (obtain ⟨os1, d1, rfl⟩ := h1.more; go_simp; first | done | rfl))
      try simp only [Act.put, zqA, zqB, zqC]
      (refine wpPl_read (v := ?_) rfl ?_ (fun _ h => ?_) ?_; rotate_left 1; rfl; (obtain ⟨_, _, rfl⟩ := h.more; go_simp; try rfl))
      try simp only [Act.put, zqA, zqB, zqC]
      refine wpPl_nil ?_
      go_wp2
      go_ret
      exact ⟨rfl, by repeat (first | exact Ext.refl _ | apply Ext.drew | apply Ext.alloc | apply Ext.more_)⟩
    · have hr' : numRightB m ex = false := by simpa using hr
      have e : valRight ⟨1, m, ex, t, b, f⟩ = false := by simp [valRight, hr]
      rw [e]; clear e h0 hr
      go_enter Tryz.func72, Tryz.ntmps72
      go_wp2
      refine wp_plan (S := Ext _) [(0, 0), (1, 0), (2, 1), (3, 0), (4, 0), (5, 0), (6, 0), (7, 1), (8, 0), (9, 0), (10, 0)] [] (by kernel_rfl) (by kernel_rfl) (by kernel_rfl) (fun _ _ d _ _ h => by cases d <;> exact h) (Ext.drew (Ext.refl _)) ?_
      iterate 2 ((refine wpPl_read (v := ?_) rfl ?_ (fun _ h => ?_) ?_; rotate_left 1; rfl; (obtain ⟨_, _, rfl⟩ := h.more; go_simp; try rfl)); try simp only [Act.put, zqA, zqB, zqC])
      (refine wpPl_eff rfl ?_ (fun K hK => ?_); rfl; go_simp; refine (numRight_any _ _ _ hm).mono ?_; rintro e w' ⟨rfl, hb⟩; obtain ⟨os, d, rfl⟩ := hb.more; refine hK _ _ ?_ ?_; (repeat (first | (with_reducible (first | exact Ext.refl _ | exact ext_d _ _ _ _ | exact ext_app _ _ _ _ _ | exact ext_app2 _ _ _ _ _ _ | exact ext_app3 _ _ _ _ _ _ _ | exact ext_app4 _ _ _ _ _ _ _ _ | exact ext_app5 _ _ _ _ _ _ _ _ _)) | ((with_reducible refine ext_suffix ⟨_, ?_⟩); (try simp only [Array.append_assoc]); rfl) | (with_reducible (first | apply Ext.drew | apply Ext.alloc | apply Ext.more_)) | apply Ext.drew | apply Ext.alloc | apply Ext.more_)))
      try simp only [Act.put, zqA, zqB, zqC]
      (refine wpPl_read (v := ?_) rfl ?_ (fun _ h => ?_) ?_; rotate_left 1; rfl; (obtain ⟨_, _, rfl⟩ := h.more; go_simp; try rfl))
      try simp only [Act.put, zqA, zqB, zqC]
      iterate 3 ((first | (refine wpPl_skip rfl rfl ?_) | (refine wpPl_read (v := ?_) rfl ?_ (fun w1 h1 => ?_) ?_; rotate_left 1; rfl; (obtain ⟨os1, d1, rfl⟩ := h1.more; go_simp; first | done | rfl)) | (refine wpPl_gread (v := ?_) (c := ?_) rfl rfl rfl rfl ?_ (fun hc w1 h1 => ?_) ?_; rotate_left 2; (first | exact gc_t _ | exact gc_f _ | exact gc_gt _ _ | exact gc_gf _ _); (obtain ⟨os1, d1, rfl⟩ := h1.more; (try simp only [gv_of hc]); (try (have hc1 := and_l hc; (try simp only [gv_of hc1]); (try (have hc2 := and_l hc1; (try simp only [gv_of hc2]))))); go_simp; first | done | rfl))); try simp only [Act.put, zqA, zqB, zqC])
      first | (refine wpPl_effskip rfl ?_ ?_ ?_; (first | with_reducible rfl | rfl | (go_simp; done)); (repeat (first | (with_reducible (first | exact Ext.refl _ | exact ext_d _ _ _ _ | exact ext_app _ _ _ _ _ | exact ext_app2 _ _ _ _ _ _ | exact ext_app3 _ _ _ _ _ _ _ | exact ext_app4 _ _ _ _ _ _ _ _ | exact ext_app5 _ _ _ _ _ _ _ _ _)) | ((with_reducible refine ext_suffix ⟨_, ?_⟩); (try simp only [Array.append_assoc]); rfl) | (with_reducible (first | apply Ext.drew | apply Ext.alloc | apply Ext.more_)) | apply Ext.drew | apply Ext.alloc | apply Ext.more_))) | (refine wpPl_eff rfl ?_ (fun K hK => ?_); (first | with_reducible rfl | rfl | (go_simp; done)); go_simp; refine (of_any _ _ _).mono ?_; rintro e w' ⟨rfl, hb⟩; obtain ⟨os, d, rfl⟩ := hb.more; refine hK _ _ ?_ ?_; (repeat (first | (with_reducible (first | exact Ext.refl _ | exact ext_d _ _ _ _ | exact ext_app _ _ _ _ _ | exact ext_app2 _ _ _ _ _ _ | exact ext_app3 _ _ _ _ _ _ _ | exact ext_app4 _ _ _ _ _ _ _ _ | exact ext_app5 _ _ _ _ _ _ _ _ _)) | ((with_reducible refine ext_suffix ⟨_, ?_⟩); (try simp only [Array.append_assoc]); rfl) | (with_reducible (first | apply Ext.drew | apply Ext.alloc | apply Ext.more_)) | apply Ext.drew | apply Ext.alloc | apply Ext.more_)))
      try simp only [Act.put, zqA, zqB, zqC]
      first | (refine wpPl_skip rfl rfl ?_) | (refine wpPl_read (v := ?_) rfl ?_ (fun w1 h1 => ?_) ?_; rotate_left 1; rfl; (obtain ⟨os1, d1, rfl⟩ := h1.more; go_simp; first | done | rfl)) | (refine wpPl_gread (v := ?_) (c := ?_) rfl rfl rfl rfl ?_ (fun hc w1 h1 => ?_) ?_; rotate_left 2; (first | exact gc_t _ | exact gc_f _ | exact gc_gt _ _ | exact gc_gf _ _); (obtain ⟨os1, d1, rfl⟩ := h1.more; (try simp only [gv_of hc]); (try (have hc1 := and_l hc; (try simp only [gv_of hc1]); (try (have hc2 := and_l hc1; (try simp only [gv_of hc2]))))); go_simp; first | done | rfl))
      try simp only [Act.put, zqA, zqB, zqC]
      first | (refine wpPl_pick_and rfl rfl rfl rfl rfl rfl ?_) | (refine wpPl_pick_or rfl rfl rfl rfl rfl rfl ?_) | (refine wpPl_read (v := ?_) rfl ?_ (fun w1 h1 => ?_) ?_; rotate_left 1; rfl; (obtain ⟨os1, d1, rfl⟩ := h1.more; go_simp; first | done | rfl))
      try simp only [Act.put, zqA, zqB, zqC]
      (refine wpPl_read (v := ?_) rfl ?_ (fun _ h => ?_) ?_; rotate_left 1; rfl; (obtain ⟨_, _, rfl⟩ := h.more; go_simp; try rfl))
      try simp only [Act.put, zqA, zqB, zqC]
      refine wpPl_nil ?_
      go_wp2
      go_ret
      exact ⟨rfl, by repeat (first | exact Ext.refl _ | apply Ext.drew | apply Ext.alloc | apply Ext.more_)⟩
  by_cases h2 : k = 2
  · subst h2
    clear h0 h1
    go_enter Tryz.func72, Tryz.ntmps72
    go_wp2
    refine wp_plan (S := Ext _) [(0, 0), (1, 0), (2, 0), (3, 1), (4, 0), (5, 0)] [] (by kernel_rfl) (by kernel_rfl) (by kernel_rfl) (fun _ _ d _ _ h => by cases d <;> exact h) (Ext.drew (Ext.refl _)) ?_
    iterate 3 ((refine wpPl_read (v := ?_) rfl ?_ (fun _ h => ?_) ?_; rotate_left 1; rfl; (obtain ⟨_, _, rfl⟩ := h.more; go_simp; try rfl)); try simp only [Act.put, zqA, zqB, zqC])
    (refine wpPl_eff rfl ?_ (fun K hK => ?_); rfl; go_simp; refine (text_any _ _ ht).mono ?_; rintro e w' ⟨rfl, hb⟩; obtain ⟨os, d, rfl⟩ := hb.more; refine hK _ _ ?_ ?_; (repeat (first | (with_reducible (first | exact Ext.refl _ | exact ext_d _ _ _ _ | exact ext_app _ _ _ _ _ | exact ext_app2 _ _ _ _ _ _ | exact ext_app3 _ _ _ _ _ _ _ | exact ext_app4 _ _ _ _ _ _ _ _ | exact ext_app5 _ _ _ _ _ _ _ _ _)) | ((with_reducible refine ext_suffix ⟨_, ?_⟩); (try simp only [Array.append_assoc]); rfl) | (with_reducible (first | apply Ext.drew | apply Ext.alloc | apply Ext.more_)) | apply Ext.drew | apply Ext.alloc | apply Ext.more_)))
    try simp only [Act.put, zqA, zqB, zqC]
    iterate 2 ((refine wpPl_read (v := ?_) rfl ?_ (fun _ h => ?_) ?_; rotate_left 1; rfl; (obtain ⟨_, _, rfl⟩ := h.more; go_simp; try rfl)); try simp only [Act.put, zqA, zqB, zqC])
    refine wpPl_nil ?_
    go_wp2
    go_ret
    exact ⟨ret_bool (by simp [valRight]; unfold textV; split <;> rfl), by repeat (first | exact Ext.refl _ | apply Ext.drew | apply Ext.alloc | apply Ext.more_)⟩
  by_cases h3 : k = 3
  · subst h3
    clear h0 h1 h2
    go_enter Tryz.func72, Tryz.ntmps72
    go_wp2
    refine wp_plan (S := Ext _) [(0, 0), (1, 0), (2, 0), (3, 1), (4, 0), (5, 0)] [] (by kernel_rfl) (by kernel_rfl) (by kernel_rfl) (fun _ _ d _ _ h => by cases d <;> exact h) (Ext.drew (Ext.refl _)) ?_
    iterate 3 ((refine wpPl_read (v := ?_) rfl ?_ (fun _ h => ?_) ?_; rotate_left 1; rfl; (obtain ⟨_, _, rfl⟩ := h.more; go_simp; try rfl)); try simp only [Act.put, zqA, zqB, zqC])
    (refine wpPl_eff rfl ?_ (fun K hK => ?_); rfl; go_simp; refine (truth_any _ _).mono ?_; rintro e w' ⟨rfl, hb⟩; obtain ⟨os, d, rfl⟩ := hb.more; refine hK _ _ ?_ ?_; (repeat (first | (with_reducible (first | exact Ext.refl _ | exact ext_d _ _ _ _ | exact ext_app _ _ _ _ _ | exact ext_app2 _ _ _ _ _ _ | exact ext_app3 _ _ _ _ _ _ _ | exact ext_app4 _ _ _ _ _ _ _ _ | exact ext_app5 _ _ _ _ _ _ _ _ _)) | ((with_reducible refine ext_suffix ⟨_, ?_⟩); (try simp only [Array.append_assoc]); rfl) | (with_reducible (first | apply Ext.drew | apply Ext.alloc | apply Ext.more_)) | apply Ext.drew | apply Ext.alloc | apply Ext.more_)))
    try simp only [Act.put, zqA, zqB, zqC]
    iterate 2 ((refine wpPl_read (v := ?_) rfl ?_ (fun _ h => ?_) ?_; rotate_left 1; rfl; (obtain ⟨_, _, rfl⟩ := h.more; go_simp; try rfl)); try simp only [Act.put, zqA, zqB, zqC])
    refine wpPl_nil ?_
    go_wp2
    go_ret
    exact ⟨ret_bool (by simp [valRight]), by repeat (first | exact Ext.refl _ | apply Ext.drew | apply Ext.alloc | apply Ext.more_)⟩
  by_cases h4 : k = 4
  · subst h4
    clear h0 h1 h2 h3
    go_enter Tryz.func72, Tryz.ntmps72
    go_wp2
    refine wp_plan (S := Ext _) [(0, 0), (1, 0), (2, 0), (3, 1), (4, 0), (5, 0)] [] (by kernel_rfl) (by kernel_rfl) (by kernel_rfl) (fun _ _ d _ _ h => by cases d <;> exact h) (Ext.drew (Ext.refl _)) ?_
    iterate 3 ((refine wpPl_read (v := ?_) rfl ?_ (fun _ h => ?_) ?_; rotate_left 1; rfl; (obtain ⟨_, _, rfl⟩ := h.more; go_simp; try rfl)); try simp only [Act.put, zqA, zqB, zqC])
    (refine wpPl_eff rfl ?_ (fun K hK => ?_); rfl; go_simp; refine (bad_any _ _).mono ?_; rintro e w' ⟨rfl, hb⟩; obtain ⟨os, d, rfl⟩ := hb.more; refine hK _ _ ?_ ?_; (repeat (first | (with_reducible (first | exact Ext.refl _ | exact ext_d _ _ _ _ | exact ext_app _ _ _ _ _ | exact ext_app2 _ _ _ _ _ _ | exact ext_app3 _ _ _ _ _ _ _ | exact ext_app4 _ _ _ _ _ _ _ _ | exact ext_app5 _ _ _ _ _ _ _ _ _)) | ((with_reducible refine ext_suffix ⟨_, ?_⟩); (try simp only [Array.append_assoc]); rfl) | (with_reducible (first | apply Ext.drew | apply Ext.alloc | apply Ext.more_)) | apply Ext.drew | apply Ext.alloc | apply Ext.more_)))
    try simp only [Act.put, zqA, zqB, zqC]
    iterate 2 ((refine wpPl_read (v := ?_) rfl ?_ (fun _ h => ?_) ?_; rotate_left 1; rfl; (obtain ⟨_, _, rfl⟩ := h.more; go_simp; try rfl)); try simp only [Act.put, zqA, zqB, zqC])
    refine wpPl_nil ?_
    go_wp2
    go_ret
    exact ⟨ret_bool (by simp [valRight]), by repeat (first | exact Ext.refl _ | apply Ext.drew | apply Ext.alloc | apply Ext.more_)⟩
  have e : valRight ⟨k, m, ex, t, b, f⟩ = false := by simp [valRight, h0, h1, h2, h3, h4]
  rw [e]; clear e
  have h0 : (k == 0) = false := by simp [h0]
  have h1 : (k == 1) = false := by simp [h1]
  have h2 : (k == 2) = false := by simp [h2]
  have h3 : (k == 3) = false := by simp [h3]
  have h4 : (k == 4) = false := by simp [h4]
  go_enter Tryz.func72, Tryz.ntmps72
  go_wp2
  go_ret
  exact ⟨rfl, by repeat (first | exact Ext.refl _ | apply Ext.drew | apply Ext.alloc | apply Ext.more_)⟩
end Go.Proofs.YtmjmijjbijlhfaaGreatDoor
namespace Go.Proofs.YtmjmijjbijlhfaaGreatDoor
open Go.RowKit
theorem txt_ne (t : ByteArray) : (!t.toList.isEmpty) = true ↔ t ≠ ⟨#[]⟩ := by
  obtain ⟨⟨l⟩⟩ := t
  simp [ByteArray.toList_eq]
theorem txt_eq (t : ByteArray) : (!t.toList.isEmpty) = false ↔ t = ⟨#[]⟩ := by
  obtain ⟨⟨l⟩⟩ := t
  simp [ByteArray.toList_eq]
theorem refRight_bad {k m ex f : Int} {t : ByteArray} {b : Bool} (h : (((k != 1) = true ∧ ((!m == 0) = true ∨ (!ex == 0) = true) ∨ (k != 2) = true ∧ (!t.toList.isEmpty) = true) ∨ (k != 3) = true ∧ b = true) ∨ (k != 4) = true ∧ (f != 0) = true) :
    false = refRight ⟨k, m, ex, t, b, f⟩ := by
  unfold refRight
  rw [if_pos]
  rw [txt_ne] at h
  simp at h ⊢
  rcases h with ((⟨h1, h2⟩ | ⟨h1, h2⟩) | ⟨h1, h2⟩) | ⟨h1, h2⟩
  · left; refine ⟨h1, fun h3 => ?_⟩; rcases h2 with h2 | h2 <;> simp_all
  · right; left; exact ⟨h1, h2⟩
  · right; right; left; exact ⟨h1, h2⟩
  · right; right; right; exact ⟨h1, h2⟩
theorem refRight_good {k m ex f : Int} {t : ByteArray} {b : Bool} (h : ((((k != 1) = false ∨ (!m == 0) = false ∧ (!ex == 0) = false) ∧ ((k != 2) = false ∨ (!t.toList.isEmpty) = false)) ∧ ((k != 3) = false ∨ b = false)) ∧ ((k != 4) = false ∨ (f != 0) = false)) :
    refRight ⟨k, m, ex, t, b, f⟩ = if k = 1 then refNumRight m ex else if k = 2 then decide (t.size ≤ 255) else k == 0 || k == 3 || (k == 4 && decide (1 ≤ f) && decide (f ≤ 9)) := by
  unfold refRight
  rw [if_neg]
  rw [txt_eq] at h
  obtain ⟨⟨⟨h1, h2⟩, h3⟩, h4⟩ := h
  simp at h1 h2 h3 h4
  rintro (⟨h5, h6⟩ | ⟨h5, h6⟩ | ⟨h5, h6⟩ | ⟨h5, h6⟩)
  · exact h6 (h1.resolve_left h5)
  · exact h6 (h2.resolve_left h5)
  · rcases h3 with h3 | h3
    · exact h5 h3
    · simp_all
  · exact h6 (h4.resolve_left h5)
set_option maxHeartbeats 1000000 in
theorem refRight_any (k m ex f : Int) (t : ByteArray) (b : Bool) (w : World) (hm : I64 m) (ht : t.size ≤ 9223372036854775807) :
    Calls Tryz.prog 27 #[VV k m ex t b f] w fun e w' => e = .returned (.bool (refRight ⟨k, m, ex, t, b, f⟩)) ∧ Ext w w' := by
  generalize hR : refRight ⟨k, m, ex, t, b, f⟩ = R
  have HR := Lib.hid hR
  clear hR
  go_enter Tryz.func27, Tryz.ntmps27
  go_upto_region 1 with (fail)
  refine wp_region_lit ?_
  iterate 5 ((refine wpL_read (v := ?_) rfl ?_ ?_; rotate_left 1; (go_simp; first | done | rfl)); try simp only [Act.put, zqA, zqB, zqC])
  iterate 4 ((refine wpL_gread (v := ?_) (c := ?_) rfl rfl rfl ?_ (fun hc => ?_) ?_; rotate_left 2; (first | exact gc_t _ | exact gc_f _ | exact gc_gt _ _ | exact gc_gf _ _); ((try simp only [gv_of hc]); (try (have hc1 := and_l hc; (try simp only [gv_of hc1]); (try (have hc2 := and_l hc1; (try simp only [gv_of hc2]))))); go_simp; first | done | rfl)); try simp only [Act.put, zqA, zqB, zqC])
  first | (refine wpL_pick_and rfl rfl rfl rfl rfl ?_) | (refine wpL_pick_or rfl rfl rfl rfl rfl ?_)
  try simp only [Act.put, zqA, zqB, zqC]
  (refine wpL_read (v := ?_) rfl ?_ ?_; rotate_left 1; (go_simp; first | done | rfl))
  try simp only [Act.put, zqA, zqB, zqC]
  refine wpList_nil ?_
  try go_simp
  go_upto_region 2 with (fail)
  refine wp_region_lit ?_
  iterate 4 ((refine wpL_read (v := ?_) rfl ?_ ?_; rotate_left 1; (go_simp; first | done | rfl)); try simp only [Act.put, zqA, zqB, zqC])
  iterate 2 ((refine wpL_gread (v := ?_) (c := ?_) rfl rfl rfl ?_ (fun hc => ?_) ?_; rotate_left 2; (first | exact gc_t _ | exact gc_f _ | exact gc_gt _ _ | exact gc_gf _ _); ((try simp only [gv_of hc]); (try (have hc1 := and_l hc; (try simp only [gv_of hc1]); (try (have hc2 := and_l hc1; (try simp only [gv_of hc2]))))); go_simp; first | done | rfl)); try simp only [Act.put, zqA, zqB, zqC])
  first | (refine wpL_pick_and rfl rfl rfl rfl rfl ?_) | (refine wpL_pick_or rfl rfl rfl rfl rfl ?_)
  try simp only [Act.put, zqA, zqB, zqC]
  (refine wpL_read (v := ?_) rfl ?_ ?_; rotate_left 1; (go_simp; first | done | rfl))
  try simp only [Act.put, zqA, zqB, zqC]
  iterate 7 ((refine wpL_gread (v := ?_) (c := ?_) rfl rfl rfl ?_ (fun hc => ?_) ?_; rotate_left 2; (first | exact gc_t _ | exact gc_f _ | exact gc_gt _ _ | exact gc_gf _ _); ((try simp only [gv_of hc]); (try (have hc1 := and_l hc; (try simp only [gv_of hc1]); (try (have hc2 := and_l hc1; (try simp only [gv_of hc2]))))); go_simp; first | done | rfl)); try simp only [Act.put, zqA, zqB, zqC])
  first | (refine wpL_gpick_and rfl rfl rfl rfl rfl rfl rfl ?_ ?_; (first | exact gc_t _ | exact gc_f _ | exact gc_gt _ _ | exact gc_gf _ _)) | (refine wpL_gpick_or rfl rfl rfl rfl rfl rfl rfl ?_ ?_; (first | exact gc_t _ | exact gc_f _ | exact gc_gt _ _ | exact gc_gf _ _))
  try simp only [Act.put, zqA, zqB, zqC]
  first | (refine wpL_pick_and rfl rfl rfl rfl rfl ?_) | (refine wpL_pick_or rfl rfl rfl rfl rfl ?_)
  try simp only [Act.put, zqA, zqB, zqC]
  (refine wpL_read (v := ?_) rfl ?_ ?_; rotate_left 1; (go_simp; first | done | rfl))
  try simp only [Act.put, zqA, zqB, zqC]
  iterate 6 ((refine wpL_gread (v := ?_) (c := ?_) rfl rfl rfl ?_ (fun hc => ?_) ?_; rotate_left 2; (first | exact gc_t _ | exact gc_f _ | exact gc_gt _ _ | exact gc_gf _ _); ((try simp only [gv_of hc]); (try (have hc1 := and_l hc; (try simp only [gv_of hc1]); (try (have hc2 := and_l hc1; (try simp only [gv_of hc2]))))); go_simp; first | done | rfl)); try simp only [Act.put, zqA, zqB, zqC])
  first | (refine wpL_gpick_and rfl rfl rfl rfl rfl rfl rfl ?_ ?_; (first | exact gc_t _ | exact gc_f _ | exact gc_gt _ _ | exact gc_gf _ _)) | (refine wpL_gpick_or rfl rfl rfl rfl rfl rfl rfl ?_ ?_; (first | exact gc_t _ | exact gc_f _ | exact gc_gt _ _ | exact gc_gf _ _))
  try simp only [Act.put, zqA, zqB, zqC]
  first | (refine wpL_pick_and rfl rfl rfl rfl rfl ?_) | (refine wpL_pick_or rfl rfl rfl rfl rfl ?_)
  try simp only [Act.put, zqA, zqB, zqC]
  (refine wpL_read (v := ?_) rfl ?_ ?_; rotate_left 1; (go_simp; first | done | rfl))
  try simp only [Act.put, zqA, zqB, zqC]
  iterate 7 ((refine wpL_gread (v := ?_) (c := ?_) rfl rfl rfl ?_ (fun hc => ?_) ?_; rotate_left 2; (first | exact gc_t _ | exact gc_f _ | exact gc_gt _ _ | exact gc_gf _ _); ((try simp only [gv_of hc]); (try (have hc1 := and_l hc; (try simp only [gv_of hc1]); (try (have hc2 := and_l hc1; (try simp only [gv_of hc2]))))); go_simp; first | done | rfl)); try simp only [Act.put, zqA, zqB, zqC])
  first | (refine wpL_gpick_and rfl rfl rfl rfl rfl rfl rfl ?_ ?_; (first | exact gc_t _ | exact gc_f _ | exact gc_gt _ _ | exact gc_gf _ _)) | (refine wpL_gpick_or rfl rfl rfl rfl rfl rfl rfl ?_ ?_; (first | exact gc_t _ | exact gc_f _ | exact gc_gt _ _ | exact gc_gf _ _))
  try simp only [Act.put, zqA, zqB, zqC]
  first | (refine wpL_pick_and rfl rfl rfl rfl rfl ?_) | (refine wpL_pick_or rfl rfl rfl rfl rfl ?_)
  try simp only [Act.put, zqA, zqB, zqC]
  refine wpList_nil ?_
  try go_simp
  go_wp2_with (go_at_call 67; refine (refNumRight_any _ _ _ hm).mono ?_; rintro e w' ⟨rfl, hb⟩; obtain ⟨os, d, rfl⟩ := hb.more)
  all_goals (go_ret; refine ⟨ret_bool ?_, by repeat (first | exact Ext.refl _ | apply Ext.drew | apply Ext.alloc | apply Ext.more_)⟩)
  all_goals rw [← HR.out]
  · exact refRight_bad (by assumption)
  all_goals rw [refRight_good (by assumption)]
  all_goals simp_all
  all_goals omega
end Go.Proofs.YtmjmijjbijlhfaaGreatDoor
namespace Go.Proofs.YtmjmijjbijlhfaaGreatDoor
open Go.RowKit
def fitsB (r c : Int) : Bool := decide (1 ≤ r) && decide (1 ≤ c) && decide (r ≤ 4096) && decide (c ≤ 4096 / r)
theorem fits_mul {r c : Int} (h : fitsB r c = true) : 1 ≤ r ∧ 1 ≤ c ∧ r ≤ 4096 ∧ c ≤ 4096 ∧ 1 ≤ r * c ∧ r * c ≤ 4096 := by
  simp only [fitsB, Bool.and_eq_true, decide_eq_true_eq] at h
  obtain ⟨⟨⟨h1, h2⟩, h3⟩, h4⟩ := h
  have h5 : r * (4096 / r) ≤ 4096 := Int.mul_ediv_self_le (by omega)
  have h6 : r * c ≤ r * (4096 / r) := Int.mul_le_mul_of_nonneg_left h4 (by omega)
  have h7 : c ≤ 4096 := by have := Int.ediv_le_self (a := 4096) r (by omega); omega
  have h8 : 1 * 1 ≤ r * c := Int.mul_le_mul h1 h2 (by omega) (by omega)
  exact ⟨h1, h2, h3, h7, by omega, by omega⟩
set_option maxHeartbeats 400000 in
theorem fits_any (r c : Int) (w : World) :
    Calls Tryz.prog 71 #[.int .i64 r, .int .i64 c] w fun e w' => e = .returned (.bool (fitsB r c)) ∧ w = w' := by
  by_cases h1 : 1 ≤ r
  · by_cases h2 : 1 ≤ c
    · by_cases h3 : r ≤ 4096
      · have e : fitsB r c = decide (c ≤ 4096 / r) := by simp [fitsB, h1, h2, h3]
        rw [e]
        go_enter Tryz.func71, Tryz.ntmps71
        go_wp2
        go_ret
        exact ⟨rfl, rfl⟩
      · have e : fitsB r c = false := by simp [fitsB, h3]
        rw [e]
        go_enter Tryz.func71, Tryz.ntmps71
        go_wp2
        go_ret
        exact ⟨rfl, rfl⟩
    · have e : fitsB r c = false := by simp [fitsB, h2]
      rw [e]
      go_enter Tryz.func71, Tryz.ntmps71
      go_wp2
      go_ret
      exact ⟨rfl, rfl⟩
  · have e : fitsB r c = false := by simp [fitsB, h1]
    rw [e]
    go_enter Tryz.func71, Tryz.ntmps71
    go_wp2
    go_ret
    exact ⟨rfl, rfl⟩
/-- An array as it comes in or goes from call to call. -/
structure ArrIn (w : World) (A : Option Addr) (n cap : Nat) (l : List Val) : Prop where
  rd : SlV 0 w A l
  len : l.length = n
  cap : n ≤ cap
  small : n ≤ 9223372036854775807
  ok : ∀ x ∈ l, x.ok
theorem ArrIn.ext {w w' : World} {A : Option Addr} {n cap : Nat} {l : List Val} (h : ArrIn w A n cap l) (hb : Ext w w') : ArrIn w' A n cap l := ⟨h.rd.ext hb, h.len, h.cap, h.small, h.ok⟩
theorem ArrIn.at {w : World} {A : Option Addr} {n cap : Nat} {l : List Val} (h : ArrIn w A n cap l) {k : Nat} (hk : k < n) :
    ∃ x b off, l[k]? = some x ∧ x.ok ∧ A = some ⟨b, off, none⟩ ∧ ValAt w b (off + k * 6) x := by
  have hl : k < l.length := by rw [h.len]; exact hk
  obtain ⟨b, off, hA, _, hv⟩ := h.rd.at (List.getElem?_eq_getElem hl)
  exact ⟨l[k], b, off, List.getElem?_eq_getElem hl, h.ok _ (List.getElem_mem hl), hA, hv⟩
def rightA (r c : Int) (l : List Val) : Bool := fitsB r c && decide ((l.length : Int) = r * c) && l.all valRight
set_option maxHeartbeats 400000 in
theorem right_any (r c : Int) (A : Option Addr) (n cap : Nat) (l : List Val) (w : World) (h : ArrIn w A n cap l) :
    Calls Tryz.prog 30 #[AV r c (.slice A n cap)] w fun e w' => e = .returned (.bool (rightA r c l)) ∧ Ext w w' := by
  have hsm := h.small
  by_cases hf : fitsB r c = true
  · obtain ⟨f1, f2, f3, f4, f5, f6⟩ := fits_mul hf
    have hw : IntKind.i64.wrap (r * c) = r * c := by rw [IntKind.wrap_i64]; omega
    by_cases hn : (n : Int) = r * c
    · have e : rightA r c l = l.all valRight := by simp [rightA, hf, h.len, hn]
      generalize hR : rightA r c l = R at *
      have HR := Lib.hid e
      clear e hR
      have hn' : ((n : Int) != r * c) = false := by simp [hn]
      have HN := Lib.hid hn
      clear hn
      go_enter Tryz.func30, Tryz.ntmps30
      go_wp2_with (go_at_call 71; refine (fits_any _ _ _).mono ?_; rintro e w' ⟨rfl, rfl⟩)
      go_loopw [24] (fun i wr => ∃ (k : Nat) (os : Array Obj) (d : Nat), k ≤ n ∧ i = .int .i64 k ∧ wr = more (w.alloc (Obj.cells #[.int .i64 r, .int .i64 c, .slice A n cap] 31)) os d ∧ Hid (∀ j x, j < k → l[j]? = some x → valRight x = true)) (fun i _ => n - (intOf i).toNat)
      case atStart => exact ⟨0, #[], _, Nat.zero_le _, rfl, (more_none _).symm, fun j x hj => absurd hj (Nat.not_lt_zero _)⟩
      case round =>
        obtain ⟨k, os, d, hk, rfl, rfl, H⟩ := hrel
        by_cases hlt : k < n
        · obtain ⟨x, b, off, hx, hxo, rfl, hv⟩ := h.at hlt
          obtain ⟨v0, v1, v2, v3, v4, v5⟩ := hv
          have hbl : b < w.heap.size := lt_of_cell v0
          by_cases hvr : valRight x = true
          · go_wp2_with (go_at_call 72; refine (valRight_any _ _ _ _ _ _ _ hxo.2.1 hxo.2.2.2.1).mono ?_; rintro e w' ⟨rfl, hb⟩; obtain ⟨os', d', rfl⟩ := hb.more)
            refine ⟨⟨k + 1, _, _, by omega, by go_num, rfl, ?_⟩, by simp [intOf]; omega⟩
            intro j y hj hy
            by_cases hjk : j = k
            · subst hjk
              obtain rfl : x = y := by rw [hx] at hy; simpa using hy
              exact hvr
            · exact H.out j y (by omega) hy
          · have hvr' : valRight x = false := by simpa using hvr
            have hR : R = false := by
              rw [HR.out]
              exact List.all_eq_false.2 ⟨x, List.mem_of_getElem? hx, hvr⟩
            have HR2 := Lib.hid hR
            clear hR hvr
            go_wp2_with (go_at_call 72; refine (valRight_any _ _ _ _ _ _ _ hxo.2.1 hxo.2.2.2.1).mono ?_; rintro e w' ⟨rfl, hb⟩; obtain ⟨os', d', rfl⟩ := hb.more)
            go_ret
            exact ⟨ret_bool HR2.out.symm, by repeat (first | exact Ext.refl _ | apply Ext.drew | apply Ext.alloc | apply Ext.more_)⟩
        · have hR : R = true := by
            rw [HR.out]
            refine List.all_eq_true.2 fun x hx => ?_
            obtain ⟨j, hj, rfl⟩ := List.getElem_of_mem hx
            exact H.out j _ (by have := h.len; omega) (List.getElem?_eq_getElem hj)
          have HR2 := Lib.hid hR
          clear hR
          go_wp2
          go_ret
          exact ⟨ret_bool HR2.out.symm, by repeat (first | exact Ext.refl _ | apply Ext.drew | apply Ext.alloc | apply Ext.more_)⟩
    · have e : rightA r c l = false := by simp [rightA, h.len, hn]
      rw [e]; clear e
      have hn' : ((n : Int) != r * c) = true := by simp [hn]
      clear hn
      go_enter Tryz.func30, Tryz.ntmps30
      go_wp2_with (go_at_call 71; refine (fits_any _ _ _).mono ?_; rintro e w' ⟨rfl, rfl⟩)
      go_ret
      exact ⟨rfl, by repeat (first | exact Ext.refl _ | apply Ext.drew | apply Ext.alloc | apply Ext.more_)⟩
  · have e : rightA r c l = false := by simp [rightA, hf]
    have hf' : fitsB r c = false := by simpa using hf
    rw [e]; clear e hf
    go_enter Tryz.func30, Tryz.ntmps30
    go_wp2_with (go_at_call 71; refine (fits_any _ _ _).mono ?_; rintro e w' ⟨rfl, rfl⟩)
    go_ret
    exact ⟨rfl, by repeat (first | exact Ext.refl _ | apply Ext.drew | apply Ext.alloc | apply Ext.more_)⟩
/-- counterpaneref09.Right. -/
def refRightA (r c : Int) (l : List Val) : Bool :=
  decide (1 ≤ r) && decide (1 ≤ c) && decide (r ≤ 4096) && decide (c ≤ 4096) && decide (r * c ≤ 4096) && decide ((l.length : Int) = r * c) && l.all refRight
theorem rightA_eq (r c : Int) (l : List Val) (h : ∀ x ∈ l, x.ok) : rightA r c l = refRightA r c l := by
  have h1 : l.all valRight = l.all refRight := by
    rw [Bool.eq_iff_iff]
    simp only [List.all_eq_true]
    exact ⟨fun k x hx => by rw [← right_eq x (h x hx)]; exact k x hx, fun k x hx => by rw [right_eq x (h x hx)]; exact k x hx⟩
  unfold rightA refRightA
  rw [h1]
  by_cases hf : fitsB r c = true
  · obtain ⟨f1, f2, f3, f4, f5, f6⟩ := fits_mul hf
    simp [hf, f1, f2, f3, f4, f6]
  · have hf' : fitsB r c = false := by simpa using hf
    simp only [hf', Bool.false_and]
    by_cases h1 : 1 ≤ r <;> simp [h1]
    by_cases h2 : 1 ≤ c <;> simp [h2]
    by_cases h3 : r ≤ 4096 <;> simp [h3]
    intro h4 h5
    exfalso
    simp [fitsB, h1, h2, h3] at hf'
    have h6 : 4096 / r + 1 ≤ c := by omega
    have h7 : r * (4096 / r + 1) ≤ r * c := Int.mul_le_mul_of_nonneg_left h6 (by omega)
    have h8 := Int.lt_mul_ediv_self_add (x := 4096) (k := r) (by omega)
    rw [Int.mul_add] at h7
    omega
end Go.Proofs.YtmjmijjbijlhfaaGreatDoor
namespace Go.Proofs.YtmjmijjbijlhfaaGreatDoor
open Go.RowKit
theorem wrap_small {r c : Int} (h1 : 1 ≤ r) (h2 : 1 ≤ c) (h3 : r ≤ 4096) (h4 : c ≤ 4096) : IntKind.i64.wrap (r * c) = r * c := by
  have h5 : 1 * 1 ≤ r * c := Int.mul_le_mul h1 h2 (by omega) (by omega)
  have h6 : r * c ≤ 4096 * 4096 := Int.mul_le_mul h3 h4 (by omega) (by omega)
  rw [IntKind.wrap_i64]; omega
theorem refRightA_bad {r c : Int} {n : Nat} {l : List Val} (hl : l.length = n) (h : ((((r < 1 ∨ c < 1) ∨ 4096 < r) ∨ 4096 < c) ∨ 4096 < IntKind.i64.wrap (r * c)) ∨ ((n : Int) != IntKind.i64.wrap (r * c)) = true) : refRightA r c l = false := by
  by_cases h1 : 1 ≤ r
  · by_cases h2 : 1 ≤ c
    · by_cases h3 : r ≤ 4096
      · by_cases h4 : c ≤ 4096
        · rw [wrap_small h1 h2 h3 h4] at h
          rcases h with (((h | h) | h) | h) | h
          · omega
          · omega
          · omega
          · have h5 : ¬ r * c ≤ 4096 := by omega
            simp [refRightA, h5]
          · have h5 : ¬ (l.length : Int) = r * c := by rw [hl]; simpa using h
            simp [refRightA, h5]
        · simp [refRightA, h4]
      · simp [refRightA, h3]
    · simp [refRightA, h2]
  · simp [refRightA, h1]
theorem refRightA_good {r c : Int} {n : Nat} {l : List Val} (hl : l.length = n) (h : ((((1 ≤ r ∧ 1 ≤ c) ∧ r ≤ 4096) ∧ c ≤ 4096) ∧ IntKind.i64.wrap (r * c) ≤ 4096) ∧ ((n : Int) != IntKind.i64.wrap (r * c)) = false) : refRightA r c l = l.all refRight := by
  obtain ⟨⟨⟨⟨⟨h1, h2⟩, h3⟩, h4⟩, h5⟩, h6⟩ := h
  rw [wrap_small h1 h2 h3 h4] at h5 h6
  have h7 : (l.length : Int) = r * c := by rw [hl]; simpa using h6
  simp [refRightA, h1, h2, h3, h4, h5, h7]
theorem more_alloc (w : World) (os : Array Obj) (d : Nat) (o : Obj) : (more w os d).alloc o = more w (os.push o) d := by
  simp [more, World.alloc]
set_option maxHeartbeats 400000 in
theorem refRightA_any (r c : Int) (A : Option Addr) (n cap : Nat) (l : List Val) (w : World) (h : ArrIn w A n cap l) :
    Calls Tryz.prog 14 #[AV r c (.slice A n cap)] w fun e w' => e = .returned (.bool (refRightA r c l)) ∧ Ext w w' := by
  have hsm := h.small
  generalize hR : refRightA r c l = R
  have HR := Lib.hid hR
  clear hR
  go_enter Tryz.func14, Tryz.ntmps14
  go_upto_region 1 with (fail)
  refine wp_region_lit ?_
  iterate 4 ((refine wpL_read (v := ?_) rfl ?_ ?_; rotate_left 1; (go_simp; first | done | rfl)); try simp only [Act.put, zqA, zqB, zqC])
  iterate 3 ((refine wpL_gread (v := ?_) (c := ?_) rfl rfl rfl ?_ (fun hc => ?_) ?_; rotate_left 2; (first | exact gc_t _ | exact gc_f _ | exact gc_gt _ _ | exact gc_gf _ _); ((try simp only [gv_of hc]); (try (have hc1 := and_l hc; (try simp only [gv_of hc1]); (try (have hc2 := and_l hc1; (try simp only [gv_of hc2]))))); go_simp; first | done | rfl)); try simp only [Act.put, zqA, zqB, zqC])
  first | (refine wpL_pick_and rfl rfl rfl rfl rfl ?_) | (refine wpL_pick_or rfl rfl rfl rfl rfl ?_)
  try simp only [Act.put, zqA, zqB, zqC]
  (refine wpL_read (v := ?_) rfl ?_ ?_; rotate_left 1; (go_simp; first | done | rfl))
  try simp only [Act.put, zqA, zqB, zqC]
  iterate 3 ((refine wpL_gread (v := ?_) (c := ?_) rfl rfl rfl ?_ (fun hc => ?_) ?_; rotate_left 2; (first | exact gc_t _ | exact gc_f _ | exact gc_gt _ _ | exact gc_gf _ _); ((try simp only [gv_of hc]); (try (have hc1 := and_l hc; (try simp only [gv_of hc1]); (try (have hc2 := and_l hc1; (try simp only [gv_of hc2]))))); go_simp; first | done | rfl)); try simp only [Act.put, zqA, zqB, zqC])
  first | (refine wpL_pick_and rfl rfl rfl rfl rfl ?_) | (refine wpL_pick_or rfl rfl rfl rfl rfl ?_)
  try simp only [Act.put, zqA, zqB, zqC]
  (refine wpL_read (v := ?_) rfl ?_ ?_; rotate_left 1; (go_simp; first | done | rfl))
  try simp only [Act.put, zqA, zqB, zqC]
  iterate 3 ((refine wpL_gread (v := ?_) (c := ?_) rfl rfl rfl ?_ (fun hc => ?_) ?_; rotate_left 2; (first | exact gc_t _ | exact gc_f _ | exact gc_gt _ _ | exact gc_gf _ _); ((try simp only [gv_of hc]); (try (have hc1 := and_l hc; (try simp only [gv_of hc1]); (try (have hc2 := and_l hc1; (try simp only [gv_of hc2]))))); go_simp; first | done | rfl)); try simp only [Act.put, zqA, zqB, zqC])
  first | (refine wpL_pick_and rfl rfl rfl rfl rfl ?_) | (refine wpL_pick_or rfl rfl rfl rfl rfl ?_)
  try simp only [Act.put, zqA, zqB, zqC]
  (refine wpL_read (v := ?_) rfl ?_ ?_; rotate_left 1; (go_simp; first | done | rfl))
  try simp only [Act.put, zqA, zqB, zqC]
  iterate 6 ((refine wpL_gread (v := ?_) (c := ?_) rfl rfl rfl ?_ (fun hc => ?_) ?_; rotate_left 2; (first | exact gc_t _ | exact gc_f _ | exact gc_gt _ _ | exact gc_gf _ _); ((try simp only [gv_of hc]); (try (have hc1 := and_l hc; (try simp only [gv_of hc1]); (try (have hc2 := and_l hc1; (try simp only [gv_of hc2]))))); go_simp; first | done | rfl)); try simp only [Act.put, zqA, zqB, zqC])
  first | (refine wpL_pick_and rfl rfl rfl rfl rfl ?_) | (refine wpL_pick_or rfl rfl rfl rfl rfl ?_)
  try simp only [Act.put, zqA, zqB, zqC]
  (refine wpL_read (v := ?_) rfl ?_ ?_; rotate_left 1; (go_simp; first | done | rfl))
  try simp only [Act.put, zqA, zqB, zqC]
  iterate 9 ((refine wpL_gread (v := ?_) (c := ?_) rfl rfl rfl ?_ (fun hc => ?_) ?_; rotate_left 2; (first | exact gc_t _ | exact gc_f _ | exact gc_gt _ _ | exact gc_gf _ _); ((try simp only [gv_of hc]); (try (have hc1 := and_l hc; (try simp only [gv_of hc1]); (try (have hc2 := and_l hc1; (try simp only [gv_of hc2]))))); go_simp; first | done | rfl)); try simp only [Act.put, zqA, zqB, zqC])
  first | (refine wpL_pick_and rfl rfl rfl rfl rfl ?_) | (refine wpL_pick_or rfl rfl rfl rfl rfl ?_)
  try simp only [Act.put, zqA, zqB, zqC]
  refine wpList_nil ?_
  try go_simp
  go_wp2
  · go_ret
    refine ⟨ret_bool ?_, by repeat (first | exact Ext.refl _ | apply Ext.drew | apply Ext.alloc | apply Ext.more_)⟩
    rw [← HR.out]
    symm
    exact refRightA_bad h.len (by assumption)
  · rename_i hgood _ _
    have HR' := Lib.hid (refRightA_good h.len hgood)
    clear hgood
    go_loopw [3] (fun i wr => ∃ (k : Nat) (os : Array Obj) (d : Nat), k ≤ n ∧ i = .int .i64 k ∧ wr = more (w.alloc (Obj.cells #[.int .i64 r, .int .i64 c, .slice A n cap] 31)) os d ∧ Hid (∀ j x, j < k → l[j]? = some x → refRight x = true)) (fun i _ => n - (intOf i).toNat)
    case atStart => exact ⟨0, #[], _, Nat.zero_le _, rfl, (more_none _).symm, fun j x hj => absurd hj (Nat.not_lt_zero _)⟩
    case round =>
      obtain ⟨k, os, d, hk, rfl, rfl, H⟩ := hrel
      by_cases hlt : k < n
      · obtain ⟨x, b, off, hx, hxo, rfl, hv⟩ := h.at hlt
        obtain ⟨v0, v1, v2, v3, v4, v5⟩ := hv
        have hbl : b < w.heap.size := lt_of_cell v0
        by_cases hvr : refRight x = true
        · go_wp2_with (go_at_call 27; refine (refRight_any _ _ _ _ _ _ _ hxo.2.1 hxo.2.2.2.1).mono ?_; rintro e w' ⟨rfl, hb⟩; obtain ⟨os', d', rfl⟩ := hb.more)
          refine ⟨⟨k + 1, _, _, by omega, by go_num, rfl, ?_⟩, by simp [intOf]; omega⟩
          intro j y hj hy
          by_cases hjk : j = k
          · subst hjk
            obtain rfl : x = y := by rw [hx] at hy; simpa using hy
            exact hvr
          · exact H.out j y (by omega) hy
        · have hvr' : refRight x = false := by simpa using hvr
          have hR : R = false := by
            rw [← HR.out, HR'.out]
            exact List.all_eq_false.2 ⟨x, List.mem_of_getElem? hx, hvr⟩
          have HR2 := Lib.hid hR
          clear hR hvr
          go_wp2_with (go_at_call 27; refine (refRight_any _ _ _ _ _ _ _ hxo.2.1 hxo.2.2.2.1).mono ?_; rintro e w' ⟨rfl, hb⟩; obtain ⟨os', d', rfl⟩ := hb.more)
          go_ret
          exact ⟨ret_bool HR2.out.symm, by repeat (first | exact Ext.refl _ | apply Ext.drew | apply Ext.alloc | apply Ext.more_)⟩
      · have hR : R = true := by
          rw [← HR.out, HR'.out]
          refine List.all_eq_true.2 fun x hx => ?_
          obtain ⟨j, hj, rfl⟩ := List.getElem_of_mem hx
          exact H.out j _ (by have := h.len; omega) (List.getElem?_eq_getElem hj)
        have HR2 := Lib.hid hR
        clear hR
        go_wp2
        go_ret
        exact ⟨ret_bool HR2.out.symm, by repeat (first | exact Ext.refl _ | apply Ext.drew | apply Ext.alloc | apply Ext.more_)⟩
set_option maxHeartbeats 400000 in
theorem small_any (r c : Int) (A : Option Addr) (n cap : Nat) (l : List Val) (w : World) (h : ArrIn w A n cap l) :
    Calls Tryz.prog 25 #[AV r c (.slice A n cap)] w fun e w' => ∃ s : Int, e = .returned (.int .i64 s) ∧ (s = 0 ∨ (s = 1 ∧ n ≤ 300 ∧ ∀ x ∈ l, x.text.size ≤ 300)) ∧ Ext w w' := by
  have hsm := h.small
  by_cases hn : 300 < n
  · go_enter Tryz.func25, Tryz.ntmps25
    go_wp2
    go_ret
    exact ⟨0, rfl, .inl rfl, by repeat (first | exact Ext.refl _ | apply Ext.drew | apply Ext.alloc | apply Ext.more_)⟩
  · go_enter Tryz.func25, Tryz.ntmps25
    go_wp2
    go_loopw [12] (fun i wr => ∃ (k : Nat) (os : Array Obj) (d : Nat), k ≤ n ∧ i = .int .i64 k ∧ wr = more (w.alloc (Obj.cells #[.int .i64 r, .int .i64 c, .slice A n cap] 31)) os d ∧ Hid (∀ j x, j < k → l[j]? = some x → x.text.size ≤ 300)) (fun i _ => n - (intOf i).toNat)
    case atStart => exact ⟨0, #[], _, Nat.zero_le _, rfl, (more_none _).symm, fun j x hj => absurd hj (Nat.not_lt_zero _)⟩
    case round =>
      obtain ⟨k, os, d, hk, rfl, rfl, H⟩ := hrel
      by_cases hlt : k < n
      · obtain ⟨x, b, off, hx, hxo, rfl, hv⟩ := h.at hlt
        obtain ⟨v0, v1, v2, v3, v4, v5⟩ := hv
        have hbl : b < w.heap.size := lt_of_cell v0
        by_cases ht : 300 < x.text.size
        · have hxs := hxo.2.2.2.1
          go_wp2
          go_ret
          exact ⟨0, rfl, .inl rfl, by repeat (first | exact Ext.refl _ | apply Ext.drew | apply Ext.alloc | apply Ext.more_)⟩
        · go_wp2
          refine ⟨⟨k + 1, _, _, by omega, by go_num, more_alloc _ _ _ _, ?_⟩, by simp [intOf]; omega⟩
          intro j y hj hy
          by_cases hjk : j = k
          · subst hjk
            obtain rfl : x = y := by rw [hx] at hy; simpa using hy
            omega
          · exact H.out j y (by omega) hy
      · go_wp2
        go_ret
        refine ⟨1, rfl, .inr ⟨rfl, by omega, fun x hx => ?_⟩, by repeat (first | exact Ext.refl _ | apply Ext.drew | apply Ext.alloc | apply Ext.more_)⟩
        obtain ⟨j, hj, rfl⟩ := List.getElem_of_mem hx
        exact H.out j _ (by have := h.len; omega) (List.getElem?_eq_getElem hj)
end Go.Proofs.YtmjmijjbijlhfaaGreatDoor
namespace Go.Proofs.YtmjmijjbijlhfaaGreatDoor
open Go.RowKit
theorem SlV.one {w : World} {n base : Nat} {k m e : Int} {t : ByteArray} {b : Bool} {f : Int} {ty : TypeId} (hn : n = w.heap.size) (hb : base ≤ n) :
    SlV base (w.alloc (.cells #[.int .i64 k, .int .i64 m, .int .i64 e, .string t, .bool b, .int .i64 f] ty)) (some ⟨n, 0, none⟩) [⟨k, m, e, t, b, f⟩] := fun j u hu => by
  refine ⟨n, 0, rfl, hb, ?_⟩
  rw [World.cell?_alloc_at _ _ _ _ hn, Nat.zero_add, ← hu]
  simp only [vcells, Val.cells, List.flatMap_cons, List.flatMap_nil, List.append_nil]
  simp
/-- What a call hands back: an array in new memory. -/
def ArrO (base : Nat) (w' : World) (e : Ending) (r c : Int) (l : List Val) : Prop :=
  ∃ A cap, e = .returned (AV r c (.slice A l.length cap)) ∧ SlV base w' A l ∧ l.length ≤ cap
def badV (f : Int) : Val := ⟨4, 0, 0, ⟨#[]⟩, false, f⟩
set_option maxHeartbeats 400000 in
theorem one_right (k m ex f : Int) (t : ByteArray) (b : Bool) (w : World) (hm : I64 m) (ht : t.size ≤ 9223372036854775807) (hr : valRight ⟨k, m, ex, t, b, f⟩ = true) :
    Calls Tryz.prog 36 #[VV k m ex t b f] w fun e w' => ArrO w.heap.size w' e 1 1 [⟨k, m, ex, t, b, f⟩] ∧ Ext w w' := by
  go_enter Tryz.func36, Tryz.ntmps36
  go_wp2_with (go_at_call 72; refine (valRight_any _ _ _ _ _ _ _ hm ht).mono ?_; rintro e w' ⟨rfl, hb⟩; obtain ⟨os, d, rfl⟩ := hb.more)
  refine bodyPost_ret (v := AV 1 1 (.slice (some ⟨w.heap.size + 1 + 1 + os.size, 0, none⟩) 1 1)) (by simp [results, Tryz.results36, go_sem]) rfl ⟨⟨_, _, rfl, ?_, Nat.le_refl _⟩, by repeat (first | exact Ext.refl _ | apply Ext.drew | apply Ext.alloc | apply Ext.more_)⟩
  exact SlV.one (by simp) (by omega)
theorem valRight_bad (f : Int) (h : 1 ≤ f ∧ f ≤ 9) : valRight (badV f) = true := by
  have hb : badF f = f := by unfold badF; rw [if_neg (by omega)]
  simp [valRight, badV, hb, eqV]
end Go.Proofs.YtmjmijjbijlhfaaGreatDoor
namespace Go.Proofs.YtmjmijjbijlhfaaGreatDoor
open Go.RowKit NM
/-- value.ToNum: the number, and the fault. -/
def tnP (v : Val) : Int × Int := if v.kind = 1 then (v.mant, v.exp) else if v.kind = 2 then (parS v.text).getD (0, 0) else if v.kind = 3 ∧ v.truth = true then (1, 0) else (0, 0)
def tnF (v : Val) : Int := if v.kind = 2 then (if (parS v.text).isSome then 0 else 2) else if v.kind = 4 then v.fault else 0
def bad_ (f : Int) : Val := badV (badF f)
def truthV (b : Bool) : Val := ⟨3, 0, 0, ⟨#[]⟩, b, 0⟩
def Val.right (x : Val) : Prop := valRight x = true
theorem right_num {m e : Int} (h : Rt m e) : Val.right ⟨1, m, e, ⟨#[]⟩, false, 0⟩ := by
  unfold Val.right valRight
  rw [if_neg (show ¬ (1 : Int) = 0 by decide), if_pos rfl, Bool.and_eq_true]
  exact ⟨by rw [numRight_Rt]; exact decide_eq_true h, decide_eq_true rfl⟩
theorem badF_bd (f : Int) : 1 ≤ badF f ∧ badF f ≤ 9 := by unfold badF; split <;> omega
theorem right_bad (f : Int) : (bad_ f).right := valRight_bad _ (badF_bd f)
theorem Val.right.rt {x : Val} (h : x.right) (h1 : x.kind = 1) : Rt x.mant x.exp := by
  have := (right_cases h).2.1 h1
  rw [numRight_Rt] at this
  exact of_decide_eq_true this
/-- What a right value is, written out. -/
theorem Val.right.form {x : Val} (h : x.right) : x = Val.only 0 ∨ (∃ m e, x = ⟨1, m, e, ⟨#[]⟩, false, 0⟩ ∧ Rt m e) ∨ (∃ t, x = ⟨2, 0, 0, t, false, 0⟩ ∧ t.size ≤ 255) ∨ (∃ b, x = truthV b) ∨ (∃ f, x = badV f ∧ 1 ≤ f ∧ f ≤ 9) := by
  have hc := right_cases h
  unfold Val.right valRight at h
  by_cases h0 : x.kind = 0
  · exact Or.inl (hc.1.2 h0)
  · rw [if_neg h0] at h
    by_cases h1 : x.kind = 1
    · rw [if_pos h1, Bool.and_eq_true, numRight_Rt] at h
      exact Or.inr (Or.inl ⟨x.mant, x.exp, of_decide_eq_true h.2, of_decide_eq_true h.1⟩)
    · rw [if_neg h1] at h
      by_cases h2 : x.kind = 2
      · rw [if_pos h2] at h
        have h3 := hc.2.2.1 h2
        refine Or.inr (Or.inr (Or.inl ⟨x.text, ?_, h3⟩))
        have := of_decide_eq_true h
        unfold textV at this
        rw [if_neg (by omega)] at this
        exact this
      · rw [if_neg h2] at h
        by_cases h3 : x.kind = 3
        · rw [if_pos h3] at h
          exact Or.inr (Or.inr (Or.inr (Or.inl ⟨x.truth, of_decide_eq_true h⟩)))
        · rw [if_neg h3] at h
          by_cases h4 : x.kind = 4
          · rw [if_pos h4] at h
            have hf := hc.2.2.2 h4
            refine Or.inr (Or.inr (Or.inr (Or.inr ⟨x.fault, ?_, hf⟩)))
            have := of_decide_eq_true h
            rw [show badF x.fault = x.fault by unfold badF; rw [if_neg (by omega)]] at this
            exact this
          · rw [if_neg h4] at h; cases h
theorem i64_small {n : Int} (h : -1000 ≤ n ∧ n ≤ 1000) : I64 n := by unfold I64; omega
theorem Val.right.ok {x : Val} (h : x.right) : x.ok := by
  have z : I64 0 := i64_small (by decide)
  have s0 : (0 : Nat) ≤ 9223372036854775807 := Nat.zero_le _
  rcases h.form with rfl | ⟨m, e, rfl, hr⟩ | ⟨t, rfl, ht⟩ | ⟨b, rfl⟩ | ⟨f, rfl, hf⟩
  · exact ⟨z, z, z, s0, z⟩
  · obtain ⟨r1, r2⟩ := Rt_i64 hr
    exact ⟨i64_small (n := 1) (by decide), r1, r2, s0, z⟩
  · exact ⟨i64_small (n := 2) (by decide), z, z, Nat.le_trans ht (by decide), z⟩
  · exact ⟨i64_small (n := 3) (by decide), z, z, s0, z⟩
  · exact ⟨i64_small (n := 4) (by decide), z, z, s0, i64_small (n := f) (by omega)⟩
theorem rt_zero : Rt 0 0 := Or.inl ⟨rfl, rfl⟩
theorem par_rt {s : ByteArray} {p : Int × Int} (h : parS s = some p) : Rt p.1 p.2 := by
  unfold parS at h
  by_cases hl : 255 < s.size
  · rw [if_pos hl] at h; cases h
  · rw [if_neg hl] at h
    unfold parM at h
    cases hr : runS (bl s) st0 with
    | none => rw [hr] at h; cases h
    | some S =>
      rw [hr, Option.bind_some] at h
      unfold endS at h
      split at h
      · exact rnd_right h
      · cases h
theorem tn_rt {x : Val} (h : x.right) : Rt (tnP x).1 (tnP x).2 := by
  rcases h.form with rfl | ⟨m, e, rfl, hr⟩ | ⟨t, rfl, ht⟩ | ⟨b, rfl⟩ | ⟨f, rfl, hf⟩
  · exact rt_zero
  · exact hr
  · show Rt ((parS t).getD (0, 0)).1 ((parS t).getD (0, 0)).2
    cases hp : parS t with
    | none => exact rt_zero
    | some p => exact par_rt hp
  · cases b
    · exact rt_zero
    · exact rt_one
  · exact rt_zero
theorem addS_rt {a b c d : Int} {p : Int × Int} (h : addS a b c d = some p) : Rt p.1 p.2 := by
  unfold addS at h
  split at h
  · exact rnd_right h
  · cases h
end Go.Proofs.YtmjmijjbijlhfaaGreatDoor
namespace Go.Proofs.YtmjmijjbijlhfaaGreatDoor
open Go.RowKit Go.Maps Go.WideMaps
/-- An element is held as it is. -/
def tabR (v : Value) : Option (DataW Value × List MemPlace) := some (.held v, [])
abbrev Tab1 := List (List UInt8 × Value)
def tabF (D : DataW Value) (L : Tab1) : DataW Value := L.foldl (fun D p => D.put (.string p.1) (.held p.2)) D
def tabD (L : Tab1) : DataW Value := tabF (.map []) L
def tabAt (L : Tab1) (s : List UInt8) : Option Value := (L.find? fun p => p.1 == s).map (·.2)
theorem tabAt_cons (k : List UInt8) (v : Value) (L : Tab1) (s : List UInt8) : tabAt ((k, v) :: L) s = if k = s then some v else tabAt L s := by
  unfold tabAt
  by_cases h : k = s
  · rw [if_pos h, List.find?_cons_of_pos (by simpa using h)]; rfl
  · rw [if_neg h, List.find?_cons_of_neg (by simpa using h)]
theorem tabAt_none {L : Tab1} {s : List UInt8} (h : ∀ p ∈ L, p.1 ≠ s) : tabAt L s = none := by
  unfold tabAt
  rw [List.find?_eq_none.2 (fun p hp => by simpa using h p hp)]; rfl
theorem tabF_at : ∀ (L : Tab1) (D : DataW Value), IsMap D → L.Pairwise (fun p q => p.1 ≠ q.1) → ∀ (s : List UInt8) (z : DataW Value),
    (tabF D L).atKey (.string s) z = ((tabAt L s).map (fun v => DataW.held v)).getD (D.atKey (.string s) z) ∧ Maps.has (tabF D L) (.string s) = ((tabAt L s).isSome || Maps.has D (.string s))
  | [], D, _, _, s, z => ⟨rfl, rfl⟩
  | (k, v) :: L, D, hD, hp, s, z => by
    obtain ⟨h1, h2⟩ := List.pairwise_cons.1 hp
    have ih := tabF_at L (D.put (.string k) (.held v)) (hD.put _ _) h2 s z
    have e : tabF D ((k, v) :: L) = tabF (D.put (.string k) (.held v)) L := rfl
    rw [e, ih.1, ih.2, tabAt_cons]
    by_cases h : k = s
    · subst h
      rw [if_pos rfl, tabAt_none (fun p hp => (h1 p hp).symm)]
      have hkl : WideAt.IsKeyLit (Lit.string k) := trivial
      exact ⟨atKey_put_same hD hkl _ _, by rw [has_put_same hD hkl]; rfl⟩
    · have hne : Lit.string s ≠ Lit.string k := fun e => h (by injection e with e; exact e.symm)
      rw [if_neg h, atKey_put_other hne, has_put_other hne]
      exact ⟨rfl, rfl⟩
theorem tab_at (L : Tab1) (hp : L.Pairwise (fun p q => p.1 ≠ q.1)) (s : List UInt8) (z : Value) : (tabD L).atKey (.string s) (.held z) = .held ((tabAt L s).getD z) ∧ Maps.has (tabD L) (.string s) = (tabAt L s).isSome := by
  have h := tabF_at L (.map []) isMap_empty hp s (.held z)
  unfold tabD
  refine ⟨h.1.trans ?_, h.2.trans (by rw [show Maps.has (.map [] : DataW Value) (.string s) = false from rfl, Bool.or_false])⟩
  cases tabAt L s <;> rfl
/-- A table in block b. -/
def TabW (P : Program) (k : TypeId) (L : Tab1) (b : Nat) (w : World) : Prop := w.ownsMap P k tabR b L.length (tabD L)
theorem TabW.ext {P : Program} {k : TypeId} {L : Tab1} {b : Nat} {w w' : World} (h : TabW P k L b w) (hx : Ext w w') : TabW P k L b w' :=
  World.ownsMap.kept (row := none) h ⟨hx.os, hx.tape, hx.output, hx.size, fun i hi _ => hx.block hi⟩ (by simp)
theorem tab_run {P : Program} {k t e : TypeId} {L : Tab1} {b : Nat} {w : World} (h : TabW P k L b w) (hk : P.underlying k = some .string) (ht : P.underlying t = some (.map k e)) (hp : L.Pairwise (fun p q => p.1 ≠ q.1)) {z : Value} (hz : (zeroValue e).run P w = .ok z w) (s : ByteArray) (hs : s.size ≤ maxLen) :
    (Instr.lookup t (.map (some b)) (.string s) true).run P w = .ok (.tuple #[(tabAt L s.data.toList).getD z, .bool (tabAt L s.data.toList).isSome]) w := by
  obtain ⟨v, ps, h1, h2⟩ := World.ownsMap.look_ok h (string_keyed hk) ht hz (zd := .held z) (zp := []) rfl (keyOf_string_mk hk hs)
  obtain ⟨e1, e2⟩ := tab_at L hp s.data.toList z
  rw [e1] at h2
  rw [e2] at h1
  unfold tabR at h2
  simp only [Option.some.injEq, Prod.mk.injEq, DataW.held.injEq] at h2
  rw [h1, h2.1]
theorem tab_made (w : World) (P : Program) (k : TypeId) : TabW P k [] w.heap.size (w.alloc (.map #[] 0)) := World.ownsMap_made w P k tabR
/-- One entry more. -/
theorem tab_put {P : Program} {k t e : TypeId} {L : Tab1} {b : Nat} {w : World} (h : TabW P k L b w) (hk : P.underlying k = some .string) (ht : P.underlying t = some (.map k e)) (hn : L.length < maxLen) (s : ByteArray) (hs : s.size ≤ maxLen) (v : Value) :
    ∃ w', (Instr.mapUpdate t (.map (some b)) (.string s) v).run P w = .ok () w' ∧ TabW P k (L ++ [(s.data.toList, v)]) b w' ∧ w.grownBy w' (some b) := by
  obtain ⟨w', h1, h2, h3⟩ := World.ownsMap.update h (string_keyed hk) ht hn (keyOf_string_mk hk hs) (show tabR v = some (.held v, []) from rfl)
  refine ⟨w', h1, ?_, h3⟩
  unfold TabW
  rw [List.length_append]
  have : tabD (L ++ [(s.data.toList, v)]) = (tabD L).put (.string s.data.toList) (.held v) := by unfold tabD tabF; rw [List.foldl_append]; rfl
  rw [this]; exact h2
/-- A literal's entry. -/
theorem wpL_insert {P : Program} {w : World} {ops : Array Oper} {rest : List Oper} {o : Oper} {a : Act} {Q : Exit → Act → World → Prop} (hg : o.guard = none) (m x v : Operand) (t : TypeId) (hop : o.op = Op.insert t m x v)
    (k e : TypeId) (hk : P.underlying k = some .string) (ht : P.underlying t = some (.map k e)) (L : Tab1) (b : Nat) (hm : a.eval m = .map (some b)) (h : TabW P k L b w) (hn : L.length < maxLen) (s : ByteArray) (hx : a.eval x = .string s) (hs : s.size ≤ maxLen) (val : Value) (hv : a.eval v = val)
    (hK : ∀ w', TabW P k (L ++ [(s.data.toList, val)]) b w' → w.grownBy w' (some b) → wpList P ops Q rest (a.put o.dst undef) w') : wpList P ops Q (o :: rest) a w := by
  refine wpList_plain hg fun K' hK' => ?_
  obtain ⟨w', hrun, r1, r2⟩ := tab_put h hk ht hn s hs val
  unfold Oper.wp
  simp [execOp, hop, hm, hx, hv, hrun, Result.andThen]
  exact hK' _ _ (hK w' r1 r2)
/-- A table under way, and the variables that its entries lead to. -/
structure TabS (P : Program) (k : TypeId) (w0 : World) (b : Nat) (L : Tab1) (B : List (Nat × Obj)) (W : World) : Prop where
  tab : TabW P k L b W
  ext : Ext w0 W
  hb : w0.heap.size ≤ b
  box : ∀ p ∈ B, w0.heap.size ≤ p.1 ∧ p.1 ≠ b ∧ W.heap[p.1]? = some p.2
section
variable {P : Program} {k : TypeId} {w0 : World} {b : Nat} {L : Tab1} {B : List (Nat × Obj)} {W W' : World}
theorem TabS.lt (h : TabS P k w0 b L B W) : b < W.heap.size := World.ownsMap.lt h.tab
theorem TabS.put {L' : Tab1} (h : TabS P k w0 b L B W) (ht : TabW P k L' b W') (hg : W.grownBy W' (some b)) : TabS P k w0 b L' B W' := by
  have hbl : ∀ i, i < W.heap.size → i ≠ b → W'.heap[i]? = W.heap[i]? := fun i hi hne => hg.block i hi (fun e => hne (Option.some.inj e))
  refine ⟨ht, ⟨hg.os.trans h.ext.os, hg.tape.trans h.ext.tape, hg.output.trans h.ext.output, Nat.le_trans h.ext.size hg.size, fun i hi => ?_⟩, h.hb, fun p hp => ?_⟩
  · rw [hbl i (Nat.lt_of_lt_of_le hi h.ext.size) (by have := h.hb; omega)]; exact h.ext.block hi
  · obtain ⟨h0, h1, h2⟩ := h.box p hp
    refine ⟨h0, h1, ?_⟩
    rw [hbl _ ?_ h1]; exact h2
    rcases Nat.lt_or_ge p.1 W.heap.size with hl | hl
    · exact hl
    · rw [Array.getElem?_eq_none hl] at h2; cases h2
theorem TabS.later (h : TabS P k w0 b L B W) (hx : Ext W W') : TabS P k w0 b L B W' := by
  refine ⟨h.tab.ext hx, h.ext.trans hx, h.hb, fun p hp => ?_⟩
  obtain ⟨h0, h1, h2⟩ := h.box p hp
  refine ⟨h0, h1, ?_⟩
  rw [hx.block ?_]; exact h2
  rcases Nat.lt_or_ge p.1 W.heap.size with hl | hl
  · exact hl
  · rw [Array.getElem?_eq_none hl] at h2; cases h2
theorem TabS.new (h : TabS P k w0 b L B W) {o : Obj} (hx : Ext W W') (ho : W'.heap[W.heap.size]? = some o) : TabS P k w0 b L (B ++ [(W.heap.size, o)]) W' := by
  have h' := h.later hx
  refine ⟨h'.tab, h'.ext, h.hb, fun p hp => ?_⟩
  rcases List.mem_append.1 hp with hp | hp
  · exact h'.box p hp
  · obtain rfl := List.mem_singleton.1 hp
    exact ⟨h.ext.size, by have := h.lt; show W.heap.size ≠ b; omega, ho⟩
theorem TabS.start (w : World) (P : Program) (k : TypeId) : TabS P k w w.heap.size [] [] (w.alloc (.map #[] 0)) :=
  ⟨tab_made w P k, (Ext.refl _).alloc _, Nat.le_refl _, fun p hp => by cases hp⟩
end
end Go.Proofs.YtmjmijjbijlhfaaGreatDoor
namespace Go.Proofs.YtmjmijjbijlhfaaGreatDoor
open Go.RowKit
/-- An array's values in blocks from base on. -/
structure ArrN (base : Nat) (w : World) (A : Option Addr) (n cap : Nat) (l : List Val) : Prop where
  rd : SlV base w A l
  len : l.length = n
  cap : n ≤ cap
  small : n ≤ 9223372036854775807
  ok : ∀ x ∈ l, x.ok
theorem ArrN.arr {base : Nat} {w : World} {A : Option Addr} {n cap : Nat} {l : List Val} (h : ArrN base w A n cap l) : ArrIn w A n cap l := ⟨Rd.mono h.rd (Nat.zero_le _), h.len, h.cap, h.small, h.ok⟩
abbrev fn0 (fid : FuncId) : Value := .func (.func fid) #[] #[]
abbrev fn1 (fid : FuncId) (p : Nat) : Value := .func (.func fid) #[] #[.pointer (some ⟨p, 0, none⟩)]
/-- A look into the table. -/
theorem wpL_look {P : Program} {w : World} {ops : Array Oper} {rest : List Oper} {o : Oper} {a : Act} {Q : Exit → Act → World → Prop} (hg : o.guard = none) (m x : Operand) (t : TypeId) (hop : o.op = Op.lookup t m x true)
    (k e : TypeId) (hk : P.underlying k = some .string) (ht : P.underlying t = some (.map k e)) (L : Tab1) (b : Nat) (hm : a.eval m = .map (some b)) (h : TabW P k L b w) (hp : L.Pairwise (fun p q => p.1 ≠ q.1)) (z : Value) (hz : (zeroValue e).run P w = .ok z w) (s : ByteArray) (hx : a.eval x = .string s) (hs : s.size ≤ maxLen)
    (v : Value) (ok : Bool) (hv : (tabAt L s.data.toList).getD z = v) (hok : (tabAt L s.data.toList).isSome = ok) (hK : wpList P ops Q rest (a.put o.dst (.tuple #[v, .bool ok])) w) : wpList P ops Q (o :: rest) a w := by
  refine wpList_plain hg fun K' hK' => ?_
  have hrun := tab_run h hk ht hp hz s hs
  rw [hv, hok] at hrun
  unfold Oper.wp
  simp [execOp, hop, hm, hx, hrun, Result.andThen]
  exact hK' _ _ hK
end Go.Proofs.YtmjmijjbijlhfaaGreatDoor
namespace Go.Proofs.YtmjmijjbijlhfaaGreatDoor
open Go.RowKit
theorem neq_val (k1 m1 e1 f1 k2 m2 e2 f2 : Int) (t1 t2 : ByteArray) (b1 b2 : Bool) (w : World) : (binOp .neq 43 (VV k1 m1 e1 t1 b1 f1) (VV k2 m2 e2 t2 b2 f2)).run Tryz.prog w = .ok (.bool (!eqV ⟨k1, m1, e1, t1, b1, f1⟩ ⟨k2, m2, e2, t2, b2, f2⟩)) w := by
  have ht : (t1.toList = t2.toList) ↔ t1 = t2 := ⟨fun h => by
    cases t1; cases t2
    rename_i a b
    have : a.toList = b.toList := by simpa [ByteArray.toList_eq] using h
    simpa using this, fun h => by rw [h]⟩
  simp only [VV, eqV]
  simp [go_sem, ht]
  by_cases h1 : k1 = k2 <;> simp [h1]
  by_cases h2 : m1 = m2 <;> simp [h2]
  by_cases h3 : e1 = e2 <;> simp [h3]
  by_cases h4 : t1 = t2 <;> simp [h4]
  by_cases h5 : b1 = b2 <;> simp [h5]
  by_cases h6 : f1 = f2 <;> simp [h6]
/-- The first k values are alike. -/
def alike (k : Nat) (l l' : List Val) : Prop := ∀ j x y, j < k → l[j]? = some x → l'[j]? = some y → x = y
theorem alike_all {n : Nat} {l l' : List Val} (h1 : l.length = n) (h2 : l'.length = n) (h : alike n l l') : l = l' := by
  apply List.ext_getElem?
  intro i
  by_cases hi : i < n
  · have := h i l[i] l'[i] hi (List.getElem?_eq_getElem _) (List.getElem?_eq_getElem _)
    rw [List.getElem?_eq_getElem (by omega), List.getElem?_eq_getElem (by omega), this]
  · rw [List.getElem?_eq_none (by omega), List.getElem?_eq_none (by omega)]
theorem alike_succ {k : Nat} {l l' : List Val} {x : Val} (h : alike k l l') (hx : l[k]? = some x) (hy : l'[k]? = some x) : alike (k + 1) l l' := by
  intro j a b hj ha hb
  by_cases hjk : j = k
  · subst hjk
    rw [hx] at ha; rw [hy] at hb
    simp_all
  · exact h j a b (by omega) ha hb
def sameA (r c : Int) (l : List Val) (r' c' : Int) (l' : List Val) : Bool := r == r' && c == c' && decide (l = l')
set_option maxHeartbeats 400000 in
theorem refSame_any (r c r' c' : Int) (A B : Option Addr) (n cap n' cap' : Nat) (l l' : List Val) (w : World) (h : ArrIn w A n cap l) (h' : ArrIn w B n' cap' l') :
    Calls Tryz.prog 17 #[AV r c (.slice A n cap), AV r' c' (.slice B n' cap')] w fun e w' => e = .returned (.bool (sameA r c l r' c' l')) ∧ Ext w w' := by
  have hsm := h.small
  have hsm' := h'.small
  generalize hR : sameA r c l r' c' l' = R
  have HR := Lib.hid hR
  clear hR
  have hneq := neq_val
  go_enter Tryz.func17, Tryz.ntmps17
  go_upto_region 1 with (fail)
  refine wp_region_lit ?_
  iterate 6 ((refine wpL_read (v := ?_) rfl ?_ ?_; rotate_left 1; (go_simp; first | done | rfl)); try simp only [Act.put, zqA, zqB, zqC])
  iterate 5 ((refine wpL_gread (v := ?_) (c := ?_) rfl rfl rfl ?_ (fun hc => ?_) ?_; rotate_left 2; (first | exact gc_t _ | exact gc_f _ | exact gc_gt _ _ | exact gc_gf _ _); ((try simp only [gv_of hc]); (try (have hc1 := and_l hc; (try simp only [gv_of hc1]); (try (have hc2 := and_l hc1; (try simp only [gv_of hc2]))))); go_simp; first | done | rfl)); try simp only [Act.put, zqA, zqB, zqC])
  first | (refine wpL_pick_and rfl rfl rfl rfl rfl ?_) | (refine wpL_pick_or rfl rfl rfl rfl rfl ?_)
  try simp only [Act.put, zqA, zqB, zqC]
  (refine wpL_read (v := ?_) rfl ?_ ?_; rotate_left 1; (go_simp; first | done | rfl))
  try simp only [Act.put, zqA, zqB, zqC]
  iterate 7 ((refine wpL_gread (v := ?_) (c := ?_) rfl rfl rfl ?_ (fun hc => ?_) ?_; rotate_left 2; (first | exact gc_t _ | exact gc_f _ | exact gc_gt _ _ | exact gc_gf _ _); ((try simp only [gv_of hc]); (try (have hc1 := and_l hc; (try simp only [gv_of hc1]); (try (have hc2 := and_l hc1; (try simp only [gv_of hc2]))))); go_simp; first | done | rfl)); try simp only [Act.put, zqA, zqB, zqC])
  first | (refine wpL_pick_and rfl rfl rfl rfl rfl ?_) | (refine wpL_pick_or rfl rfl rfl rfl rfl ?_)
  try simp only [Act.put, zqA, zqB, zqC]
  refine wpList_nil ?_
  try go_simp
  go_wp2
  · rename_i hbad
    go_ret
    refine ⟨ret_bool ?_, by repeat (first | exact Ext.refl _ | apply Ext.drew | apply Ext.alloc | apply Ext.more_)⟩
    rw [← HR.out]
    symm
    simp only [bne_iff_ne, ne_eq] at hbad
    rcases hbad with (hb | hb) | hb
    · simp [sameA, hb]
    · simp [sameA, hb]
    · have : ¬ l = l' := by rintro rfl; exact hb (by rw [← h.len, ← h'.len])
      simp [sameA, this]
  · rename_i hgood _ _
    simp only [bne_eq_false_iff_eq] at hgood
    obtain ⟨⟨g1, g2⟩, g3⟩ := hgood
    obtain rfl : n = n' := by omega
    have HR' : Hid (R = decide (l = l')) := by show _ = _; rw [← HR.out, g1, g2]; simp [sameA]
    clear g1 g2 g3
    go_loopw [5] (fun i wr => ∃ k : Nat, k ≤ n ∧ i = .int .i64 k ∧ Ext ((w.alloc (Obj.cells #[.int .i64 r, .int .i64 c, .slice A n cap] 31)).alloc (Obj.cells #[.int .i64 r', .int .i64 c', .slice B n cap'] 31)) wr ∧ Hid (alike k l l')) (fun i _ => n - (intOf i).toNat)
    case atStart => exact ⟨0, Nat.zero_le _, rfl, Ext.refl _, fun j x y hj => absurd hj (Nat.not_lt_zero _)⟩
    case round =>
      obtain ⟨k, hk, rfl, hX, H⟩ := hrel
      obtain ⟨os, d, rfl⟩ := hX.more
      by_cases hlt : k < n
      · obtain ⟨x, b, off, hx, hxo, rfl, hv⟩ := h.at hlt; obtain ⟨v0, v1, v2, v3, v4, v5⟩ := hv; have hbl : b < w.heap.size := lt_of_cell v0
        obtain ⟨y, b', off', hy, hyo, rfl, hv'⟩ := h'.at hlt; obtain ⟨u0, u1, u2, u3, u4, u5⟩ := hv'; have hbl' : b' < w.heap.size := lt_of_cell u0
        by_cases hxy : eqV x y = true
        · go_wp2
          refine wp_plan (S := Ext _) [(0, 0), (1, 0), (2, 0), (3, 0), (4, 0), (5, 0), (6, 0), (7, 0), (8, 0), (9, 0), (10, 0)] [] (by kernel_rfl) (by kernel_rfl) (by kernel_rfl) (fun _ _ d _ _ h => by cases d <;> exact h) (Ext.drew (Ext.refl _)) ?_
          iterate 11 ((refine wpPl_read (v := ?_) rfl ?_ (fun _ h => ?_) ?_; rotate_left 1; rfl; (obtain ⟨_, _, rfl⟩ := h.more; go_simp; try rfl)); try simp only [Act.put, zqA, zqB, zqC])
          refine wpPl_nil ?_
          go_wp2
          refine ⟨⟨k + 1, by omega, by go_num, by repeat (first | exact Ext.refl _ | apply Ext.drew | apply Ext.alloc | apply Ext.more_), ?_⟩, by simp [intOf]; omega⟩
          obtain rfl : x = y := by simpa [eqV] using hxy
          exact alike_succ H.out hx hy
        · have hxy' : eqV x y = false := by simpa using hxy
          have hR : R = false := by
            rw [HR'.out]
            simp only [decide_eq_false_iff_not]
            rintro rfl
            rw [hx] at hy
            simp [eqV] at hxy
            exact hxy (by simpa using hy)
          have HR2 := Lib.hid hR
          clear hR hxy
          go_wp2
          refine wp_plan (S := Ext _) [(0, 0), (1, 0), (2, 0), (3, 0), (4, 0), (5, 0), (6, 0), (7, 0), (8, 0), (9, 0), (10, 0)] [] (by kernel_rfl) (by kernel_rfl) (by kernel_rfl) (fun _ _ d _ _ h => by cases d <;> exact h) (Ext.drew (Ext.refl _)) ?_
          iterate 11 ((refine wpPl_read (v := ?_) rfl ?_ (fun _ h => ?_) ?_; rotate_left 1; rfl; (obtain ⟨_, _, rfl⟩ := h.more; go_simp; try rfl)); try simp only [Act.put, zqA, zqB, zqC])
          refine wpPl_nil ?_
          go_wp2
          go_ret
          exact ⟨ret_bool HR2.out.symm, by repeat (first | exact Ext.refl _ | apply Ext.drew | apply Ext.alloc | apply Ext.more_)⟩
      · have hR : R = true := by
          rw [HR'.out]
          simp only [decide_eq_true_eq]
          obtain rfl : k = n := by omega
          exact alike_all h.len h'.len H.out
        have HR2 := Lib.hid hR
        clear hR
        go_wp2
        go_ret
        exact ⟨ret_bool HR2.out.symm, by repeat (first | exact Ext.refl _ | apply Ext.drew | apply Ext.alloc | apply Ext.more_)⟩
end Go.Proofs.YtmjmijjbijlhfaaGreatDoor
namespace Go.Proofs.YtmjmijjbijlhfaaGreatDoor
open Go.RowKit
theorem info_val : (Tryz.prog.info? 43).map (fun i => (i.zero, i.size, i.bytes)) = some (some (VV 0 0 0 ⟨#[]⟩ false 0), 6, 56) := by kernel_rfl
set_option maxHeartbeats 400000 in
theorem clone_any (A : Option Addr) (n cap : Nat) (l : List Val) (w : World) (h : ArrIn w A n cap l) (hn : 0 < n) (hn' : n ≤ 65536) :
    Calls Tryz.prog 49 #[.slice A n cap] w fun e w' => ∃ A' c', e = .returned (.slice A' n c') ∧ SlV w.heap.size w' A' l ∧ n ≤ c' ∧ Ext w w' := by
  obtain ⟨i0, hi, hz0, hz1, hz2⟩ := info_parts info_val
  obtain ⟨x, b, off, hx, hxo, rfl, hv⟩ := h.at hn
  have hnil := fun (w : World) (a : Option Addr) (n c n' c' : Nat) => Lib.run_eql_slice_nil (P := Tryz.prog) w 29 43 a n c n' c' Tryz.underlying29
  have hvl : (vcells l).length = n * 6 := by rw [vcells_length, h.len]
  have HV := Lib.hid hvl
  clear hvl
  go_enter Tryz.func49, Tryz.ntmps49
  go_wp2_with (at_builtin; refine wpList_append_full _ rfl _ _ _ rfl 43 i0 (VV 0 0 0 ⟨#[]⟩ false 0) 6 56 Tryz.underlying29 hi hz0 hz1 hz2 rfl (by decide) w.heap.size _ 0 [] rfl (fun _ => rfl) rfl (Rd.nil _ _ _) (by simp) (some ⟨b, off, none⟩) n cap (vcells l) rfl HV.out (Rd.ext h.rd (by repeat (first | exact Ext.refl _ | apply Ext.alloc))) vcells_one (by simp [maxLen]; omega) (by omega) ?_; intro A' c' os d hr _ hc')
  go_ret
  exact ⟨A', c', rfl, (by simp only [List.nil_append] at hr; exact hr), by omega, by repeat (first | exact Ext.refl _ | apply Ext.drew | apply Ext.alloc | apply Ext.more_)⟩
end Go.Proofs.YtmjmijjbijlhfaaGreatDoor
namespace Go.Proofs.YtmjmijjbijlhfaaGreatDoor
open Go.RowKit
/-- Memory but for the blocks of one call of build. -/
structure Keep (s0 : Nat) (W W' : World) : Prop where
  os : W'.os = W.os
  tape : W'.tape = W.tape
  output : W'.output = W.output
  size : W.heap.size ≤ W'.heap.size
  block : ∀ b, b < W.heap.size → b ≠ s0 → b ≠ s0 + 1 → b ≠ s0 + 1 + 1 → W'.heap[b]? = W.heap[b]?
/-- The blocks of one call of build. -/
structure Leaves (s0 : Nat) (W W' : World) : Prop where
  size : W.heap.size ≤ W'.heap.size
  b0 : W'.heap[s0]? = W.heap[s0]?
  b1 : W'.heap[s0 + 1]? = W.heap[s0 + 1]?
  b2 : W'.heap[s0 + 1 + 1]? = W.heap[s0 + 1 + 1]?
theorem Keep.refl (s0 : Nat) (W : World) : Keep s0 W W := ⟨rfl, rfl, rfl, Nat.le_refl _, fun _ _ _ _ _ => rfl⟩
theorem Keep.trans {s0 : Nat} {a b c : World} (h : Keep s0 a b) (k : Keep s0 b c) : Keep s0 a c :=
  ⟨k.os.trans h.os, k.tape.trans h.tape, k.output.trans h.output, Nat.le_trans h.size k.size, fun i hi h0 h1 h2 => (k.block i (Nat.lt_of_lt_of_le hi h.size) h0 h1 h2).trans (h.block i hi h0 h1 h2)⟩
theorem Keep.of_ext {s0 : Nat} {a b : World} (h : Ext a b) : Keep s0 a b := ⟨h.os, h.tape, h.output, h.size, fun _ hi _ _ _ => h.block hi⟩
theorem Keep.of_grown {s0 : Nat} {a b : World} (h : a.grownBy b (some (s0 + 1))) : Keep s0 a b := ⟨h.os, h.tape, h.output, h.size, fun i hi _ h1 _ => h.block i hi (fun e => h1 (by simpa using e))⟩
theorem Keep.of_set {s0 : Nat} (a : World) {p : Addr} (v : Value) (hp : p.block = s0 ∨ p.block = s0 + 1 ∨ p.block = s0 + 1 + 1) : Keep s0 a (a.setCell p v) :=
  ⟨rfl, rfl, rfl, by simp [World.setCell], fun i hi h0 h1 h2 => Below.heap_setCell _ _ _ _ (by omega)⟩
theorem Keep.drew {s0 : Nat} {a b : World} (h : Keep s0 a b) : Keep s0 a b.drew := ⟨h.os, h.tape, h.output, h.size, h.block⟩
theorem Leaves.of_ext {s0 : Nat} {a b : World} (h : Ext a b) (hs : s0 + 3 ≤ a.heap.size) : Leaves s0 a b := ⟨h.size, h.block (by omega), h.block (by omega), h.block (by omega)⟩
/-- What stands in memory behind k calls. -/
structure BSt (s0 R C N k : Nat) (l : List Val) (wr : World) : Prop where
  size : s0 + 3 ≤ wr.heap.size
  b0 : wr.heap[s0]? = some (.cells #[.int .i64 0, .int .i64 0, .slice none 0 0] 31)
  b2 : wr.heap[s0 + 1 + 1]? = some (.cells #[.int .i64 R, .int .i64 C, .slice (some ⟨s0 + 1, 0, none⟩) k N] 31)
  own : wr.ownsRow (s0 + 1) 43 6 (.slice (some ⟨s0 + 1, 0, none⟩) k N) k (vcells l)
def vals (g : Nat → Nat → Val) (C k : Nat) : List Val := (List.range k).map fun t => g (t / C) (t % C)
theorem vals_succ (g : Nat → Nat → Val) (C i j : Nat) (hj : j < C) : vals g C (i * C + j + 1) = vals g C (i * C + j) ++ [g i j] := by
  unfold vals
  rw [List.range_succ, List.map_append]
  have h1 : (i * C + j) / C = i := by rw [Nat.add_comm, Nat.add_mul_div_right _ _ (by omega), Nat.div_eq_of_lt hj]; omega
  have h2 : (i * C + j) % C = j := by rw [Nat.add_comm, Nat.add_mul_mod_self_right, Nat.mod_eq_of_lt hj]
  simp [h1, h2]
theorem vals_length (g : Nat → Nat → Val) (C k : Nat) : (vals g C k).length = k := by simp [vals]
theorem BSt.step {s0 R C N k : Nat} {l : List Val} {x : Val} {wr w1 w3 : World} {ty : TypeId} (h : BSt s0 R C N k l wr) (hl : Leaves s0 wr w1) (hg : (w1.alloc (.cells x.cells.toArray ty)).grownBy w3 (some (s0 + 1)))
    (ho : w3.ownsRow (s0 + 1) 43 6 (.slice (some ⟨s0 + 1, 0, none⟩) (k + 1) N) (k + 1) (vcells l ++ x.cells)) :
    BSt s0 R C N (k + 1) (l ++ [x]) (w3.setCell ⟨s0 + 1 + 1, 2, none⟩ (.slice (some ⟨s0 + 1, 0, none⟩) (k + 1) N)) := by
  have hs1 := hl.size
  have hs := h.size
  have hz : (w1.alloc (.cells x.cells.toArray ty)).heap.size = w1.heap.size + 1 := by simp
  have hs3 := hg.size
  have hb : ∀ b, b < w1.heap.size → b ≠ s0 + 1 → w3.heap[b]? = w1.heap[b]? := fun b hb hn => (hg.block b (by omega) (by simpa using hn)).trans (Below.heap_alloc _ _ _ hb)
  refine ⟨by simp [World.setCell]; omega, ?_, ?_, ?_⟩
  · rw [Below.heap_setCell _ _ _ _ (by simp only; omega), hb s0 (by omega) (by omega), hl.b0, h.b0]
  · have h2 : w3.heap[s0 + 1 + 1]? = some (.cells #[.int .i64 R, .int .i64 C, .slice (some ⟨s0 + 1, 0, none⟩) k N] 31) := by rw [hb (s0 + 1 + 1) (by omega) (by omega), hl.b2, h.b2]
    simp [World.setCell, Array.getElem?_modify, h2]
  · have : vcells (l ++ [x]) = vcells l ++ x.cells := by simp [vcells]
    rw [this]
    exact ho.kept (row := some (s0 + 1 + 1)) ⟨rfl, rfl, rfl, by simp [World.setCell], fun b hb hne => Below.heap_setCell _ _ _ _ (fun e => hne (by simp [e]))⟩ (.inr (by simp [Value.ownBlock]))
end Go.Proofs.YtmjmijjbijlhfaaGreatDoor
namespace Go.Proofs.YtmjmijjbijlhfaaGreatDoor
open Go.RowKit
theorem wp_append_fits {P : Program} (w : World) {o : Oper} {a : Act} {K : Act → World → Prop} {Q : Exit → Act → World → Prop} (s x : Operand) (t : TypeId)
    (ho : o.op = .call { callee := .builtin .append, args := #[s, x], argTypes := #[t, t] })
    (base : Nat) (e : TypeId) (i : TypeInfo) (size : Nat) (ht : P.underlying t = some (.slice e)) (hi : P.info? e = some i) (hsize : i.size = size)
    (g n cap : Nat) (xs : List Value) (hs : a.eval s = .slice (some ⟨g, 0, none⟩) n cap) (hown : w.ownsRow base e size (.slice (some ⟨g, 0, none⟩) n cap) n xs)
    (ad : Addr) (m c : Nat) (news : List Value) (hx : a.eval x = .slice (some ad) m c) (hl : news.length = m * size) (hnews : ∀ j u, news[j]? = some u → w.cell? (ad.add j) = some u) (h1 : ∀ u ∈ news, u.oneCell' = true)
    (hroom : n + m ≤ cap)
    (h : ∀ w', w'.ownsRow base e size (.slice (some ⟨g, 0, none⟩) (n + m) cap) (n + m) (xs ++ news) → w.grownBy w' (some g) → K (a.put o.dst (.slice (some ⟨g, 0, none⟩) (n + m) cap)) w') : o.wp P a w K Q := by
  obtain ⟨w', hr, h2, h3⟩ := run_append_fits (P := P) w base t o.type e i size ht hi hsize g n cap xs hown ad m c news hl hnews h1 hroom
  unfold Oper.wp execOp
  simp only [ho, resolve, invoke, builtin, Sem.run_bind, Sem.run_pure, Result.andThen_ok, List.map_toArray, List.map_cons, List.map_nil, hs, hx, hr]
  exact h w' h2 h3
theorem BSt.start {w : World} {R C : Nat} (N : Nat) (hN : N ≤ 4096) :
    BSt w.heap.size R C N 0 [] (((w.alloc (Obj.cells #[.int .i64 0, .int .i64 0, .slice none 0 0] 31)).alloc (Obj.cells (madeCells #[.int .i64 0, .int .i64 0, .int .i64 0, .string ⟨#[]⟩, .bool false, .int .i64 0] (N * 6)) 43)).alloc (Obj.cells #[.int .i64 R, .int .i64 C, .slice (some ⟨w.heap.size + 1, 0, none⟩) 0 N] 31)) := by
  refine ⟨by simp, ?_, ?_, ?_⟩
  · rw [Below.heap_alloc _ _ _ (by simp; omega), Below.heap_alloc _ _ _ (by simp), heap_alloc_new]
  · have := heap_alloc_new ((w.alloc (Obj.cells #[.int .i64 0, .int .i64 0, .slice none 0 0] 31)).alloc (Obj.cells (madeCells #[.int .i64 0, .int .i64 0, .int .i64 0, .string ⟨#[]⟩, .bool false, .int .i64 0] (N * 6)) 43)) (Obj.cells #[.int .i64 R, .int .i64 C, .slice (some ⟨w.heap.size + 1, 0, none⟩) 0 N] 31)
    simpa using this
  · refine World.ownsRow.alloc ?_ _
    have := World.ownsRow_made (base := w.heap.size + 1) (e := 43) (size := 6) (w.alloc (Obj.cells #[.int .i64 0, .int .i64 0, .slice none 0 0] 31)) (madeCells #[.int .i64 0, .int .i64 0, .int .i64 0, .string ⟨#[]⟩, .bool false, .int .i64 0] (N * 6)) N (by simp) (by simp only [maxLen]; omega) (by rw [size_madeCells])
    simpa [vcells] using this
theorem BSt.own_later {s0 R C N k : Nat} {l : List Val} {wr w1 : World} (h : BSt s0 R C N k l wr) (hl : Leaves s0 wr w1) (o : Obj) : (w1.alloc o).ownsRow (s0 + 1) 43 6 (.slice (some ⟨s0 + 1, 0, none⟩) k N) k (vcells l) := by
  refine World.ownsRow.alloc ?_ _
  obtain ⟨h1, h2⟩ := h.own
  refine ⟨h1, ?_⟩
  rcases h2 with ⟨h2, _⟩ | ⟨g, cap, cur, hv, hg, hh, r⟩
  · simp at h2
  · simp only [Value.slice.injEq, Option.some.injEq, Addr.mk.injEq, and_true, true_and] at hv
    obtain ⟨rfl, rfl⟩ := hv
    exact .inr ⟨s0 + 1, N, cur, rfl, hg, hl.b1.trans hh, r⟩
theorem Keep.three (s0 : Nat) (a : World) (u v x : Value) : Keep s0 a (((a.setCell ⟨s0, 0, none⟩ u).setCell ⟨s0, 1, none⟩ v).setCell ⟨s0, 2, none⟩ x) :=
  ((Keep.of_set (s0 := s0) a (p := ⟨s0, 0, none⟩) u (.inl rfl)).trans (Keep.of_set (s0 := s0) _ (p := ⟨s0, 1, none⟩) v (.inl rfl))).trans (Keep.of_set (s0 := s0) _ (p := ⟨s0, 2, none⟩) x (.inl rfl))
theorem Rd.set_far {base : Nat} {w : World} {A : Option Addr} {cs : List Value} (h : Rd base w A cs) {p : Addr} (v : Value) (hp : p.block < base) : Rd base (w.setCell p v) A cs :=
  h.blocks fun b hb => Below.heap_setCell _ _ _ _ (by omega)
theorem new_cells (w : World) (cs : List Value) (ty : TypeId) : ∀ j u, cs[j]? = some u → (w.alloc (.cells cs.toArray ty)).cell? ((⟨w.heap.size, 0, none⟩ : Addr).add j) = some u := fun j u hu => by
  rw [Addr.add_mid, World.cell?_alloc_at _ _ _ _ rfl]
  simpa using hu
theorem cells_one (x : Val) : ∀ u ∈ x.cells, u.oneCell' = true := by
  intro u hu
  simp only [Val.cells, List.mem_cons, List.not_mem_nil, or_false] at hu
  rcases hu with rfl | rfl | rfl | rfl | rfl | rfl <;> rfl
set_option maxHeartbeats 1000000 in
theorem build_any (R C : Nat) (cl : FuncId) (capt : Array Value) (g : Nat → Nat → Val) (w : World) (J : Nat → World → Prop) (hR : 1 ≤ R) (hC : 1 ≤ C) (hN : R * C ≤ 4096) (hR' : R ≤ 4096) (hC' : C ≤ 4096)
    (hent : ∀ (args : Array Value) (W : World), (callFunc cl args).run Tryz.prog W = .ok (.enter cl args) W) (hJ0 : J 0 w) (hJ : ∀ k W W', Keep w.heap.size W W' → J k W → J k W')
    (hcall : ∀ i j W, i < R → j < C → J (i * C + j) W → w.heap.size + 3 ≤ W.heap.size →
      Calls Tryz.prog cl (#[.int .i64 i, .int .i64 j] ++ capt) W fun e W' => e = .returned (VV (g i j).kind (g i j).mant (g i j).exp (g i j).text (g i j).truth (g i j).fault) ∧ J (i * C + j + 1) W' ∧ Leaves w.heap.size W W') :
    Calls Tryz.prog 89 #[.int .i64 R, .int .i64 C, .func (.func cl) #[] capt] w fun e w' => ∃ A c, e = .returned (AV R C (.slice A (R * C) c)) ∧ SlV w.heap.size w' A (vals g C (R * C)) ∧ R * C ≤ c ∧ J (R * C) w' := by
  obtain ⟨i0, hi, hz0, hz1, hz2⟩ := info_parts info_val
  have hw : IntKind.i64.wrap ((R : Int) * (C : Int)) = ((R * C : Nat) : Int) := by rw [IntKind.wrap_i64, Int.natCast_mul]; omega
  have hmk : ∀ (N : Nat) (W : World), N ≤ 4096 → (Instr.makeSlice 29 (.int .i64 0) (.int .i64 (N : Int))).run Tryz.prog W = .ok (.slice (some ⟨W.heap.size, 0, none⟩) 0 N) (W.alloc (.cells (madeCells (VV 0 0 0 ⟨#[]⟩ false 0).cells (N * 6)) 43)) := fun N W hN => by
    have := run_make (P := Tryz.prog) W 29 43 i0 _ Tryz.underlying29 hi hz0 .i64 .i64 0 (N : Int) (by omega) (by omega) (by rw [hz2]; omega) (by omega)
    simpa [hz1] using this
  generalize hNN : R * C = N at *
  have hmk' := fun W => hmk N W hN
  clear hmk
  have HN := Lib.hid hNN
  clear hNN
  have HC := Lib.hid hcall
  clear hcall
  have HJ := Lib.hid hJ
  clear hJ
  go_enter Tryz.func89, Tryz.ntmps89
  go_wp2
  have hst0 := BSt.start (w := w) (R := R) (C := C) N hN
  have hj0 : J 0 (((w.alloc (Obj.cells #[.int .i64 0, .int .i64 0, .slice none 0 0] 31)).alloc (Obj.cells (madeCells #[.int .i64 0, .int .i64 0, .int .i64 0, .string ⟨#[]⟩, .bool false, .int .i64 0] (N * 6)) 43)).alloc (Obj.cells #[.int .i64 R, .int .i64 C, .slice (some ⟨w.heap.size + 1, 0, none⟩) 0 N] 31)) := HJ.out 0 w _ (Keep.of_ext (by repeat (first | exact Ext.refl _ | apply Ext.drew | apply Ext.alloc | apply Ext.more_))) hJ0
  go_loopw [18] (fun i wr => ∃ r : Nat, r ≤ R ∧ i = .int .i64 r ∧ BSt w.heap.size R C N (r * C) (vals g C (r * C)) wr ∧ Hid (J (r * C) wr)) (fun i _ => R - (intOf i).toNat)
  case atStart => exact ⟨0, Nat.zero_le _, rfl, by simpa [vals] using hst0, by show J _ _; simpa using hj0⟩
  case round =>
    clear hst0 hj0
    obtain ⟨r, hr, rfl, hst, HJr⟩ := hrel
    by_cases hlt : r < R
    · go_wp2
      obtain ⟨wo, rfl⟩ : ∃ wo : World, wo = wr := ⟨_, rfl⟩
      go_loopw [22] (fun i wr => ∃ j : Nat, j ≤ C ∧ i = .int .i64 j ∧ BSt w.heap.size R C N (r * C + j) (vals g C (r * C + j)) wr ∧ Hid (J (r * C + j) wr)) (fun i _ => C - (intOf i).toNat)
      case atStart => exact ⟨0, Nat.zero_le _, rfl, by simpa using hst, by show J _ _; simpa using HJr.out⟩
      case round =>
        clear hst HJr
        obtain ⟨j, hj, rfl, hst, HJr⟩ := hrel
        by_cases hjt : j < C
        · go_wp2
          have hkN : r * C + j < N := by
            rw [← HN.out]
            have : (r + 1) * C ≤ R * C := Nat.mul_le_mul_right C hlt
            rw [Nat.succ_mul] at this
            omega
          refine wp_plan (S := fun W => W.heap[w.heap.size + 1 + 1]? = some (.cells #[.int .i64 R, .int .i64 C, .slice (some ⟨w.heap.size + 1, 0, none⟩) (r * C + j) N] 31)) [(0, 0), (1, 0), (2, 0), (3, 0), (4, 0), (5, 1), (6, 1), (7, 1), (8, 0), (9, 2)] [9] (by kernel_rfl) (by kernel_rfl) (by kernel_rfl) (fun _ _ d _ _ h => by cases d <;> exact h) hst.b2 ?_
          (refine wpPl_read (v := ?_) rfl ?_ (fun w1 h1 => ?_) ?_; rotate_left 1; rfl; (go_simp; first | done | rfl))
          try simp only [Act.put, zqA, zqB, zqC]
          (refine wpPl_read (v := ?_) rfl ?_ (fun w1 h1 => ?_) ?_; rotate_left 1; rfl; (have h2 := cell_of_row _ _ 2 _ _ _ h1; clear h1; go_simp; first | done | rfl))
          try simp only [Act.put, zqA, zqB, zqC]
          iterate 3 ((refine wpPl_read (v := ?_) rfl ?_ (fun w1 h1 => ?_) ?_; rotate_left 1; rfl; (clear h1; go_simp; first | done | rfl)); try simp only [Act.put, zqA, zqB, zqC])
          (refine wpPl_eff rfl ?_ (fun K hK => ?_); rfl; go_simp)
          refine (HC.out r j _ hlt hjt (HJ.out _ _ _ ((Keep.refl _ _).drew) HJr.out) hst.size).mono ?_
          rintro e w1 ⟨rfl, hJ1, hL1⟩
          have hL : Leaves w.heap.size wr w1 := ⟨hL1.size, hL1.b0, hL1.b1, hL1.b2⟩
          refine hK _ _ (hL.b2.trans hst.b2) ?_
          try simp only [Act.put, zqA, zqB, zqC]
          (refine wpPl_eff rfl ?_ (fun K hK => ?_); rfl; go_simp)
          refine hK _ _ ((Below.heap_alloc _ _ _ (by have := hL.size; have := hst.size; omega)).trans (hL.b2.trans hst.b2)) ?_
          try simp only [Act.put, zqA, zqB, zqC]
          (refine wpPl_eff rfl ?_ (fun K hK => ?_); rfl)
          refine wp_append_fits _ _ _ _ rfl (w.heap.size + 1) 43 i0 6 Tryz.underlying29 hi hz1 (w.heap.size + 1) (r * C + j) N (vcells (vals g C (r * C + j))) rfl (hst.own_later hL _) ⟨w1.heap.size, 0, none⟩ 1 1 (g r j).cells rfl rfl (new_cells _ _ _) (cells_one _) (by omega) ?_
          intro w3 ho3 hg3
          refine hK _ _ ((hg3.block _ (by have := hL.size; have := hst.size; simp; omega) (by simp)).trans ((Below.heap_alloc _ _ _ (by have := hL.size; have := hst.size; omega)).trans (hL.b2.trans hst.b2))) ?_
          try simp only [Act.put, zqA, zqB, zqC]
          (refine wpPl_read (v := ?_) rfl ?_ (fun w1 h1 => ?_) ?_; rotate_left 1; rfl; (clear h1; go_simp; first | done | rfl))
          try simp only [Act.put, zqA, zqB, zqC]
          have hb2 : w3.heap[w.heap.size + 1 + 1]? = some (.cells #[.int .i64 R, .int .i64 C, .slice (some ⟨w.heap.size + 1, 0, none⟩) (r * C + j) N] 31) := (hg3.block _ (by have := hL.size; have := hst.size; simp; omega) (by simp)).trans ((Below.heap_alloc _ _ _ (by have := hL.size; have := hst.size; omega)).trans (hL.b2.trans hst.b2))
          have c2 := cell_of_row _ _ 2 _ _ _ hb2
          have f2 := frozen_of_row _ _ 2 _ _ hb2
          have hst2 : BSt w.heap.size R C N (r * C + (j + 1)) (vals g C (r * C + (j + 1))) (w3.setCell ⟨w.heap.size + 1 + 1, 2, none⟩ (.slice (some ⟨w.heap.size + 1, 0, none⟩) (r * C + j + 1) N)) := by
            rw [show r * C + (j + 1) = r * C + j + 1 by omega, vals_succ g C r j hjt]
            exact hst.step hL hg3 ho3
          have hJ3 : Hid (J (r * C + (j + 1)) (w3.setCell ⟨w.heap.size + 1 + 1, 2, none⟩ (.slice (some ⟨w.heap.size + 1, 0, none⟩) (r * C + j + 1) N))) :=
            HJ.out _ _ _ (((Keep.of_ext ((Ext.refl w1).alloc _)).trans (Keep.of_grown hg3)).trans (Keep.of_set w3 _ (.inr (.inr rfl)))) hJ1
          clear hb2 ho3 hg3 hst
          (refine wpPl_tail rfl ?_ (fun K hK => ?_); rfl; go_simp)
          refine hK _ _ ?_
          try simp only [Act.put, zqA, zqB, zqC]
          refine wpPl_nil ?_
          go_wp2
          exact ⟨⟨j + 1, by omega, by go_num, hst2, hJ3⟩, by simp [intOf]; omega⟩
        · go_wp2
          obtain rfl : j = C := by omega
          refine ⟨⟨r + 1, by omega, by go_num, by rw [Nat.succ_mul]; exact hst, by rw [Nat.succ_mul]; exact HJr⟩, by simp [intOf]; omega⟩
    · obtain rfl : r = R := by omega
      have e := HN.out
      rw [e] at hst HJr
      clear e
      have c20 := cell_of_row _ _ 0 _ _ _ hst.b2
      have c21 := cell_of_row _ _ 1 _ _ _ hst.b2
      have c22 := cell_of_row _ _ 2 _ _ _ hst.b2
      have c00 := cell_of_row _ _ 0 _ _ _ hst.b0
      have c01 := cell_of_row _ _ 1 _ _ _ hst.b0
      have c02 := cell_of_row _ _ 2 _ _ _ hst.b0
      have f00 := frozen_of_row _ _ 0 _ _ hst.b0
      have f01 := frozen_of_row _ _ 1 _ _ hst.b0
      have f02 := frozen_of_row _ _ 2 _ _ hst.b0
      go_wp2
      refine bodyPost_ret (results_cell_row (by rfl) _ _ w.heap.size 31 #[.int .i64 r, .int .i64 C, .slice (some ⟨w.heap.size + 1, 0, none⟩) N N] (0, 0) _ (by rfl) ?_ Tryz.underlying31 (by rfl) (by kernel_rfl)) rfl ⟨some ⟨w.heap.size + 1, 0, none⟩, N, rfl, ?_, Nat.le_refl _, HJ.out _ _ _ (Keep.three _ _ _ _ _) HJr.out⟩
      · simp [World.setCell, Array.getElem?_modify, hst.b0]
      · obtain ⟨A, c, hA, hrd, _⟩ := Rd.of_own hst.own
        simp only [Value.slice.injEq, true_and] at hA
        obtain ⟨rfl, rfl⟩ := hA
        exact Rd.mono (((hrd.set_far _ (by simp)).set_far _ (by simp)).set_far _ (by simp)) (by omega)
end Go.Proofs.YtmjmijjbijlhfaaGreatDoor
namespace Go.Proofs.YtmjmijjbijlhfaaGreatDoor
open Go.RowKit
theorem Keep.ext {w W W' : World} (h : Keep w.heap.size W W') (hx : Ext w W) : Ext w W' :=
  ⟨h.os.trans hx.os, h.tape.trans hx.tape, h.output.trans hx.output, Nat.le_trans hx.size h.size, fun b hb => (h.block b (Nat.lt_of_lt_of_le hb hx.size) (by omega) (by omega) (by omega)).trans (hx.block hb)⟩
/-- build of a function that keeps nothing. -/
theorem build_pure (R C : Nat) (cl : FuncId) (capt : Array Value) (g : Nat → Nat → Val) (w : World) (hR : 1 ≤ R) (hC : 1 ≤ C) (hN : R * C ≤ 4096)
    (hent : ∀ (args : Array Value) (W : World), (callFunc cl args).run Tryz.prog W = .ok (.enter cl args) W)
    (hcall : ∀ i j W, i < R → j < C → Ext w W →
      Calls Tryz.prog cl (#[.int .i64 i, .int .i64 j] ++ capt) W fun e W' => e = .returned (VV (g i j).kind (g i j).mant (g i j).exp (g i j).text (g i j).truth (g i j).fault) ∧ Ext W W') :
    Calls Tryz.prog 89 #[.int .i64 R, .int .i64 C, .func (.func cl) #[] capt] w fun e w' => ∃ A c, e = .returned (AV R C (.slice A (R * C) c)) ∧ SlV w.heap.size w' A (vals g C (R * C)) ∧ R * C ≤ c ∧ Ext w w' := by
  have h1 : R * 1 ≤ R * C := Nat.mul_le_mul_left R hC
  have h2 : 1 * C ≤ R * C := Nat.mul_le_mul_right C hR
  exact build_any R C cl capt g w (fun _ W => Ext w W) hR hC hN (by omega) (by omega) hent (Ext.refl w) (fun _ _ _ h hx => h.ext hx)
    (fun i j W hi hj hx hs => (hcall i j W hi hj hx).mono fun e W' ⟨he, hb⟩ => ⟨he, hx.trans hb, Leaves.of_ext hb hs⟩)
/-- The three cells of an array's variable. -/
abbrev ABox (pb : Nat) (r c : Int) (A : Option Addr) (n cap : Nat) (W : World) : Prop :=
  pb < W.heap.size ∧ W.cell? ⟨pb, 0, none⟩ = some (.int .i64 r) ∧ W.cell? ⟨pb, 1, none⟩ = some (.int .i64 c) ∧ W.cell? ⟨pb, 2, none⟩ = some (.slice A n cap)
theorem ABox.ext {pb : Nat} {r c : Int} {A : Option Addr} {n cap : Nat} {W W' : World} (h : ABox pb r c A n cap W) (hb : Ext W W') : ABox pb r c A n cap W' :=
  ⟨by have := hb.size; have := h.1; omega, hb.cell_some h.2.1, hb.cell_some h.2.2.1, hb.cell_some h.2.2.2⟩
def getV (l : List Val) (k : Nat) : Val := (l[k]?).getD Val.zero
theorem ArrIn.get {w : World} {A : Option Addr} {n cap : Nat} {l : List Val} (h : ArrIn w A n cap l) {k : Nat} (hk : k < n) : ∃ b off, A = some ⟨b, off, none⟩ ∧ ValAt w b (off + k * 6) (getV l k) ∧ (getV l k).ok := by
  obtain ⟨x, b, off, hx, ho, hA, hv⟩ := h.at hk
  have : getV l k = x := by simp [getV, hx]
  rw [this]
  exact ⟨b, off, hA, hv, ho⟩
theorem cell_prod {C i j : Nat} (R : Nat) (hi : i < R) (hj : j < C) (hN : R * C ≤ 4096) : i * C + j < R * C ∧ i * C ≤ 4096 := by
  have : (i + 1) * C ≤ R * C := Nat.mul_le_mul_right C hi
  rw [Nat.succ_mul] at this
  omega
set_option maxHeartbeats 400000 in
theorem turn1_any (pb : Nat) (R C : Nat) (A : Option Addr) (n cap : Nat) (l : List Val) (i j : Nat) (W : World) (hb : ABox pb R C A n cap W) (h : ArrIn W A n cap l) (hn : n = R * C) (hN : n ≤ 4096) (hi : i < C) (hj : j < R) :
    Calls Tryz.prog 100 #[.int .i64 i, .int .i64 j, .pointer (some ⟨pb, 0, none⟩)] W fun e W' => e = .returned (VV (getV l (j * C + i)).kind (getV l (j * C + i)).mant (getV l (j * C + i)).exp (getV l (j * C + i)).text (getV l (j * C + i)).truth (getV l (j * C + i)).fault) ∧ Ext W W' := by
  subst hn
  obtain ⟨hk, hk2⟩ := cell_prod R hj hi hN
  obtain ⟨b, off, rfl, hv, ho⟩ := h.get hk
  generalize hx : getV l (j * C + i) = x at *
  clear hx
  obtain ⟨v0, v1, v2, v3, v4, v5⟩ := hv
  have hbl : b < W.heap.size := lt_of_cell v0
  obtain ⟨hp, b0, b1, b2⟩ := hb
  have w1 : IntKind.i64.wrap ((j : Int) * (C : Int)) = ((j * C : Nat) : Int) := by rw [IntKind.wrap_i64, Int.natCast_mul]; omega
  generalize hjc : j * C = jc at *
  generalize hrc : R * C = rc at *
  clear hjc hrc
  go_enter Tryz.func100, Tryz.ntmps100
  go_wp2
  exact bodyPost_ret (v := VV x.kind x.mant x.exp x.text x.truth x.fault) (by simp [results, Tryz.results100, go_sem]) rfl ⟨rfl, by repeat (first | exact Ext.refl _ | apply Ext.drew | apply Ext.alloc | apply Ext.more_)⟩
def turnL (R C : Nat) (l : List Val) : List Val := vals (fun i j => getV l (j * C + i)) R (C * R)
theorem right_parts {r c : Int} {l : List Val} (h : rightA r c l = true) : ∃ R C : Nat, r = R ∧ c = C ∧ 1 ≤ R ∧ 1 ≤ C ∧ R * C ≤ 4096 ∧ l.length = R * C ∧ (∀ x ∈ l, valRight x = true) := by
  simp only [rightA, Bool.and_eq_true, decide_eq_true_eq, List.all_eq_true] at h
  obtain ⟨⟨hf, hn⟩, ha⟩ := h
  obtain ⟨f1, f2, f3, f4, f5, f6⟩ := fits_mul hf
  obtain ⟨R, rfl⟩ := Int.eq_ofNat_of_zero_le (show 0 ≤ r by omega)
  obtain ⟨C, rfl⟩ := Int.eq_ofNat_of_zero_le (show 0 ≤ c by omega)
  rw [← Int.natCast_mul] at hn f6
  exact ⟨R, C, rfl, rfl, by omega, by omega, by omega, by omega, ha⟩
set_option maxHeartbeats 400000 in
theorem turn_yes (R C : Nat) (A : Option Addr) (n cap : Nat) (l : List Val) (w : World) (h : ArrIn w A n cap l) (hr : rightA R C l = true) :
    Calls Tryz.prog 52 #[AV R C (.slice A n cap)] w fun e w' => ArrO w.heap.size w' e C R (turnL R C l) ∧ Ext w w' := by
  have hX : ∀ o o' : Obj, Ext w ((w.alloc o).alloc o') := fun o o' => by repeat (first | exact Ext.refl _ | apply Ext.drew | apply Ext.alloc | apply Ext.more_)
  obtain ⟨R', C', e1, e2, r1, r2, r3, r4, _⟩ := right_parts hr
  obtain rfl : R = R' := by omega
  obtain rfl : C = C' := by omega
  clear e1 e2
  have hln := h.len
  have hN : n ≤ 4096 := by omega
  have hn : n = R * C := by omega
  have HN := Lib.hid hn
  clear hn r4 hln
  have hcr : C * R ≤ 4096 := by rw [Nat.mul_comm]; exact r3
  go_enter Tryz.func52, Tryz.ntmps52
  go_wp2_with (first | (go_at_call 30; refine (right_any _ _ _ _ _ _ _ (h.ext (hX _ _))).mono ?_; rintro e w' ⟨rfl, hb⟩; obtain ⟨os, d, rfl⟩ := hb.more) | fail)
  refine (build_pure C R 100 #[.pointer (some ⟨w.heap.size, 0, none⟩)] (fun i j => getV l (j * C + i)) _ r2 r1 hcr (fun _ _ => by kernel_rfl) ?_).mono ?_
  · intro i j W hi hj hx
    refine turn1_any w.heap.size R C A n cap l i j W (ABox.ext ?_ hx) (h.ext (Ext.trans ?_ hx)) HN.out hN hi hj
    · refine ⟨?_, ?_, ?_, ?_⟩ <;> simp [go_sem]
    · exact (by repeat (first | exact Ext.refl _ | apply Ext.drew | apply Ext.alloc | apply Ext.more_))
  rintro e w' ⟨A', c', rfl, hs, hc', hb⟩
  obtain ⟨os', d', rfl⟩ := hb.more
  go_wp2
  have hl : (turnL R C l).length = C * R := vals_length _ _ _
  exact bodyPost_ret (v := AV C R (.slice A' (C * R) c')) (by simp [results, Tryz.results52, go_sem]) rfl ⟨⟨A', c', by rw [hl], (by (try simp only [more_more] at hs); (try simp only [drew_more] at hs); (try simp only [more_drew] at hs); exact Rd.swap hs (by first | (simp; done) | (simp; omega) | omega) (by first | (simp; done) | (simp; omega) | omega) (by first | (simp; done) | (simp; omega) | omega)), by rw [hl]; exact hc'⟩, by repeat (first | exact Ext.refl _ | apply Ext.drew | apply Ext.alloc | apply Ext.more_)⟩
end Go.Proofs.YtmjmijjbijlhfaaGreatDoor
namespace Go.Proofs.YtmjmijjbijlhfaaGreatDoor
open Go.RowKit
theorem right_bd {R C : Nat} {l : List Val} (h : rightA R C l = true) : 1 ≤ R ∧ 1 ≤ C ∧ R * C ≤ 4096 ∧ l.length = R * C ∧ R ≤ 4096 ∧ C ≤ 4096 := by
  obtain ⟨R', C', e1, e2, r1, r2, r3, r4, _⟩ := right_parts h
  obtain rfl : R = R' := by omega
  obtain rfl : C = C' := by omega
  have h1 : R * 1 ≤ R * C := Nat.mul_le_mul_left R r2
  have h2 : 1 * C ≤ R * C := Nat.mul_le_mul_right C r1
  exact ⟨r1, r2, r3, r4, by omega, by omega⟩
theorem fits_nat {a b : Nat} : fitsB a b = true ↔ 1 ≤ a ∧ 1 ≤ b ∧ a * b ≤ 4096 := by
  constructor
  · intro h
    obtain ⟨f1, f2, f3, f4, f5, f6⟩ := fits_mul h
    rw [← Int.natCast_mul] at f6
    exact ⟨by omega, by omega, by omega⟩
  · intro ⟨h1, h2, h3⟩
    have ha : a * 1 ≤ a * b := Nat.mul_le_mul_left a h2
    have hq : b ≤ 4096 / a := (Nat.le_div_iff_mul_le (by omega)).2 (by rw [Nat.mul_comm]; exact h3)
    simp only [fitsB, Bool.and_eq_true, decide_eq_true_eq]
    refine ⟨⟨⟨by omega, by omega⟩, by omega⟩, ?_⟩
    have : ((b : Nat) : Int) ≤ ((4096 / a : Nat) : Int) := by omega
    simpa using this
end Go.Proofs.YtmjmijjbijlhfaaGreatDoor
