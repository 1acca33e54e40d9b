/- num.Parse. -/
import Derived.Test.YtihfiegopnjeiaaDoorTake
import Derived.Test.YtihfiegopnjeiaaDoorPow
import Derived.Laws.RangeAny
namespace Go.Proofs.YtihfiegopnjeiaaDoor
set_option linter.unusedSimpArgs false
set_option linter.unusedVariables false
open Go.RowKit NM

/-- What holds of a reader wherever it stands. -/
structure SB (n : Nat) (s : St) : Prop where
  st : s.st ≤ 7
  len : s.ds.length ≤ n
  beh : s.beh ≤ n
  pow : s.pow ≤ 1000000
  all : AllD s.ds
theorem SB.step {n : Nat} {s s' : St} {c : Nat} (h : SB n s) (ht : takeS s c = some s') : SB (n + 1) s' := by
  obtain ⟨h1, h2, h3, h4, h5⟩ := h
  unfold takeS at ht
  split at ht
  · rename_i hc
    unfold isD at hc
    have hc := of_decide_eq_true hc
    cases ht
    have h6 : AllD (s.ds ++ [c - 48]) := h5.append (AllD.cons (by omega) AllD.nil)
    unfold digS
    split
    · exact ⟨by simp, by simp; omega, by show s.beh ≤ _; omega, h4, h6⟩
    · split
      · exact ⟨by simp, by simp; omega, by show s.beh + 1 ≤ _; omega, h4, h6⟩
      · refine ⟨by simp, by show s.ds.length ≤ _; omega, by show s.beh ≤ _; omega, ?_, h5⟩
        show (if s.pow < 100000 then s.pow * 10 + (c - 48) else s.pow) ≤ 1000000
        split <;> omega
  all_goals (repeat' (split at ht)) <;> cases ht <;> exact ⟨by simp, by show s.ds.length ≤ _; omega, by show s.beh ≤ _; omega, h4, h5⟩
theorem take_high {s : St} {c : Nat} (h : 128 ≤ c) : takeS s c = none := by
  unfold takeS isD
  rw [if_neg (by rw [decide_eq_true_eq]; omega), if_neg (by omega), if_neg (by omega), if_neg (by omega), if_neg (by omega)]
/-- A text's bytes. -/
def bl (s : ByteArray) : List Nat := s.data.toList.map (·.toNat)
theorem bl_length (s : ByteArray) : (bl s).length = s.size := by unfold bl; rw [List.length_map]; rfl
theorem bl_at (s : ByteArray) (pos : Nat) (h : pos < s.size) : (bl s)[pos]? = some (s[pos]'h).toNat := by
  unfold bl
  rw [List.getElem?_map, List.getElem?_eq_getElem (by exact h)]
  rfl
structure PI (X : World) (s : ByteArray) (q k pos : Nat) (S : St) (v : Value) (wr : World) : Prop where
  run : runS ((bl s).take pos) st0 = some S
  rd : RD X.heap.size q S.st S.neg S.npow S.ds S.beh S.pow v wr
  it : wr.heap[k]? = some (Obj.stringIter s pos)
  ext : Ext X wr
  bd : SB pos S
  kb : X.heap.size ≤ k
theorem PI.next {X wr : World} {s : ByteArray} {q k pos : Nat} {S : St} {v : Value} (h : PI X s q k pos S v wr) (p' : Nat) : RD X.heap.size q S.st S.neg S.npow S.ds S.beh S.pow v (wr.iterAt k s p') ∧ (wr.iterAt k s p').heap[k]? = some (Obj.stringIter s p') ∧ Ext X (wr.iterAt k s p') := by
  have hne : ∀ b cs t, wr.heap[b]? = some (Obj.cells cs t (0, 0)) → b ≠ k := fun b cs t hb he => by subst he; rw [h.it] at hb; cases hb
  refine ⟨⟨?_, own_keep h.rd.own fun g cur hg => Lib.iterAt_other _ _ _ _ _ (hne g cur _ hg), h.rd.qb⟩, Lib.iterAt_heap wr k s pos p' h.it, ?_⟩
  · rw [Lib.iterAt_other _ _ _ _ _ (hne q _ _ h.rd.row)]; exact h.rd.row
  · refine ⟨h.ext.os, h.ext.tape, h.ext.output, by rw [Lib.iterAt_size]; exact h.ext.size, fun b hb => ?_⟩
    rw [Lib.iterAt_other _ _ _ _ _ (by have := h.kb; omega), h.ext.block hb]
theorem PI.step {X wr w' : World} {s : ByteArray} {q k pos c : Nat} {S S' : St} {v v' : Value} (h : PI X s q k pos S v wr) (hc : (bl s)[pos]? = some c) (ht : takeS S c = some S') (hf : Fr X.heap.size (wr.iterAt k s (pos + 1)) w') (hr : RD X.heap.size q S'.st S'.neg S'.npow S'.ds S'.beh S'.pow v' w') : PI X s q k (pos + 1) S' v' w' := by
  obtain ⟨_, h2, h3⟩ := h.next (pos + 1)
  refine ⟨?_, hr, hf.it _ _ _ h2, Below.trans h3 hf.low, h.bd.step ht, h.kb⟩
  rw [take_at hc, runS_append, h.run, Option.bind_some]
  show (takeS S c).bind (runS []) = _
  rw [ht]; rfl
theorem parM_none {s : ByteArray} {pos c : Nat} {S : St} (h : runS ((bl s).take pos) st0 = some S) (hc : (bl s)[pos]? = some c) (ht : takeS S c = none) : parM (bl s) = none := by
  unfold parM
  have hl := lt_at hc
  have h1 : bl s = (bl s).take pos ++ (c :: (bl s).drop (pos + 1)) := by
    rw [← drop_at hc, List.take_append_drop]
  rw [h1, runS_append, h, Option.bind_some]
  show ((takeS S c).bind _).bind endS = none
  rw [ht]; rfl
def parS (s : ByteArray) : Option (Int × Int) := if 255 < s.size then none else parM (bl s)
set_option maxRecDepth 100000 in
set_option maxHeartbeats 1000000 in
theorem parse_any (s : ByteArray) (w : World) (hs : s.size ≤ 1000) :
    Calls Tryd.prog 19 #[.string s] w fun r w' => r = .returned (rnV (parS s)) ∧ Ext w w' := by
  unfold parS
  by_cases hlen : 255 < s.size
  · rw [if_pos hlen]
    go_enter Tryd.func19, Tryd.ntmps19
    go_wp2_with fail
    exact bodyPost_ret (v := .tuple #[NV 0 0, .bool false]) (by simp [results, Tryd.results19, go_sem]; done) rfl ⟨rfl, by repeat (first | with_reducible exact Ext.refl _ | with_reducible apply Ext.drew | with_reducible apply Ext.alloc | with_reducible apply Ext.more_)⟩
  · rw [if_neg hlen]
    generalize hR : parM (bl s) = R
    have HR := Lib.hid hR
    clear hR
    have HX : Hid (∀ W : World, W = ((w.alloc (.cells #[.int .i64 0, .int .i64 0] 24)).alloc (.cells #[.int .i64 0, .bool false, .bool false, .slice none 0 0, .int .i64 0, .int .i64 0] 58)).iter s 0 → PI (w.alloc (.cells #[.int .i64 0, .int .i64 0] 24)) s (w.heap.size + 1) (w.heap.size + 1 + 1) 0 st0 (.slice none 0 0) W) := by
      intro W hW
      have hx : Ext (w.alloc (.cells #[.int .i64 0, .int .i64 0] 24)) W := by rw [hW]; exact (((Ext.refl _).alloc _).alloc _)
      have hz : (w.alloc (.cells #[.int .i64 0, .int .i64 0] 24)).heap.size = w.heap.size + 1 := by simp
      refine ⟨rfl, ⟨?_, World.ownsRow_nil _ _ _ _, by omega⟩, ?_, hx, ⟨by decide, Nat.le_refl _, Nat.le_refl _, by decide, AllD.nil⟩, by omega⟩
      · rw [hW]
        have h1 : ((w.alloc (.cells #[.int .i64 0, .int .i64 0] 24)).alloc (.cells #[.int .i64 0, .bool false, .bool false, .slice none 0 0, .int .i64 0, .int .i64 0] 58)).heap[w.heap.size + 1]? = some (.cells #[.int .i64 0, .bool false, .bool false, .slice none 0 0, .int .i64 0, .int .i64 0] 58) := by rw [← hz]; exact Array.getElem?_push_size
        exact (RowKit.Below.heap_alloc _ _ _ (lt_block h1)).trans h1
      · rw [hW]
        have := World.iter_heap ((w.alloc (.cells #[.int .i64 0, .int .i64 0] 24)).alloc (.cells #[.int .i64 0, .bool false, .bool false, .slice none 0 0, .int .i64 0, .int .i64 0] 58)) s 0
        simpa using this
    go_enter Tryd.func19, Tryd.ntmps19
    go_upto_block 0 with fail
    refine wp_world fun W hW => ?_
    have hPI := HX.out W hW
    have hX0 : PV (w.alloc (.cells #[.int .i64 0, .int .i64 0] 24)) w.heap.size 0 0 := PV.new 0 0 rfl
    have hXw : Ext w (w.alloc (.cells #[.int .i64 0, .int .i64 0] 24)) := (Ext.refl w).alloc _
    have hXs : (w.alloc (.cells #[.int .i64 0, .int .i64 0] 24)).heap.size = w.heap.size + 1 := by simp
    clear hW HX
    generalize w.alloc (.cells #[.int .i64 0, .int .i64 0] 24) = X at *
    have hq : w.heap.size + 1 < w.heap.size + 1 + 1 := by omega
    have hq0 : w.heap.size < w.heap.size + 1 := by omega
    generalize w.heap.size + 1 + 1 = k at *
    have HS0 := Lib.hid hXs
    clear hXs
    generalize w.heap.size + 1 = q at *
    have HP : Hid (PI X s q k 0 st0 (.slice none 0 0) W) := hPI
    clear hPI
    go_wp2_with fail
    go_loopw [6] (fun _ wr => ∃ pos S v, pos ≤ s.size ∧ Hid (PI X s q k pos S v wr)) (fun _ wr => s.size - wr.iterPos k)
    case atStart => exact ⟨0, st0, _, Nat.zero_le _, HP⟩
    case round =>
      obtain ⟨pos, S, v, hpos, H⟩ := hrel
      by_cases hp : pos < s.size
      · have hb := bl_at s pos hp
        have hnx : ∀ ty, (Instr.next (.pointer (some ⟨k, 0, none⟩)) true ty).run Tryd.prog wr = _ := fun ty => Lib.run_next_any_at wr k s pos ty H.out.it hp
        have hbd := H.out.bd
        have heta : (⟨S.st, S.neg, S.npow, S.ds, S.beh, S.pow⟩ : St) = S := rfl
        by_cases ha : (s[pos]'hp).toNat < 128
        · rw [decode_ascii s pos hp ha] at hnx
          generalize (s[pos]'hp).toNat = c at *
          simp only at hnx
          obtain ⟨r1, r2, r3⟩ := H.out.next (pos + 1)
          have htk := take_any X.heap.size q S.st S.neg S.npow S.ds S.beh S.pow c v (wr.iterAt k s (pos + 1)) r1 r3.size hbd.st (by have := hbd.len; omega) (by have := hbd.beh; omega) hbd.pow
          rw [heta] at htk
          have HC := Lib.hid hb
          have HE := Lib.hid r3
          clear hb r1 r2 r3 ha hbd heta
          cases hT : takeS S c with
          | some S' =>
            have HT := Lib.hid hT
            rw [hT] at htk
            clear hT
            go_wp2_with (go_at_call 53; (with_reducible refine htk.mono ?_); rintro e w' ⟨rfl, hfr, hrd⟩)
            obtain ⟨v', hr'⟩ := hrd S' rfl
            have h2 := H.out.step HC.out HT.out hfr hr'
            refine ⟨⟨pos + 1, S', v', by omega, h2⟩, ?_⟩
            simp only [World.iterPos, h2.it, H.out.it]
            omega
          | none =>
            have HT := Lib.hid hT
            rw [hT] at htk
            clear hT
            have hRn : R = none := by rw [← HR.out]; exact parM_none H.out.run HC.out HT.out
            subst hRn
            go_wp2_with (go_at_call 53; (with_reducible refine htk.mono ?_); rintro e w' ⟨rfl, hfr, hrd⟩; have hex : Ext X w' := Below.trans HE.out hfr.low; have hpv := hX0.ext hex; have a0 := hpv.c0; have a1 := hpv.c1; have a2 := hpv.fz 0; have a3 := hpv.fz 1; have a4 := hpv.lt; have z0 := (hpv.set 0 0).c0; have z1 := (hpv.set 0 0).c1)
            exact bodyPost_ret (v := .tuple #[NV 0 0, .bool false]) (by simp [results, Tryd.results19, go_sem, z0, z1]; done) rfl ⟨rfl, ((hXw.trans hex).set _ (Nat.le_refl _)).set _ (Nat.le_refl _)⟩
        · obtain ⟨d1, d2⟩ := decode_high s pos hp (by omega)
          have hRn : R = none := by rw [← HR.out]; exact parM_none H.out.run hb (take_high (by omega))
          subst hRn
          generalize (Utf8.decode s pos).1 = c at *
          generalize (Utf8.decode s pos).2 = b at *
          obtain ⟨r1, r2, r3⟩ := H.out.next (pos + b)
          have htk := take_any X.heap.size q S.st S.neg S.npow S.ds S.beh S.pow c v (wr.iterAt k s (pos + b)) r1 r3.size hbd.st (by have := hbd.len; omega) (by have := hbd.beh; omega) hbd.pow
          rw [heta, take_high d1] at htk
          have HE := Lib.hid r3
          clear hb r1 r2 r3 ha hbd heta
          go_wp2_with (go_at_call 53; (with_reducible refine htk.mono ?_); rintro e w' ⟨rfl, hfr, hrd⟩; have hex : Ext X w' := Below.trans HE.out hfr.low; have hpv := hX0.ext hex; have a0 := hpv.c0; have a1 := hpv.c1; have a2 := hpv.fz 0; have a3 := hpv.fz 1; have a4 := hpv.lt; have z0 := (hpv.set 0 0).c0; have z1 := (hpv.set 0 0).c1)
          exact bodyPost_ret (v := .tuple #[NV 0 0, .bool false]) (by simp [results, Tryd.results19, go_sem, z0, z1]; done) rfl ⟨rfl, ((hXw.trans hex).set _ (Nat.le_refl _)).set _ (Nat.le_refl _)⟩
      · have hnx : ∀ ty, (Instr.next (.pointer (some ⟨k, 0, none⟩)) true ty).run Tryd.prog wr = _ := fun ty => Lib.run_next_end_at wr k s pos ty H.out.it hp
        have hpe : pos = s.size := by omega
        have hrun := H.out.run
        have hR := HR.out
        rw [hpe, ← bl_length, List.take_length] at hrun
        unfold parM at hR
        rw [hrun, Option.bind_some] at hR
        have hrd := H.out.rd
        have hbd := H.out.bd
        have hex := H.out.ext
        have HE := Lib.hid hR
        clear hrun hR HR hpe
        obtain ⟨st, neg, npow, ds, beh, pow⟩ := S
        simp only at hrd
        obtain ⟨c0, c1, c2, c3, c4, c5⟩ := hrd.at
        have f5 := hrd.fz 5
        have lq := hrd.lt
        have hpv := hX0.ext hex
        have a0 := hpv.c0
        have a1 := hpv.c1
        have a2 := hpv.fz 0
        have a3 := hpv.fz 1
        have a4 := hpv.lt
        have z0 := (hpv.set 0 0).c0
        have z1 := (hpv.set 0 0).c1
        have HRD := Lib.hid hrd
        have HBD := Lib.hid hbd
        clear hrd hbd
        by_cases hok : st = 2 ∨ st = 4 ∨ st = 7
        · have hRn : rnd neg (val ds) false ((if npow then -(pow : Int) else pow) - beh) = R := by rw [← HE.out]; unfold endS; exact (if_pos hok).symm
          have hpw := HBD.out.pow
          have hbh := HBD.out.beh
          have hln := HBD.out.len
          simp only at hpw hbh hln
          have hqX := HRD.out.qb
          cases npow with
          | true =>
            rw [if_pos rfl] at hRn
            have hro := round_own X neg v ds (-(pow : Int) - beh) (wr.setCell ⟨q, 5, none⟩ (.int .i64 (-(pow : Int)))) ds.length (hex.set _ hqX) (HRD.out.keep 5 _) HBD.out.all (by omega) (by omega)
            rw [hRn] at hro
            have w1 : IntKind.i64.wrap (-(pow : Int)) = -pow := i64w (by omega) (by omega)
            have w2 : IntKind.i64.wrap (-(pow : Int) - beh) = -pow - beh := i64w (by omega) (by omega)
            have x0 := hX0.c0
            have x1 := hX0.c1
            have x2 := hX0.fz 0
            have x3 := hX0.fz 1
            have x4 := hX0.lt
            have z0 := (hX0.set (rm R) (re R)).c0
            have z1 := (hX0.set (rm R) (re R)).c1
            clear hpw hbh hln hRn
            rcases hok with rfl | rfl | rfl
            all_goals
              go_wp2_with (go_at_call 47; (with_reducible refine hro.mono ?_); rintro e w' ⟨rfl, os, d, rfl⟩)
              exact bodyPost_ret (v := rnV R) (by simp [results, Tryd.results19, go_sem, z0, z1, x4]; done) rfl ⟨rfl, ((hXw.set _ (Nat.le_refl _)).set _ (Nat.le_refl _)).more_ _ _⟩
          | false =>
            rw [if_neg (by simp)] at hRn
            have hro := round_own X neg v ds ((pow : Int) - beh) wr ds.length hex HRD.out.own HBD.out.all (by omega) (by omega)
            rw [hRn] at hro
            have w2 : IntKind.i64.wrap ((pow : Int) - beh) = pow - beh := i64w (by omega) (by omega)
            have x0 := hX0.c0
            have x1 := hX0.c1
            have x2 := hX0.fz 0
            have x3 := hX0.fz 1
            have x4 := hX0.lt
            have z0 := (hX0.set (rm R) (re R)).c0
            have z1 := (hX0.set (rm R) (re R)).c1
            clear hpw hbh hln hRn
            rcases hok with rfl | rfl | rfl
            all_goals
              go_wp2_with (go_at_call 47; (with_reducible refine hro.mono ?_); rintro e w' ⟨rfl, os, d, rfl⟩)
              exact bodyPost_ret (v := rnV R) (by simp [results, Tryd.results19, go_sem, z0, z1, x4]; done) rfl ⟨rfl, ((hXw.set _ (Nat.le_refl _)).set _ (Nat.le_refl _)).more_ _ _⟩
        · have hRn : R = none := by rw [← HE.out]; unfold endS; exact if_neg hok
          subst hRn
          have e1 : ((st : Int) != 2) = true := by simp; omega
          have e2 : ((st : Int) != 4) = true := by simp; omega
          have e3 : ((st : Int) != 7) = true := by simp; omega
          go_wp2_with fail
          exact bodyPost_ret (v := .tuple #[NV 0 0, .bool false]) (by simp [results, Tryd.results19, go_sem, z0, z1]; done) rfl ⟨rfl, ((hXw.trans hex).set _ (Nat.le_refl _)).set _ (Nat.le_refl _)⟩
end Go.Proofs.YtihfiegopnjeiaaDoor
