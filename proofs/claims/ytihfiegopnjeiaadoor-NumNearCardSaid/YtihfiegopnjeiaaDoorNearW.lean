/- counterpanelaw01.near, walked. -/
import Derived.Test.YtihfiegopnjeiaaDoorNPl
import Derived.Test.YtihfiegopnjeiaaDoorNOrder
namespace Go.Proofs.YtihfiegopnjeiaaDoor
set_option linter.unusedSimpArgs false
set_option linter.unusedVariables false
open Go.RowKit NM

/-- A list of digits that tells N. -/
def DL (w : World) (A : Option Addr) (L N : Nat) : Prop := ∃ X, Rd 0 w A (i6 X) ∧ X.length = L ∧ AllD X ∧ val X = N
theorem DL.ext {w w' : World} {A : Option Addr} {L N : Nat} (h : DL w A L N) (hx : Ext w w') : DL w' A L N := by
  obtain ⟨X, h1, h2⟩ := h
  exact ⟨X, h1.ext hx, h2⟩
theorem DL.one {w : World} {n : Nat} (hn : n = w.heap.size) : DL (w.alloc (.cells #[.int .i64 1] 3)) (some ⟨n, 0, none⟩) 1 1 := ⟨[1], Rd.one_ _ _ hn, rfl, AllD.cons (by omega) AllD.nil, rfl⟩
/-- The same, in a block from 'base' on. -/
def DB (base : Nat) (w : World) (A : Option Addr) (L N : Nat) : Prop := ∃ X, Rd base w A (i6 X) ∧ X.length = L ∧ AllD X ∧ val X = N
theorem DB.dl {base : Nat} {w : World} {A : Option Addr} {L N : Nat} (h : DB base w A L N) : DL w A L N := by
  obtain ⟨X, h1, h2⟩ := h
  exact ⟨X, h1.mono (Nat.zero_le _), h2⟩
theorem DB.low {base : Nat} {w : World} {A : Option Addr} {L N : Nat} {p : Addr} (v : Value) (h : DB base w A L N) (hp : p.block < base) : DB base (w.setCell p v) A L N := by
  obtain ⟨X, h1, h2⟩ := h
  exact ⟨X, h1.set_low v hp, h2⟩
theorem DV.set3 {w : World} {p L c : Nat} {neg : Bool} {A : Option Addr} {e : Int} (h : w.heap[p]? = some (.cells #[.bool neg, .slice A L c, .int .i64 e] 45 (0, 0))) (n' : Bool) (A' : Option Addr) (L' c' : Nat) (e' : Int) : (((w.setCell ⟨p, 0, none⟩ (.bool n')).setCell ⟨p, 1, none⟩ (.slice A' L' c')).setCell ⟨p, 2, none⟩ (.int .i64 e')).heap[p]? = some (.cells #[.bool n', .slice A' L' c', .int .i64 e'] 45 (0, 0)) := by
  have h1 := heap_setCell_same w p 0 _ _ (.bool n') h
  have h2 := heap_setCell_same _ p 1 _ _ (.slice A' L' c') h1
  exact heap_setCell_same _ p 2 _ _ (.int .i64 e') h2
theorem strip_split (X : List Nat) : X = List.replicate (X.length - (strip X).length) 0 ++ strip X := by
  induction X with
  | nil => rfl
  | cons d l ih =>
    by_cases h : d = 0
    · subst h
      rw [strip_zero]
      have hl : (strip l).length ≤ l.length := (List.dropWhile_sublist _).length_le
      rw [List.length_cons, show l.length + 1 - (strip l).length = (l.length - (strip l).length) + 1 by omega, List.replicate_succ, List.cons_append, ← ih]
    · rw [strip_pos l h, Nat.sub_self]; rfl
theorem lead_zero {X : List Nat} {j : Nat} (h : AllD X) (hj : j < X.length - nd (val X)) : X[j]? = some 0 := by
  have h1 := strip_split X
  rw [strip_length h] at h1
  rw [h1, List.getElem?_append_left (by simp; omega), List.getElem?_replicate, if_pos hj]
theorem lead_pos {X : List Nat} {d : Nat} (h : AllD X) (hd : X[X.length - nd (val X)]? = some d) : d ≠ 0 := by
  have h1 := strip_split X
  rw [strip_length h] at h1
  have h2 : (List.replicate (X.length - nd (val X)) 0 ++ strip X)[X.length - nd (val X)]? = some d := by rw [← h1]; exact hd
  rw [List.getElem?_append_right (by simp), List.length_replicate, Nat.sub_self] at h2
  have hs := strip_head X
  intro h0
  apply hs
  rw [List.head?_eq_getElem?, h2, h0]
theorem plus_dl (na nb : Bool) (A B : Option Addr) (ca cb La Lb Na Nb : Nat) (ea eb : Int) (w : World) (ha : DL w A La Na) (hb : DL w B Lb Nb) (hla : La ≤ 1000) (hlb : Lb ≤ 1000) (hea : -1000 ≤ ea ∧ ea ≤ 1000) (heb : -1000 ≤ eb ∧ eb ≤ 1000) :
    Calls Tryd.prog 44 #[DecV na A La ca ea, DecV nb B Lb cb eb] w fun r w' => ∃ A' c', r = .returned (DecV (plusN na nb (Na * T (ea - min ea eb).toNat) (Nb * T (eb - min ea eb).toNat)).1 A' (max (La + (ea - min ea eb).toNat) (Lb + (eb - min ea eb).toNat) + 1) c' (min ea eb)) ∧ DB w.heap.size w' A' (max (La + (ea - min ea eb).toNat) (Lb + (eb - min ea eb).toNat) + 1) (plusN na nb (Na * T (ea - min ea eb).toNat) (Nb * T (eb - min ea eb).toNat)).2 ∧ Ext w w' := by
  obtain ⟨la, a1, a2, a3, a4⟩ := ha
  obtain ⟨lb, b1, b2, b3, b4⟩ := hb
  subst a2 b2 a4 b4
  refine (plus_any na nb A B ca cb la lb ea eb (min ea eb) (ea - min ea eb).toNat (eb - min ea eb).toNat _ w a1 b1 hla hlb (by omega) (by omega) (by omega) (by omega) (by omega) a3 b3 rfl).mono ?_
  rintro e w' ⟨⟨A', c', X, h1, h2, h3, h4, h5, h6⟩, hx⟩
  exact ⟨A', c', h1, ⟨X, h2, h3, h4, h5⟩, hx⟩
/-- A variable of type Dec in block p. -/
def DV (w : World) (p : Nat) (neg : Bool) (A : Option Addr) (L c : Nat) (e : Int) : Prop := w.heap[p]? = some (.cells #[.bool neg, .slice A L c, .int .i64 e] 45 (0, 0))
section
variable {w w' : World} {p L c : Nat} {neg : Bool} {A : Option Addr} {e : Int}
theorem DV.c0 (h : DV w p neg A L c e) : w.cell? ⟨p, 0, none⟩ = some (.bool neg) := by rw [cell_of_row w p 0 _ _ (0, 0) h]; rfl
theorem DV.c1 (h : DV w p neg A L c e) : w.cell? ⟨p, 1, none⟩ = some (.slice A L c) := by rw [cell_of_row w p 1 _ _ (0, 0) h]; rfl
theorem DV.c2 (h : DV w p neg A L c e) : w.cell? ⟨p, 2, none⟩ = some (.int .i64 e) := by rw [cell_of_row w p 2 _ _ (0, 0) h]; rfl
theorem DV.fz (h : DV w p neg A L c e) (o : Nat) : w.frozen? ⟨p, o, none⟩ = false := frozen_of_row w p o _ _ h
theorem DV.lt (h : DV w p neg A L c e) : p < w.heap.size := lt_block h
theorem DV.ext (h : DV w p neg A L c e) (hx : Ext w w') : DV w' p neg A L c e := by unfold DV; rw [hx.block h.lt]; exact h
theorem DV.new {n : Nat} (hn : n = w.heap.size) : DV (w.alloc (.cells #[.bool neg, .slice A L c, .int .i64 e] 45)) n neg A L c e := by subst hn; exact Array.getElem?_push_size
theorem DV.other (h : DV w p neg A L c e) {q : Addr} (v : Value) (hq : q.block ≠ p) : DV (w.setCell q v) p neg A L c e := by
  unfold DV; rw [RowKit.Below.heap_setCell _ _ _ _ (Ne.symm hq)]; exact h
theorem DV.setN (h : DV w p neg A L c e) (n' : Bool) : DV (w.setCell ⟨p, 0, none⟩ (.bool n')) p n' A L c e := heap_setCell_same w p 0 _ _ (.bool n') h
end
/-- Is a number near an exact value? -/
def nearB (m e : Int) (nv : Bool) (N : Nat) (ev : Int) : Bool :=
  let e1 := min ev e
  let O := (plusN nv (!decide (m < 0)) (N * T (ev - e1).toNat) (m.natAbs * T (e - e1).toNat)).2
  let unit := (nd N : Int) + ev - 15
  let M := if unit < -40 then 1 + T (-40 - unit).toNat else 1
  let e3 := min unit e1
  decide (2 * O * T (e1 - e3).toNat ≤ M * T (unit - e3).toNat)
set_option maxRecDepth 100000 in
set_option maxHeartbeats 1000000 in
theorem nearW_any (m e : Int) (nv : Bool) (A : Option Addr) (L c N : Nat) (ev : Int) (w : World) (hA : DL w A L N) (hL : L ≤ 200) (hr : Rt m e) (hev : -90 ≤ ev ∧ ev ≤ 90) :
    Calls Tryd.prog 43 #[NV m e, DecV nv A L c ev] w fun r w' => r = .returned (.bool (nearB m e nv N ev)) ∧ Ext w w' := by
  obtain ⟨b1, b2, b3⟩ := Rt_bd hr
  have hm := (Rt_i64 hr).1
  have hT15 : T 15 = 1000000000000000 := by decide
  have hnd : nd m.natAbs ≤ 15 := (nd_le_iff _ _).2 (by omega)
  have hof := fun W => rof_any m e W hm
  have HA := Lib.hid hA
  have HXN : Hid (∃ X, val X = N ∧ X.length = L ∧ AllD X ∧ Rd 0 w A (i6 X)) := by obtain ⟨X, x1, x2, x3, x4⟩ := hA; exact ⟨X, x4, x2, x3, x1⟩
  generalize hRR : nearB m e nv N ev = R
  have HRR := Lib.hid hRR
  clear hA hRR hr hT15
  go_enter Tryd.func43, Tryd.ntmps43
  go_upto_region 1 with fail
  refine wp_world fun W0 hW0 => ?_
  have hpa : PV W0 w.heap.size m e := by rw [hW0]; exact (PV.new m e rfl).ext ((Ext.refl _).alloc _)
  have hpv : DV W0 (w.heap.size + 1) nv A L c ev := by rw [hW0]; exact DV.new (by simp)
  have hx0 : Ext w W0 := by rw [hW0]; exact by repeat (first | with_reducible exact Ext.refl _ | with_reducible apply Ext.drew | with_reducible apply Ext.alloc | with_reducible apply Ext.more_)
  clear hW0
  have c0 := hpa.c0
  have c1 := hpa.c1
  have l0 := hpa.lt
  have hlv0 := hpv.lt
  go_upto_region 2 with (go_at_call 45; (with_reducible refine (hof _).mono ?_); rintro e' w' ⟨A5, c5, rfl, hrd, hcp, hx⟩; obtain ⟨os5, d5, rfl⟩ := hx.more)
  obtain ⟨X1, hX1⟩ : ∃ X, X = more W0 os5 d5 := ⟨_, rfl⟩
  have hxX1 : Ext W0 X1 := by rw [hX1]; exact ext_more _ _ _
  have HDv : Hid (DL X1 A L N) := (HA.out.ext hx0).ext hxX1
  have HD5 : Hid (DL X1 A5 (nd m.natAbs) m.natAbs) := ⟨dig m.natAbs, by rw [hX1]; exact hrd.mono (Nat.zero_le _), dig_length _, dig_all _, val_dig _⟩
  have hs5 : W0.heap.size + os5.size = X1.heap.size := by rw [hX1]; simp
  have hq5 : X1.heap.size ≤ W0.heap.size + os5.size := by omega
  refine wp_world fun W1 hW1 => ?_
  rw [← hX1] at hW1
  have hp5 : DV W1 (W0.heap.size + os5.size) (decide (m < 0)) A5 (nd m.natAbs) c5 e := by rw [hW1, hs5]; exact DV.new rfl
  have hxW1 : Ext X1 W1 := by rw [hW1]; exact by repeat (first | with_reducible exact Ext.refl _ | with_reducible apply Ext.drew | with_reducible apply Ext.alloc | with_reducible apply Ext.more_)
  have hpv := hpv.ext (hxX1.trans hxW1)
  have hlv := hpv.lt
  have hlow : w.heap.size + 1 < W0.heap.size + os5.size := by omega
  clear hW1 hX1 hrd hx c0 c1 l0 hs5
  generalize W0.heap.size + os5.size = p5 at *
  have c0 := hp5.c0
  have f0 := hp5.fz 0
  have l5 := hp5.lt
  go_upto_region 3 with fail
  refine wp_world fun W2 hW2 => ?_
  have hp5 : DV W2 p5 (!decide (m < 0)) A5 (nd m.natAbs) c5 e := by rw [hW2]; exact hp5.setN _
  have hpv : DV W2 (w.heap.size + 1) nv A L c ev := by rw [hW2]; exact hpv.other _ (by show p5 ≠ _; omega)
  have hxA : Ext X1 W2 := by rw [hW2]; exact hxW1.set _ (by show X1.heap.size ≤ p5; omega)
  have hxw : Ext w X1 := hx0.trans hxX1
  clear hW2 c0 f0 l5 hxW1 hxX1 hx0 hlv hlv0 hpa
  have c0 := hp5.c0
  have c1 := hp5.c1
  have c2 := hp5.c2
  have v0 := hpv.c0
  have v1 := hpv.c1
  have v2 := hpv.c2
  have l5 := hp5.lt
  have lv := hpv.lt
  have hpl := plus_dl nv (!decide (m < 0)) A A5 c c5 L (nd m.natAbs) N m.natAbs ev e W2 (HDv.out.ext hxA) (HD5.out.ext hxA) (by omega) (by omega) (by omega) (by omega)
  have hL6 : max (L + (ev - min ev e).toNat) (nd m.natAbs + (e - min ev e).toNat) + 1 ≤ 500 := by omega
  have he1 : -90 ≤ min ev e ∧ min ev e ≤ 90 := by omega
  unfold nearB at HRR
  simp only at HRR
  generalize max (L + (ev - min ev e).toNat) (nd m.natAbs + (e - min ev e).toNat) + 1 = L6 at *
  generalize plusN nv (!decide (m < 0)) (N * T (ev - min ev e).toNat) (m.natAbs * T (e - min ev e).toNat) = PN at *
  generalize min ev e = e1 at *
  obtain ⟨n6, O⟩ := PN
  simp only at HRR hpl
  go_upto_region 4 with (go_at_call 44; (with_reducible refine hpl.mono ?_); rintro e' w' ⟨A6, c6, rfl, hd6, hx⟩; obtain ⟨os6, d6, rfl⟩ := hx.more)
  obtain ⟨X2, hX2⟩ : ∃ X, X = more W2 os6 d6 := ⟨_, rfl⟩
  have hxX2 : Ext W2 X2 := by rw [hX2]; exact ext_more _ _ _
  have HD6 : Hid (DL X2 A6 L6 O) := by rw [hX2]; exact hd6.dl
  have hs6 : W2.heap.size + os6.size = X2.heap.size := by rw [hX2]; simp
  have hq6 : X2.heap.size ≤ W2.heap.size + os6.size := by omega
  refine wp_world fun W3 hW3 => ?_
  rw [← hX2] at hW3
  have hp6 : DV W3 (W2.heap.size + os6.size) n6 A6 L6 c6 e1 := by rw [hW3, hs6]; exact DV.new rfl
  have hxW3 : Ext X2 W3 := by rw [hW3]; exact by repeat (first | with_reducible exact Ext.refl _ | with_reducible apply Ext.drew | with_reducible apply Ext.alloc | with_reducible apply Ext.more_)
  have hpv := hpv.ext (hxX2.trans hxW3)
  have hlow6 : w.heap.size + 1 < W2.heap.size + os6.size := by omega
  have hxw : Ext w X2 := (hxw.trans hxA).trans hxX2
  clear hW3 hX2 hd6 hx c0 c1 c2 v0 v1 v2 l5 lv hp5 hxA hpl HD5 HDv hlow hq5 hs6
  generalize W2.heap.size + os6.size = p6 at *
  have c0 := hp6.c0
  have f0 := hp6.fz 0
  have l6 := hp6.lt
  go_upto_region 5 with fail
  refine wp_world fun W4 hW4 => ?_
  have hp6 : DV W4 p6 false A6 L6 c6 e1 := by rw [hW4]; exact hp6.setN _
  have hpv : DV W4 (w.heap.size + 1) nv A L c ev := by rw [hW4]; exact hpv.other _ (by show p6 ≠ _; omega)
  have hxB : Ext X2 W4 := by rw [hW4]; exact hxW3.set _ (by show X2.heap.size ≤ p6; omega)
  clear hW4 c0 f0 l6 hxW3
  have c0 := hp6.c0
  have c1 := hp6.c1
  have c2 := hp6.c2
  have l6 := hp6.lt
  have hpl := plus_dl false false A6 A6 c6 c6 L6 L6 O O e1 e1 W4 (HD6.out.ext hxB) (HD6.out.ext hxB) (by omega) (by omega) (by omega) (by omega)
  rw [Int.min_self, Int.sub_self, show ((0 : Int)).toNat = 0 from rfl, show T 0 = 1 from rfl, Nat.mul_one, show plusN false false O O = (false, O + O) by simp [plusN], Nat.add_zero, Nat.max_self] at hpl
  simp only at hpl
  go_upto_region 6 with (go_at_call 44; (with_reducible refine hpl.mono ?_); rintro e' w' ⟨A7, c7, rfl, hd7, hx⟩; obtain ⟨os7, d7, rfl⟩ := hx.more)
  obtain ⟨X3, hX3⟩ : ∃ X, X = more W4 os7 d7 := ⟨_, rfl⟩
  have hxX3 : Ext W4 X3 := by rw [hX3]; exact ext_more _ _ _
  have HD7 : Hid (DL X3 A7 (L6 + 1) (O + O)) := by rw [hX3]; exact hd7.dl
  have hs7 : W4.heap.size + os7.size = X3.heap.size := by rw [hX3]; simp
  have hq7 : X3.heap.size ≤ W4.heap.size + os7.size := by omega
  refine wp_world fun W5 hW5 => ?_
  rw [← hX3] at hW5
  have hp7 : DV W5 (W4.heap.size + os7.size) false A7 (L6 + 1) c7 e1 := by rw [hW5, hs7]; exact DV.new rfl
  have hxW5 : Ext X3 W5 := by rw [hW5]; exact by repeat (first | with_reducible exact Ext.refl _ | with_reducible apply Ext.drew | with_reducible apply Ext.alloc | with_reducible apply Ext.more_)
  have hpv := hpv.ext (hxX3.trans hxW5)
  have hxw : Ext w W5 := ((hxw.trans hxB).trans hxX3).trans hxW5
  have HD7 : Hid (DL W5 A7 (L6 + 1) (O + O)) := HD7.out.ext hxW5
  clear hW5 hX3 hd7 hx c0 c1 c2 l6 hp6 hxB hpl HD6 hlow6 hq6 hxX3 hxW5 hs7
  generalize W4.heap.size + os7.size = p7 at *
  have v0 := hpv.c0
  have v1 := hpv.c1
  have v2 := hpv.c2
  have lv := hpv.lt
  obtain ⟨X, hXv, hXl, hXa, hXr⟩ := HXN.out
  have hndN : nd N ≤ L := by
    rw [← hXv, ← hXl]
    exact (nd_le_iff _ _).2 (val_lt hXa)
  have HZ : Hid (∀ j, j < L - nd N → X[j]? = some 0) := fun j hj => lead_zero hXa (by rw [hXv, hXl]; exact hj)
  have HP : Hid (∀ d, X[L - nd N]? = some d → d ≠ 0) := fun d hd => lead_pos hXa (by rw [hXv, hXl]; exact hd)
  have HXR : Hid (Rd 0 W5 A (i6 X)) := hXr.ext hxw
  have HXL := Lib.hid hXl
  clear hXv hXl hXa hXr HXN HA
  go_upto_block 0 with fail
  go_cut [8] (fun s8 wx => s8 = .int .i64 ((L - nd N : Nat) : Int) ∧ wx = W5)
  case first =>
    go_wp2_with fail
    go_loop [8] (fun i => ∃ j : Nat, j ≤ L - nd N ∧ i = .int .i64 (j : Int)) (fun i => L - (intOf i).toNat)
    case atStart => exact ⟨0, Nat.zero_le _, rfl⟩
    case round =>
      obtain ⟨j, hj, rfl⟩ := hrel
      by_cases hjL : j < L
      · obtain ⟨d, hd⟩ : ∃ d, X[j]? = some d := ⟨X[j]'(by have := HXL.out; omega), by rw [List.getElem?_eq_getElem]⟩
        obtain ⟨bx, ox, hAx, _, hcx⟩ := Rd.at_ HXR.out hd
        rw [hAx] at v1
        clear hAx
        by_cases hjn : j < L - nd N
        · have h0 : d = 0 := by have := HZ.out j hjn; rw [hd] at this; exact Option.some.inj this
          have e0 : ((d : Int) == 0) = true := by simp [h0]
          clear hd h0
          go_wp2_with fail
          exact ⟨⟨j + 1, by omega, by go_num⟩, by simp [intOf]; omega⟩
        · have hje : Hid (j = L - nd N) := by show j = L - nd N; omega
          have h0 : d ≠ 0 := HP.out d (by rw [← hje.out]; exact hd)
          have e0 : ((d : Int) == 0) = false := by simp; omega
          clear hd
          go_wp2_with fail
          go_meet
          exact ⟨by rw [hje.out], rfl⟩
      · have hje : Hid (j = L - nd N) := by show j = L - nd N; omega
        go_wp2_with fail
        go_meet
        exact ⟨by rw [hje.out], rfl⟩
  case rest =>
  obtain ⟨rfl, hwc⟩ := hcut
  rw [hwc]
  clear hwc wc
  go_upto_region 10 with fail
  have hub : -105 ≤ (nd N : Int) + ev - 15 ∧ (nd N : Int) + ev - 15 ≤ 275 := by omega
  rw [show ((L : Int) - ((L - nd N : Nat) : Int) + ev - 15) = (nd N : Int) + ev - 15 by omega]
  generalize (nd N : Int) + ev - 15 = u at *
  have HU := Lib.hid hub
  have hlw : w.heap.size ≤ W5.heap.size := hxw.size
  have l7 := hp7.lt
  go_upto_region 11 with fail
  refine wp_world fun W6 hW6 => ?_
  have hpM : DV W6 (W5.heap.size + 1) false (some ⟨W5.heap.size, 0, none⟩) 1 1 u := by rw [hW6]; exact DV.new (by simp)
  have HM : Hid (DL W6 (some ⟨W5.heap.size, 0, none⟩) 1 1) := by rw [hW6]; exact (DL.one rfl).ext ((Ext.refl _).alloc _)
  have hx6 : Ext W5 W6 := by rw [hW6]; exact by repeat (first | with_reducible exact Ext.refl _ | with_reducible apply Ext.drew | with_reducible apply Ext.alloc | with_reducible apply Ext.more_)
  have hlow7 : p7 < W5.heap.size + 1 := by omega
  have hqM : W5.heap.size ≤ W5.heap.size + 1 := by omega
  clear hW6 v0 v1 v2 lv l7 HZ HP HXR HXL
  generalize (some ⟨W5.heap.size, 0, none⟩ : Option Addr) = A8 at *
  generalize W5.heap.size + 1 = pM at *
  go_upto_if 54 with fail
  go_cut [4] (fun s4 wx => s4 = .bool false ∧ Ext W5 wx ∧ Hid (∃ A9 L9 c9, DV wx pM false A9 L9 c9 u ∧ L9 ≤ 100 ∧ DL wx A9 L9 (if u < -40 then 1 + T (-40 - u).toNat else 1)))
  case first =>
    by_cases hu : u < -40
    · have c0 := hpM.c0
      have c1 := hpM.c1
      have c2 := hpM.c2
      have lM := hpM.lt
      have f0 := hpM.fz 0
      have f1 := hpM.fz 1
      have f2 := hpM.fz 2
      have HV : Hid ((if u < -40 then 1 + T (-40 - u).toNat else 1) = 1 + T (-40 - u).toNat) := if_pos hu
      have hpl := plus_dl false false A8 (some ⟨W6.heap.size, 0, none⟩) 1 1 1 1 1 1 u (-40) (W6.alloc (.cells #[.int .i64 1] 3)) (HM.out.ext ((Ext.refl _).alloc _)) (DL.one rfl) (by omega) (by omega) (by omega) (by omega)
      rw [show min u (-40) = u by omega, Int.sub_self, show ((0 : Int)).toNat = 0 from rfl, show T 0 = 1 from rfl, show plusN false false (1 * 1) (1 * T (-40 - u).toNat) = (false, 1 + T (-40 - u).toNat) by simp [plusN]] at hpl
      simp only at hpl
      rw [← HV.out] at hpl
      have hL9 : max (1 + 0) (1 + (-40 - u).toNat) + 1 ≤ 100 := by omega
      generalize max (1 + 0) (1 + (-40 - u).toNat) + 1 = L9 at *
      generalize (if u < -40 then 1 + T (-40 - u).toNat else 1) = MM at *
      have hsz : (W6.alloc (.cells #[.int .i64 1] 3)).heap.size = W6.heap.size + 1 := by simp
      go_wp2_with (go_at_call 44; (with_reducible refine hpl.mono ?_); rintro e' w' ⟨A9, c9, rfl, hd9, hx⟩; have hv := hpM.ext (((Ext.refl W6).alloc (.cells #[.int .i64 1] 3)).trans hx); have q0 := hv.c0; have q1 := hv.c1; have q2 := hv.c2; have g0 := hv.fz 0; have g1 := hv.fz 1; have g2 := hv.fz 2; have lv := hv.lt; have hx7 := (hx6.alloc (.cells #[.int .i64 1] 3)).trans hx)
      go_meet
      have hlt : pM < (W6.alloc (.cells #[.int .i64 1] 3)).heap.size := by omega
      refine ⟨rfl, ((hx7.set _ ?_).set _ ?_).set _ ?_, A9, L9, c9, DV.set3 hv _ _ _ _ _, hL9, (((hd9.low _ ?_).low _ ?_).low _ ?_).dl⟩
      all_goals first | exact hqM | exact hlt
    · have HV : Hid ((if u < -40 then 1 + T (-40 - u).toNat else 1) = 1) := if_neg hu
      go_wp2_with fail
      go_meet
      exact ⟨rfl, hx6, A8, 1, 1, hpM, by omega, by rw [HV.out]; exact HM.out⟩
  case rest =>
  obtain ⟨rfl, hx9, HH9⟩ := hcut
  have hp7 := hp7.ext hx9
  have HD7 : Hid (DL wc A7 (L6 + 1) (O + O)) := HD7.out.ext hx9
  have hxw := hxw.trans hx9
  generalize (if u < -40 then 1 + T (-40 - u).toNat else 1) = MM at *
  clear hpM HM hx6 hlow7 hqM hx9
  obtain ⟨A9, L9, c9, hpM, hL9, hM⟩ := HH9.out
  have HM := Lib.hid hM
  have hub := HU.out
  clear hM HH9 HU
  have m0 := hpM.c0
  have m1 := hpM.c1
  have m2 := hpM.c2
  have lM := hpM.lt
  have c0 := hp7.c0
  have c1 := hp7.c1
  have c2 := hp7.c2
  have l7 := hp7.lt
  have hpl := plus_dl false true A9 A7 c9 c7 L9 (L6 + 1) MM (O + O) u e1 wc HM.out HD7.out (by omega) (by omega) (by omega) (by omega)
  have hL11 : max (L9 + (u - min u e1).toNat) (L6 + 1 + (e1 - min u e1).toNat) + 1 ≤ 1000 := by omega
  generalize max (L9 + (u - min u e1).toNat) (L6 + 1 + (e1 - min u e1).toNat) + 1 = L11 at *
  rw [show 2 * O = O + O by omega] at HRR
  generalize MM * T (u - min u e1).toNat = a at *
  generalize (O + O) * T (e1 - min u e1).toNat = b at *
  generalize min u e1 = e3 at *
  have HR : Hid (R = !(plusN false true a b).1 ∧ ((plusN false true a b).2 = 0 → R = true)) := by
    have h1 := HRR.out
    rw [← h1]
    unfold plusN
    rw [if_neg (by simp)]
    by_cases h : a < b
    · rw [if_pos h]
      exact ⟨by simp; omega, fun h2 => absurd (show b - a = 0 from h2) (by omega)⟩
    · rw [if_neg h]
      exact ⟨by simp; omega, fun _ => by simp; omega⟩
  clear HRR
  generalize plusN false true a b = PN at *
  obtain ⟨n11, V⟩ := PN
  have HR0 : Hid (V = 0 → R = true) := HR.out.2
  have hR : R = !n11 := HR.out.1
  subst hR
  clear HR
  simp only at hpl
  go_upto_region 14 with (go_at_call 44; (with_reducible refine hpl.mono ?_); rintro e' w' ⟨A11, c11, rfl, hd11, hx⟩; obtain ⟨os11, d11, rfl⟩ := hx.more)
  obtain ⟨X4, hX4⟩ : ∃ X, X = more wc os11 d11 := ⟨_, rfl⟩
  have hxX4 : Ext wc X4 := by rw [hX4]; exact ext_more _ _ _
  have HD11 : Hid (DL X4 A11 L11 V) := by rw [hX4]; exact hd11.dl
  have hs8 : wc.heap.size + os11.size = X4.heap.size := by rw [hX4]; simp
  refine wp_world fun W8 hW8 => ?_
  rw [← hX4] at hW8
  have hp11 : DV W8 (wc.heap.size + os11.size) n11 A11 L11 c11 e3 := by rw [hW8, hs8]; exact DV.new rfl
  have hxW8 : Ext X4 W8 := by rw [hW8]; exact by repeat (first | with_reducible exact Ext.refl _ | with_reducible apply Ext.drew | with_reducible apply Ext.alloc | with_reducible apply Ext.more_)
  have hxw : Ext w W8 := (hxw.trans hxX4).trans hxW8
  have HD11 : Hid (DL W8 A11 L11 V) := HD11.out.ext hxW8
  clear hW8 hX4 hd11 hx c0 c1 c2 l7 m0 m1 m2 lM hp7 hpM hpl HD7 HM hxX4 hxW8 hs8
  generalize wc.heap.size + os11.size = p11 at *
  obtain ⟨Y, hYr, hYl, hYa, hYv⟩ := HD11.out
  have v0 := hp11.c0
  have v1 := hp11.c1
  have lv := hp11.lt
  have HYR := Lib.hid hYr
  have HYL := Lib.hid hYl
  have HYV := Lib.hid hYv
  clear hYr hYl hYv hYa HD11
  go_wp2_with fail
  go_loop [12] (fun i => ∃ j : Nat, j ≤ L11 ∧ i = .int .i64 (j : Int) ∧ Hid (∀ k, k < j → Y[k]? = some 0)) (fun i => L11 - (intOf i).toNat)
  case atStart => exact ⟨0, Nat.zero_le _, rfl, fun k hk => absurd hk (Nat.not_lt_zero k)⟩
  case round =>
    obtain ⟨j, hj, rfl, HJ⟩ := hrel
    by_cases hjL : j < L11
    · obtain ⟨d, hd⟩ : ∃ d, Y[j]? = some d := ⟨Y[j]'(by have := HYL.out; omega), by rw [List.getElem?_eq_getElem]⟩
      obtain ⟨bx, ox, hAx, _, hcx⟩ := Rd.at_ HYR.out hd
      rw [hAx] at v1
      clear hAx
      have HD := Lib.hid hd
      clear hd
      by_cases h0 : d = 0
      · have e0 : ((d : Int) == 0) = true := by simp [h0]
        have HD0 := Lib.hid h0
        clear h0
        go_wp2_with fail
        refine ⟨⟨j + 1, by omega, by go_num, fun k hk => ?_⟩, by simp [intOf]; omega⟩
        by_cases hkj : k < j
        · exact HJ.out k hkj
        · rw [show k = j by omega, HD.out, HD0.out]
      · have e0 : ((d : Int) == 0) = false := by simp; omega
        go_wp2_with fail
        exact bodyPost_ret (v := .bool !n11) (by simp [results, Tryd.results43, go_sem]; done) rfl ⟨rfl, hxw⟩
    · have HE : Hid (V = 0) := by
        show V = 0
        rw [← HYV.out, List.eq_replicate_of_mem (l := Y) (a := 0) ?_, val_rep0]
        intro x hx
        obtain ⟨k, hk, rfl⟩ := List.getElem_of_mem hx
        have h2 := HJ.out k (by have := HYL.out; omega)
        rw [List.getElem?_eq_getElem hk] at h2
        exact Option.some.inj h2
      have hn := HR0.out HE.out
      have HN := Lib.hid hn
      clear hn
      go_wp2_with fail
      exact bodyPost_ret (v := .bool true) (by simp [results, Tryd.results43, go_sem]; done) rfl ⟨by rw [HN.out], hxw⟩
end Go.Proofs.YtihfiegopnjeiaaDoor
