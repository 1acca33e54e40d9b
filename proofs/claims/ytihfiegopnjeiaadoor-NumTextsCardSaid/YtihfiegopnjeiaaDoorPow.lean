/- num.Pow and the reference's. -/
import Derived.Test.YtihfiegopnjeiaaDoorMul
import Derived.Test.YtihfiegopnjeiaaDoorRMul
namespace Go.Proofs.YtihfiegopnjeiaaDoor
set_option linter.unusedSimpArgs false
set_option linter.unusedVariables false
open Go.RowKit NM

/-- a, n times a factor. -/
def powN (m e : Int) : Nat → Option (Int × Int)
  | 0 => some (1, 0)
  | n + 1 => (powN m e n).bind fun p => mulS p.1 p.2 m e
/-- P1.2's power. -/
def powS (m e n : Int) : Option (Int × Int) :=
  if ¬ Rt m e ∨ n < -1000 ∨ 1000 < n then none
  else if n < 0 then (powN m e (-n).toNat).bind fun p => divS 1 0 p.1 p.2
  else powN m e n.toNat
theorem mul_rt {ma ea mb eb : Int} {p : Int × Int} (h : mulS ma ea mb eb = some p) : Rt p.1 p.2 := by
  unfold mulS at h
  split at h
  · exact rnd_right h
  · cases h
theorem pow_rt {m e : Int} : ∀ {n : Nat} {p : Int × Int}, powN m e n = some p → Rt p.1 p.2
  | 0, p, h => by cases h; exact rt_one
  | n + 1, p, h => by
    rw [powN] at h
    cases hp : powN m e n with
    | none => rw [hp] at h; cases h
    | some q => rw [hp] at h; exact mul_rt h
theorem pow_step {m e : Int} {n : Nat} {p : Int × Int} (h : powN m e n = some p) : powN m e (n + 1) = mulS p.1 p.2 m e := by rw [powN, h]; rfl
theorem pow_none {m e : Int} {n : Nat} (h : powN m e n = none) : ∀ k, powN m e (n + k) = none
  | 0 => h
  | k + 1 => by rw [← Nat.add_assoc, powN, pow_none h k]; rfl
theorem Rt_i64 {m e : Int} (h : Rt m e) : I64 m ∧ I64 e := by
  obtain ⟨b1, b2, b3⟩ := Rt_bd h
  unfold I64; omega
/-- A variable of type Num in block p. -/
def PV (w : World) (p : Nat) (m e : Int) : Prop := w.heap[p]? = some (.cells #[.int .i64 m, .int .i64 e] 24 (0, 0))
theorem PV.c0 {w : World} {p : Nat} {m e : Int} (h : PV w p m e) : w.cell? ⟨p, 0, none⟩ = some (.int .i64 m) := by rw [cell_of_row w p 0 _ _ (0, 0) h]; rfl
theorem PV.c1 {w : World} {p : Nat} {m e : Int} (h : PV w p m e) : w.cell? ⟨p, 1, none⟩ = some (.int .i64 e) := by rw [cell_of_row w p 1 _ _ (0, 0) h]; rfl
theorem PV.fz {w : World} {p : Nat} {m e : Int} (h : PV w p m e) (o : Nat) : w.frozen? ⟨p, o, none⟩ = false := frozen_of_row w p o _ _ h
theorem PV.lt {w : World} {p : Nat} {m e : Int} (h : PV w p m e) : p < w.heap.size := lt_block h
theorem PV.ext {w w' : World} {p : Nat} {m e : Int} (h : PV w p m e) (hx : Ext w w') : PV w' p m e := by unfold PV; rw [hx.block h.lt]; exact h
theorem PV.set {w : World} {p : Nat} {m e : Int} (h : PV w p m e) (m' e' : Int) : PV ((w.setCell ⟨p, 0, none⟩ (.int .i64 m')).setCell ⟨p, 1, none⟩ (.int .i64 e')) p m' e' := by
  have h1 := heap_setCell_same w p 0 _ _ (.int .i64 m') h
  have h2 := heap_setCell_same _ p 1 _ _ (.int .i64 e') h1
  exact h2
theorem PV.new {w : World} {n : Nat} (m e : Int) (hn : n = w.heap.size) : PV (w.alloc (.cells #[.int .i64 m, .int .i64 e] 24)) n m e := by subst hn; exact Array.getElem?_push_size
set_option maxRecDepth 100000 in
set_option maxHeartbeats 4000000 in
theorem pow_pos (m ex : Int) (n : Nat) (w : World) (htab : Tab w) (h : Rt m ex) (hn : n ≤ 1000) :
    Calls Tryd.prog 34 #[NV m ex, .int .i64 (n : Int)] w fun e w' => e = .returned (rnV (powN m ex n)) ∧ Ext w w' := by
  have r1 := rtB_yes h
  obtain ⟨hm, he⟩ := Rt_i64 h
  generalize hRR : powN m ex n = R
  have HRR := Lib.hid hRR
  have HT := Lib.hid htab
  have HR := Lib.hid h
  clear hRR htab h
  have hn1 : ¬ ((n : Int) < -1000) := by omega
  have hn2 : ¬ (1000 < (n : Int)) := by omega
  have hn3 : ¬ ((n : Int) < 0) := by omega
  go_enter Tryd.func34, Tryd.ntmps34
  go_upto_region 9 with (go_at_call 17; (with_reducible refine (right_rt _ _ _ (by assumption)).mono ?_); rintro e w' ⟨rfl, hbr⟩; obtain ⟨osr, dr, rfl⟩ := hbr.more)
  refine wp_world fun W hW => ?_
  have c0 : W.cell? ⟨w.heap.size, 0, none⟩ = some (.int .i64 m) := by rw [hW]; go_simp
  have c1 : W.cell? ⟨w.heap.size, 1, none⟩ = some (.int .i64 ex) := by rw [hW]; go_simp
  have c2 : W.cell? ⟨w.heap.size + 1, 0, none⟩ = some (.int .i64 0) := by rw [hW]; go_simp
  have c3 : W.cell? ⟨w.heap.size + 1, 1, none⟩ = some (.int .i64 0) := by rw [hW]; go_simp
  have f2 : W.frozen? ⟨w.heap.size + 1, 0, none⟩ = false := by rw [hW]; go_simp
  have f3 : W.frozen? ⟨w.heap.size + 1, 1, none⟩ = false := by rw [hW]; go_simp
  have o0 : W.cell? ⟨w.heap.size + 1 + 1 + osr.size, 0, none⟩ = some (.int .i64 1) := by rw [hW]; go_simp
  have o1 : W.cell? ⟨w.heap.size + 1 + 1 + osr.size, 1, none⟩ = some (.int .i64 0) := by rw [hW]; go_simp
  have hz1 : w.heap.size + 1 < W.heap.size := by rw [hW]; simp; try omega
  have hz0 : w.heap.size < W.heap.size := by omega
  have hxW : Ext w W := by rw [hW]; exact by repeat (first | with_reducible exact Ext.refl _ | with_reducible apply Ext.drew | with_reducible apply Ext.alloc | with_reducible apply Ext.more_)
  clear hW hbr
  have hPV : PV (W.alloc (.cells #[.int .i64 1, .int .i64 0] 24)) W.heap.size 1 0 := PV.new 1 0 rfl
  have HPV := Lib.hid hPV
  clear hPV
  go_wp2
  go_loopw [44] (fun i wr => ∃ (j : Nat) (p : Int × Int), j ≤ n ∧ i = .int .i64 (j : Int) ∧ Hid (PV wr W.heap.size p.1 p.2) ∧ Hid (powN m ex j = some p) ∧ Ext W wr) (fun i _ => n - (intOf i).toNat)
  case atStart => exact ⟨0, (1, 0), Nat.zero_le _, rfl, HPV, by show _ = _; rfl, (Ext.refl _).alloc _⟩
  case round =>
    obtain ⟨j, p, hj, rfl, HP, HJ, hxr⟩ := hrel
    have p0 := HP.out.c0
    have p1 := HP.out.c1
    have pf0 := HP.out.fz 0
    have pf1 := HP.out.fz 1
    have plt := HP.out.lt
    have hsz := hxr.size
    have c0' := hxr.cell_some c0
    have c1' := hxr.cell_some c1
    have hz1' : w.heap.size + 1 < wr.heap.size := by omega
    have hz0' : w.heap.size < wr.heap.size := by omega
    by_cases hlt : j < n
    · have hst := pow_step HJ.out
      have hmu := mul_any p.1 p.2 m ex wr ((HT.out.ext hxW).ext hxr) (Rt_i64 (pow_rt HJ.out)).1 hm
      rw [← hst] at hmu
      cases hq : powN m ex (j + 1) with
      | none =>
        rw [hq] at hmu
        have HN : Hid (R = none) := by
          show _ = _
          have := pow_none hq (n - (j + 1))
          rw [show j + 1 + (n - (j + 1)) = n by omega] at this
          rw [← HRR.out, this]
        have c2' := hxr.cell_some c2
        have c3' := hxr.cell_some c3
        have f2' := (hxr.frozen (p := ⟨w.heap.size + 1, 0, none⟩) hz1).trans f2
        have f3' := (hxr.frozen (p := ⟨w.heap.size + 1, 1, none⟩) hz1).trans f3
        clear hst hq
        go_wp2_with (go_at_call 29; (with_reducible refine hmu.mono ?_); rintro e w' ⟨rfl, hx⟩; obtain ⟨os2, d2, rfl⟩ := hx.more)
        refine bodyPost_ret (v := .tuple #[NV 0 0, .bool false]) (by simp [results, Tryd.results34, go_sem, hz1', c2', c3']; done) rfl ⟨?_, ((((hxW.trans hxr).set _ (Nat.le_succ _)).set _ (Nat.le_succ _)).more_ _ _).alloc _⟩
        rw [HN.out]; rfl
      | some q =>
        rw [hq] at hmu
        have HQ := Lib.hid hq
        clear hst hq
        go_wp2_with (go_at_call 29; (with_reducible refine hmu.mono ?_); rintro e w' ⟨rfl, hx⟩; obtain ⟨os2, d2, rfl⟩ := hx.more)
        exact ⟨⟨j + 1, q, by omega, by go_num, (((HP.out.set q.1 q.2).ext (ext_more _ os2 d2)).ext ((Ext.refl _).alloc _)), HQ, ((((hxr.set _ (Nat.le_refl _)).set _ (Nat.le_refl _)).more_ _ _).alloc _)⟩, by simp [intOf]; omega⟩
    · obtain rfl : j = n := by omega
      have HN : Hid (R = some p) := by show _ = _; rw [← HRR.out, HJ.out]
      have c2' := hxr.cell_some c2
      have c3' := hxr.cell_some c3
      have f2' := (hxr.frozen (p := ⟨w.heap.size + 1, 0, none⟩) hz1).trans f2
      have f3' := (hxr.frozen (p := ⟨w.heap.size + 1, 1, none⟩) hz1).trans f3
      go_wp2
      refine bodyPost_ret (v := .tuple #[NV p.1 p.2, .bool true]) (by simp [results, Tryd.results34, go_sem, hz1', c2', c3']; done) rfl ⟨?_, ((hxW.trans hxr).set _ (Nat.le_succ _)).set _ (Nat.le_succ _)⟩
      rw [HN.out]; rfl
set_option maxRecDepth 100000 in
set_option maxHeartbeats 4000000 in
theorem pow_any (m ex n : Int) (w : World) (htab : Tab w) (hm : I64 m) (hn : I64 n) :
    Calls Tryd.prog 34 #[NV m ex, .int .i64 n] w fun e w' => e = .returned (rnV (powS m ex n)) ∧ Ext w w' := by
  by_cases h : Rt m ex
  · have r1 := rtB_yes h
    by_cases h1 : n < -1000
    · have hs : powS m ex n = none := by unfold powS; rw [if_pos (Or.inr (Or.inl h1))]
      rw [hs]
      clear hs h
      go_enter Tryd.func34, Tryd.ntmps34
      go_wp2_with (go_at_call 17; (with_reducible refine (right_rt _ _ _ (by assumption)).mono ?_); rintro e w' ⟨rfl, hbr⟩; obtain ⟨osr, dr, rfl⟩ := hbr.more)
      exact bodyPost_ret (v := .tuple #[NV 0 0, .bool false]) (by simp [results, Tryd.results34, go_sem]; done) rfl ⟨rfl, by repeat (first | with_reducible exact Ext.refl _ | with_reducible apply Ext.drew | with_reducible apply Ext.alloc | with_reducible apply Ext.more_)⟩
    · by_cases h2 : 1000 < n
      · have hs : powS m ex n = none := by unfold powS; rw [if_pos (Or.inr (Or.inr h2))]
        rw [hs]
        clear hs h
        go_enter Tryd.func34, Tryd.ntmps34
        go_wp2_with (go_at_call 17; (with_reducible refine (right_rt _ _ _ (by assumption)).mono ?_); rintro e w' ⟨rfl, hbr⟩; obtain ⟨osr, dr, rfl⟩ := hbr.more)
        exact bodyPost_ret (v := .tuple #[NV 0 0, .bool false]) (by simp [results, Tryd.results34, go_sem]; done) rfl ⟨rfl, by repeat (first | with_reducible exact Ext.refl _ | with_reducible apply Ext.drew | with_reducible apply Ext.alloc | with_reducible apply Ext.more_)⟩
      · by_cases h3 : n < 0
        · obtain ⟨k, hk⟩ : ∃ k : Nat, -n = (k : Int) := ⟨(-n).toNat, by omega⟩
          have hs : powS m ex n = (powN m ex k).bind fun p => divS 1 0 p.1 p.2 := by
            unfold powS; rw [if_neg (by rintro (h4 | h4 | h4); exact h4 h; omega; omega), if_pos h3, hk]; rfl
          have hpp := fun W hW => pow_pos m ex k W hW h (by omega)
          have hdv := fun W hW (p : Int × Int) (hp : powN m ex k = some p) => div_any 1 0 p.1 p.2 W hW (Rt_i64 rt_one).1 (Rt_i64 (pow_rt hp)).1
          have w1 : wrap64 (-n) = -n := IntWalk.wrap64_in _ (by omega)
          have HT := Lib.hid htab
          rw [hs]
          cases hp : powN m ex k with
          | none =>
            rw [hp] at hpp
            clear hs h hdv hp htab
            go_enter Tryd.func34, Tryd.ntmps34
            go_wp2_with (first | (go_at_call 17; (with_reducible refine (right_rt _ _ _ (by assumption)).mono ?_); rintro e w' ⟨rfl, hbr⟩; obtain ⟨osr, dr, rfl⟩ := hbr.more) | (go_at_call 34; (with_reducible refine (hpp _ (HT.out.ext (by repeat (first | with_reducible exact Ext.refl _ | with_reducible apply Ext.drew | with_reducible apply Ext.alloc | with_reducible apply Ext.more_)))).mono ?_); rintro e w' ⟨rfl, hx⟩; obtain ⟨os2, d2, rfl⟩ := hx.more))
            exact bodyPost_ret (v := .tuple #[NV 0 0, .bool false]) (by simp [results, Tryd.results34, go_sem]; done) rfl ⟨rfl, by repeat (first | with_reducible exact Ext.refl _ | with_reducible apply Ext.drew | with_reducible apply Ext.alloc | with_reducible apply Ext.more_)⟩
          | some p =>
            have hd := fun W hW => hdv W hW p hp
            rw [hp] at hpp
            show Calls _ _ _ _ fun e w' => e = .returned (rnV (divS 1 0 p.1 p.2)) ∧ Ext w w'
            generalize divS 1 0 p.1 p.2 = R at *
            clear hs h hdv hp htab
            go_enter Tryd.func34, Tryd.ntmps34
            go_wp2_with (first | (go_at_call 17; (with_reducible refine (right_rt _ _ _ (by assumption)).mono ?_); rintro e w' ⟨rfl, hbr⟩; obtain ⟨osr, dr, rfl⟩ := hbr.more) | (go_at_call 34; (with_reducible refine (hpp _ (HT.out.ext (by repeat (first | with_reducible exact Ext.refl _ | with_reducible apply Ext.drew | with_reducible apply Ext.alloc | with_reducible apply Ext.more_)))).mono ?_); rintro e w' ⟨rfl, hx⟩; obtain ⟨os2, d2, rfl⟩ := hx.more) | (go_at_call 31; refine (hd _ (HT.out.ext (by repeat (first | with_reducible exact Ext.refl _ | with_reducible apply Ext.drew | with_reducible apply Ext.alloc | with_reducible apply Ext.more_)))).mono ?_; rintro e w' ⟨rfl, hx⟩; obtain ⟨os3, d3, rfl⟩ := hx.more))
            exact bodyPost_ret (v := rnV R) (by simp [results, Tryd.results34, go_sem]; done) rfl ⟨rfl, by repeat (first | with_reducible exact Ext.refl _ | with_reducible apply Ext.drew | with_reducible apply Ext.alloc | with_reducible apply Ext.more_)⟩
        · obtain ⟨k, rfl⟩ : ∃ k : Nat, n = (k : Int) := ⟨n.toNat, by omega⟩
          have hs : powS m ex (k : Int) = powN m ex k := by
            unfold powS; rw [if_neg (by rintro (h4 | h4 | h4); exact h4 h; omega; omega), if_neg h3]; rfl
          rw [hs]
          exact pow_pos m ex k w htab h (by omega)
  · have r1 := rtB_no h
    have hs : powS m ex n = none := by unfold powS; rw [if_pos (Or.inl h)]
    rw [hs]
    clear hs h
    go_enter Tryd.func34, Tryd.ntmps34
    go_wp2_with (go_at_call 17; (with_reducible refine (right_rt _ _ _ (by assumption)).mono ?_); rintro e w' ⟨rfl, hbr⟩; obtain ⟨osr, dr, rfl⟩ := hbr.more)
    exact bodyPost_ret (v := .tuple #[NV 0 0, .bool false]) (by simp [results, Tryd.results34, go_sem]; done) rfl ⟨rfl, by repeat (first | with_reducible exact Ext.refl _ | with_reducible apply Ext.drew | with_reducible apply Ext.alloc | with_reducible apply Ext.more_)⟩

set_option maxRecDepth 100000 in
set_option maxHeartbeats 4000000 in
theorem rpow_yes (m ex n : Int) (k : Nat) (w : World) (h : Rt m ex) (hn1 : ¬ n < -1000) (hn2 : ¬ 1000 < n) (hk : k = n.natAbs) :
    Calls Tryd.prog 35 #[NV m ex, .int .i64 n] w fun e w' => e = .returned (rnV (if n < 0 then (powN m ex k).bind fun p => divS 1 0 p.1 p.2 else powN m ex k)) ∧ Ext w w' := by
  have r1 := rtB_yes h
  obtain ⟨hm, he⟩ := Rt_i64 h
  generalize hRR : (if n < 0 then (powN m ex k).bind fun p => divS 1 0 p.1 p.2 else powN m ex k) = R
  have HRR := Lib.hid hRR
  have HR := Lib.hid h
  have HK := Lib.hid hk
  have hkb : k ≤ 1000 := by omega
  clear hRR h hk
  go_enter Tryd.func35, Tryd.ntmps35
  go_upto_region 3 with (go_at_call 18; (with_reducible refine (rright_rt _ _ _ (by assumption)).mono ?_); rintro e w' ⟨rfl, hbr⟩; obtain ⟨osr, dr, rfl⟩ := hbr.more)
  refine wp_world fun W hW => ?_
  have c0 : W.cell? ⟨w.heap.size, 0, none⟩ = some (.int .i64 m) := by rw [hW]; go_simp
  have c1 : W.cell? ⟨w.heap.size, 1, none⟩ = some (.int .i64 ex) := by rw [hW]; go_simp
  have c2 : W.cell? ⟨w.heap.size + 1, 0, none⟩ = some (.int .i64 0) := by rw [hW]; go_simp
  have c3 : W.cell? ⟨w.heap.size + 1, 1, none⟩ = some (.int .i64 0) := by rw [hW]; go_simp
  have f2 : W.frozen? ⟨w.heap.size + 1, 0, none⟩ = false := by rw [hW]; go_simp
  have f3 : W.frozen? ⟨w.heap.size + 1, 1, none⟩ = false := by rw [hW]; go_simp
  have hz1 : w.heap.size + 1 < W.heap.size := by rw [hW]; simp; try omega
  have hz0 : w.heap.size < W.heap.size := by omega
  have hxW : Ext w W := by rw [hW]; exact by repeat (first | with_reducible exact Ext.refl _ | with_reducible apply Ext.drew | with_reducible apply Ext.alloc | with_reducible apply Ext.more_)
  clear hW hbr
  go_upto_if 25 with fail
  go_cut [6] (fun s6 wx => s6 = .int .i64 (k : Int) ∧ wx = W)
  case first =>
    by_cases hng : n < 0
    · have w1 : wrap64 (-n) = -n := IntWalk.wrap64_in _ (by omega)
      have HE : Hid (-n = (k : Int)) := by show _ = _; rw [HK.out]; omega
      go_wp2
      go_meet
      exact ⟨by first | rw [w1, HE.out] | rw [HE.out], rfl⟩
    · have HE : Hid (n = (k : Int)) := by show _ = _; rw [HK.out]; omega
      go_wp2
      go_meet
      exact ⟨by rw [← HE.out], rfl⟩
  case rest =>
  obtain ⟨rfl, rfl⟩ := hcut
  have HPV := Lib.hid (PV.new (w := wc) 1 0 rfl)
  go_wp2
  go_loopw [8] (fun i wr => ∃ (j : Nat) (p : Int × Int), j ≤ k ∧ i = .int .i64 (j : Int) ∧ Hid (PV wr wc.heap.size p.1 p.2) ∧ Hid (powN m ex j = some p) ∧ Ext wc wr) (fun i _ => k - (intOf i).toNat)
  case atStart => exact ⟨0, (1, 0), Nat.zero_le _, rfl, HPV, by show _ = _; rfl, (Ext.refl _).alloc _⟩
  case round =>
    obtain ⟨j, p, hj, rfl, HP, HJ, hxr⟩ := hrel
    have p0 := HP.out.c0
    have p1 := HP.out.c1
    have pf0 := HP.out.fz 0
    have pf1 := HP.out.fz 1
    have plt := HP.out.lt
    have hsz := hxr.size
    have c0' := hxr.cell_some c0
    have c1' := hxr.cell_some c1
    have hz1' : w.heap.size + 1 < wr.heap.size := by omega
    have hz0' : w.heap.size < wr.heap.size := by omega
    have c2' := hxr.cell_some c2
    have c3' := hxr.cell_some c3
    have f2' := (hxr.frozen (p := ⟨w.heap.size + 1, 0, none⟩) hz1).trans f2
    have f3' := (hxr.frozen (p := ⟨w.heap.size + 1, 1, none⟩) hz1).trans f3
    by_cases hlt : j < k
    · have hst := pow_step HJ.out
      have hmu := rmul_any p.1 p.2 m ex wr (Rt_i64 (pow_rt HJ.out)).1 hm
      rw [← hst] at hmu
      cases hq : powN m ex (j + 1) with
      | none =>
        rw [hq] at hmu
        have HN : Hid (R = none) := by
          show _ = _
          have := pow_none hq (k - (j + 1))
          rw [show j + 1 + (k - (j + 1)) = k by omega] at this
          rw [← HRR.out, this]
          split <;> rfl
        clear hst hq
        go_wp2_with (go_at_call 30; (with_reducible refine hmu.mono ?_); rintro e w' ⟨rfl, hx⟩; obtain ⟨os2, d2, rfl⟩ := hx.more)
        refine bodyPost_ret (v := .tuple #[NV 0 0, .bool false]) (by simp [results, Tryd.results35, go_sem, hz1', c2', c3']; done) rfl ⟨?_, ((((hxW.trans hxr).set _ (Nat.le_succ _)).set _ (Nat.le_succ _)).more_ _ _).alloc _⟩
        rw [HN.out]; rfl
      | some q =>
        rw [hq] at hmu
        have HQ := Lib.hid hq
        clear hst hq
        go_wp2_with (go_at_call 30; (with_reducible refine hmu.mono ?_); rintro e w' ⟨rfl, hx⟩; obtain ⟨os2, d2, rfl⟩ := hx.more)
        exact ⟨⟨j + 1, q, by omega, by go_num, (((HP.out.set q.1 q.2).ext (ext_more _ os2 d2)).ext ((Ext.refl _).alloc _)), HQ, ((((hxr.set _ (Nat.le_refl _)).set _ (Nat.le_refl _)).more_ _ _).alloc _)⟩, by simp [intOf]; omega⟩
    · obtain rfl : j = k := by omega
      by_cases hng : n < 0
      · have HN : Hid (R = divS 1 0 p.1 p.2) := by show _ = _; rw [← HRR.out, if_pos hng, HJ.out]; rfl
        have hdv := rdiv_any 1 0 p.1 p.2 wr (Rt_i64 rt_one).1 (Rt_i64 (pow_rt HJ.out)).1
        rw [← HN.out] at hdv
        go_wp2_with (go_at_call 32; (refine hdv.mono ?_); rintro e w' ⟨rfl, hx⟩; obtain ⟨os2, d2, rfl⟩ := hx.more)
        exact bodyPost_ret (v := rnV R) (by simp [results, Tryd.results35, go_sem, hz1', c2', c3']; done) rfl ⟨rfl, (((hxW.trans hxr).set _ (Nat.le_succ _)).set _ (Nat.le_succ _)).more_ _ _⟩
      · have HN : Hid (R = some p) := by show _ = _; rw [← HRR.out, if_neg hng, HJ.out]
        go_wp2
        refine bodyPost_ret (v := .tuple #[NV p.1 p.2, .bool true]) (by simp [results, Tryd.results35, go_sem, hz1', c2', c3']; done) rfl ⟨?_, ((hxW.trans hxr).set _ (Nat.le_succ _)).set _ (Nat.le_succ _)⟩
        rw [HN.out]; rfl
set_option maxRecDepth 100000 in
set_option maxHeartbeats 4000000 in
theorem rpow_any (m ex n : Int) (w : World) (hm : I64 m) (hn : I64 n) :
    Calls Tryd.prog 35 #[NV m ex, .int .i64 n] w fun e w' => e = .returned (rnV (powS m ex n)) ∧ Ext w w' := by
  by_cases h : Rt m ex
  · have r1 := rtB_yes h
    by_cases h1 : n < -1000
    · have hs : powS m ex n = none := by unfold powS; rw [if_pos (Or.inr (Or.inl h1))]
      rw [hs]
      clear hs h
      go_enter Tryd.func35, Tryd.ntmps35
      go_wp2_with (go_at_call 18; (with_reducible refine (rright_rt _ _ _ (by assumption)).mono ?_); rintro e w' ⟨rfl, hbr⟩; obtain ⟨osr, dr, rfl⟩ := hbr.more)
      exact bodyPost_ret (v := .tuple #[NV 0 0, .bool false]) (by simp [results, Tryd.results35, go_sem]; done) rfl ⟨rfl, by repeat (first | with_reducible exact Ext.refl _ | with_reducible apply Ext.drew | with_reducible apply Ext.alloc | with_reducible apply Ext.more_)⟩
    · by_cases h2 : 1000 < n
      · have hs : powS m ex n = none := by unfold powS; rw [if_pos (Or.inr (Or.inr h2))]
        rw [hs]
        clear hs h
        go_enter Tryd.func35, Tryd.ntmps35
        go_wp2_with (go_at_call 18; (with_reducible refine (rright_rt _ _ _ (by assumption)).mono ?_); rintro e w' ⟨rfl, hbr⟩; obtain ⟨osr, dr, rfl⟩ := hbr.more)
        exact bodyPost_ret (v := .tuple #[NV 0 0, .bool false]) (by simp [results, Tryd.results35, go_sem]; done) rfl ⟨rfl, by repeat (first | with_reducible exact Ext.refl _ | with_reducible apply Ext.drew | with_reducible apply Ext.alloc | with_reducible apply Ext.more_)⟩
      · have hs : powS m ex n = if n < 0 then (powN m ex n.natAbs).bind fun p => divS 1 0 p.1 p.2 else powN m ex n.natAbs := by
          unfold powS
          rw [if_neg (by rintro (h4 | h4 | h4); exact h4 h; omega; omega)]
          by_cases h3 : n < 0
          · rw [if_pos h3, if_pos h3, show (-n).toNat = n.natAbs by omega]
          · rw [if_neg h3, if_neg h3, show n.toNat = n.natAbs by omega]
        rw [hs]
        exact rpow_yes m ex n _ w h h1 h2 rfl
  · have r1 := rtB_no h
    have hs : powS m ex n = none := by unfold powS; rw [if_pos (Or.inl h)]
    rw [hs]
    clear hs h
    go_enter Tryd.func35, Tryd.ntmps35
    go_wp2_with (go_at_call 18; (with_reducible refine (rright_rt _ _ _ (by assumption)).mono ?_); rintro e w' ⟨rfl, hbr⟩; obtain ⟨osr, dr, rfl⟩ := hbr.more)
    exact bodyPost_ret (v := .tuple #[NV 0 0, .bool false]) (by simp [results, Tryd.results35, go_sem]; done) rfl ⟨rfl, by repeat (first | with_reducible exact Ext.refl _ | with_reducible apply Ext.drew | with_reducible apply Ext.alloc | with_reducible apply Ext.more_)⟩
end Go.Proofs.YtihfiegopnjeiaaDoor
