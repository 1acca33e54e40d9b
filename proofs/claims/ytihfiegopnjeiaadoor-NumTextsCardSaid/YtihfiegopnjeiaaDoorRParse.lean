/- counterpaneref01.Parse. -/
import Derived.Test.YtihfiegopnjeiaaDoorAccD
namespace Go.Proofs.YtihfiegopnjeiaaDoor
set_option linter.unusedSimpArgs false
set_option linter.unusedVariables false
open Go.RowKit NM

theorem bl_extract (s : ByteArray) (i : Nat) : bl (s.extract i s.size) = (bl s).drop i := by
  unfold bl
  rw [ByteArray.data_extract, Array.toList_extract, List.extract_eq_take_drop, List.take_of_length_le (by rw [List.length_drop]; exact Nat.le_refl _), List.map_drop]
/-- What comes behind the sign and the digits. -/
def parP (ng : Bool) (n nb : Nat) (ds : List Nat) : Option Int → Option (Int × Int)
  | none => none
  | some e => if n + nb = 0 then none else rnd ng (val ds) false (e - nb)
def parT (ng : Bool) (n nb : Nat) (ds : List Nat) (l3 : List Nat) : Option (Int × Int) := parP ng n nb ds (powR l3)
theorem parP_some (ng : Bool) (n nb : Nat) (ds : List Nat) (e : Int) : parP ng n nb ds (some e) = if n + nb = 0 then none else rnd ng (val ds) false (e - nb) := rfl
theorem parR1_dot {ng : Bool} {l1 : List Nat} (h : (l1.drop (l1.takeWhile isD).length).head? = some 46) (hB : ((l1.drop ((l1.takeWhile isD).length + 1)).takeWhile isD).length ≠ 0) :
    parR1 ng l1 = parT ng (l1.takeWhile isD).length ((l1.drop ((l1.takeWhile isD).length + 1)).takeWhile isD).length (((l1.takeWhile isD) ++ ((l1.drop ((l1.takeWhile isD).length + 1)).takeWhile isD)).map (· - 48)) (l1.drop ((l1.takeWhile isD).length + 1 + ((l1.drop ((l1.takeWhile isD).length + 1)).takeWhile isD).length)) := by
  have d1 : l1.dropWhile isD = l1.drop (l1.takeWhile isD).length := by
    conv => rhs; arg 2; rw [split_d l1]
    rw [List.drop_left]
  have d2 : (l1.drop (l1.takeWhile isD).length).tail = l1.drop ((l1.takeWhile isD).length + 1) := by rw [List.tail_drop]
  have d3 : ∀ l : List Nat, l.dropWhile isD = l.drop (l.takeWhile isD).length := fun l => by
    conv => rhs; arg 2; rw [split_d l]
    rw [List.drop_left]
  unfold parR1 parT
  simp only [d1, d2, h, if_true, true_and]
  rw [if_neg (fun h0 => hB (by rw [h0]; rfl)), d3 (l1.drop ((l1.takeWhile isD).length + 1)), List.drop_drop]
  generalize powR _ = r
  cases r <;> rfl
theorem parR1_dot0 {ng : Bool} {l1 : List Nat} (h : (l1.drop (l1.takeWhile isD).length).head? = some 46) (hB : ((l1.drop ((l1.takeWhile isD).length + 1)).takeWhile isD).length = 0) : parR1 ng l1 = none := by
  have d1 : l1.dropWhile isD = l1.drop (l1.takeWhile isD).length := by
    conv => rhs; arg 2; rw [split_d l1]
    rw [List.drop_left]
  have d2 : (l1.drop (l1.takeWhile isD).length).tail = l1.drop ((l1.takeWhile isD).length + 1) := by rw [List.tail_drop]
  unfold parR1
  simp only [d1, d2, h, if_true, true_and]
  rw [if_pos (List.length_eq_zero_iff.1 hB)]
theorem parR1_not {ng : Bool} {l1 : List Nat} (h : (l1.drop (l1.takeWhile isD).length).head? ≠ some 46) :
    parR1 ng l1 = parT ng (l1.takeWhile isD).length 0 ((l1.takeWhile isD).map (· - 48)) (l1.drop (l1.takeWhile isD).length) := by
  have d1 : l1.dropWhile isD = l1.drop (l1.takeWhile isD).length := by
    conv => rhs; arg 2; rw [split_d l1]
    rw [List.drop_left]
  unfold parR1 parT
  simp only [d1, if_neg h, List.length_nil, List.append_nil]
  rw [if_neg (fun h0 => h h0.1)]
  generalize powR _ = r
  cases r <;> rfl
theorem tw_take (l : List Nat) : l.take (l.takeWhile isD).length = l.takeWhile isD := by
  conv => lhs; arg 2; rw [split_d l]
  rw [List.take_left]
theorem pow_bd {l : List Nat} {e : Int} (h : powR l = some e) : -1000 ≤ e ∧ e ≤ 1000 := by
  cases l with
  | nil => cases h; omega
  | cons c t =>
    rw [powR_cons] at h
    unfold powC at h
    split at h
    · cases h
    · simp only at h
      generalize (if t.head? = some 43 ∨ t.head? = some 45 then t.tail else t) = u at h
      by_cases hu : u = [] ∨ ¬ (∀ c ∈ u, isD c = true)
      · rw [if_pos hu] at h; cases h
      · rw [if_neg hu] at h
        have hb := fold_bd u 0 (by omega)
        have h := Option.some.inj h
        split at h <;> omega
theorem chr_all {a : List Nat} (h : ∀ c ∈ a, isD c = true) : AllD (a.map (· - 48)) := by
  intro d hd
  obtain ⟨c, hc, rfl⟩ := List.mem_map.1 hd
  have := isD_yes (h c hc)
  omega
set_option maxRecDepth 100000 in
set_option maxHeartbeats 2000000 in
theorem rparse_any (s : ByteArray) (w : World) (hs : s.size ≤ 1000) :
    Calls Tryd.prog 20 #[.string s] w fun r w' => r = .returned (rnV (if 255 < s.size then none else parR (bl s))) ∧ Ext w w' := by
  by_cases hlen : 255 < s.size
  · rw [if_pos hlen]
    go_enter Tryd.func20, Tryd.ntmps20
    go_wp2_with fail
    exact bodyPost_ret (v := .tuple #[NV 0 0, .bool false]) (by simp [results, Tryd.results20, go_sem]; done) rfl ⟨rfl, by repeat (first | with_reducible exact Ext.refl _ | with_reducible apply Ext.drew | with_reducible apply Ext.alloc | with_reducible apply Ext.more_)⟩
  · rw [if_neg hlen]
    generalize hR : parR (bl s) = R
    have HR := Lib.hid hR
    clear hR
    go_enter Tryd.func20, Tryd.ntmps20
    go_upto_region 5 with fail
    refine wp_world fun W hW => ?_
    have hX0 : PV (w.alloc (.cells #[.int .i64 0, .int .i64 0] 24)) w.heap.size 0 0 := PV.new 0 0 rfl
    have hXw : Ext w (w.alloc (.cells #[.int .i64 0, .int .i64 0] 24)) := (Ext.refl w).alloc _
    have hXs : (w.alloc (.cells #[.int .i64 0, .int .i64 0] 24)).heap.size = w.heap.size + 1 := by simp
    have hacc0 : AccD (w.alloc (.cells #[.int .i64 0, .int .i64 0] 24)) (w.heap.size + 1) false none 0 0 0 [] W := by
      refine ⟨by rw [hW]; exact (Ext.refl _).alloc _, by omega, ?_, World.ownsRow_nil _ _ _ _⟩
      rw [hW, ← hXs]
      exact Array.getElem?_push_size
    clear hW
    generalize w.alloc (.cells #[.int .i64 0, .int .i64 0] 24) = X at *
    have HS0 := Lib.hid hXs
    clear hXs
    have hq0 : w.heap.size < w.heap.size + 1 := by omega
    generalize w.heap.size + 1 = q at *
    obtain ⟨B, hB⟩ : ∃ B, B = decide ((bl s).head? = some 45) := ⟨_, rfl⟩
    have HB := Lib.hid hB
    have HACC := Lib.hid hacc0
    clear hB hacc0
    go_cut [24] (fun s24 wx => s24 = .bool B ∧ wx = W)
    case first =>
      by_cases h0 : 0 < s.size
      · have hh : (bl s).head? = some (s[0]'h0).toNat := by rw [List.head?_eq_getElem?]; exact bl_at s 0 h0
        by_cases h45 : ((s[0]'h0).toNat : Int) = 45
        · have hBt : B = true := by rw [HB.out, hh]; exact decide_eq_true (by congr 1; omega)
          subst hBt
          have e1 : (((s[0]'h0).toNat : Int) == 45) = true := by simp [h45]
          clear hh h45
          go_wp2_with fail
          go_meet
          exact ⟨rfl, rfl⟩
        · have hBt : B = false := by rw [HB.out, hh]; exact decide_eq_false (by simp; omega)
          subst hBt
          have e1 : (((s[0]'h0).toNat : Int) == 45) = false := by simpa using h45
          clear hh h45
          go_wp2_with fail
          go_meet
          exact ⟨rfl, rfl⟩
      · have hBt : B = false := by
          rw [HB.out]
          have : bl s = [] := List.length_eq_zero_iff.1 (by rw [bl_length]; omega)
          rw [this]; rfl
        subst hBt
        go_wp2_with fail
        go_meet
        exact ⟨rfl, rfl⟩
    case rest =>
    obtain ⟨rfl, hwc⟩ := hcut
    rw [hwc]
    clear hwc wc
    go_upto_if 24 with fail
    go_cut [5] (fun s5 wx => ∃ (p : Nat) (ng : Bool), s5 = .int .i64 (p : Int) ∧ p ≤ s.size ∧ Hid (R = parR1 ng ((bl s).drop p)) ∧ Hid (AccD X q ng none 0 0 0 [] wx))
    case first =>
      have a0 := HACC.out.fz 0
      have a1 := HACC.out.lt
      have a2 := HACC.out.cells.1
      cases B with
      | true =>
        have h2 := of_decide_eq_true HB.out.symm
        have h1 : 1 ≤ s.size := by
          have := bl_length s
          cases h : bl s with
          | nil => rw [h] at h2; cases h2
          | cons a l => rw [h] at this; simp at this; omega
        have HH := Lib.hid h2
        clear h2
        go_wp2_with fail
        go_meet
        refine ⟨1, true, rfl, h1, ?_, HACC.out.set0 true⟩
        show _ = _
        rw [← HR.out, parR_one, if_pos HH.out, decide_eq_true HH.out, ← List.drop_one]
      | false =>
        have h2 := of_decide_eq_false HB.out.symm
        have HH := Lib.hid h2
        clear h2
        go_wp2_with fail
        go_meet
        refine ⟨0, false, rfl, Nat.zero_le _, ?_, HACC⟩
        show _ = _
        rw [← HR.out, parR_one, if_neg HH.out, decide_eq_false HH.out, List.drop_zero]
    case rest =>
    obtain ⟨p, ng, rfl, hp, HRP, HA⟩ := hcut
    clear HR HB HACC
    obtain ⟨i0, hi0, hz0, hz1, hz2⟩ := info_parts info_int_
    have hrun := fun W => run_any s p W hs hp
    have HAT : Hid (∀ (m : Nat) (h : p + m < s.size), ((bl s).drop p)[m]? = some (s[p + m]'h).toNat) := fun m h => by rw [List.getElem?_drop]; exact bl_at s (p + m) h
    have hDl : ((bl s).drop p).length = s.size - p := by rw [List.length_drop, bl_length]
    have HDD : Hid (∀ k, (bl s).drop (p + k) = ((bl s).drop p).drop k) := fun k => by rw [List.drop_drop]
    generalize hD : (bl s).drop p = D at *
    have HTW : Hid (∀ m c, m < (D.takeWhile isD).length → D[m]? = some c → isD c = true) := fun m c h1 h2 => tw_lt D h1 h2
    have hLle := tw_le D
    have HLT := Lib.hid (tw_take D)
    generalize hL : (D.takeWhile isD).length = L at *
    have HL := Lib.hid hL
    have HDl := Lib.hid hDl
    have hLs : p + L ≤ s.size := by omega
    clear hL hD hDl hLle
    go_wp2_with (go_at_call 54; (with_reducible refine (hrun _).mono ?_); rintro e w' ⟨rfl, rfl⟩)
    go_loopw [8] (fun v8 wr => ∃ (j : Nat) (A : Option Addr) (cap : Nat), j ≤ L ∧ v8 = .int .i64 (j : Int) ∧ Hid (AccD X q ng A cap j 0 ((D.take j).map (· - 48)) wr)) (fun v8 _ => L - (intOf v8).toNat)
    case atStart => exact ⟨0, none, 0, Nat.zero_le _, rfl, HA⟩
    case round =>
      obtain ⟨j, A, cap, hj, rfl, H⟩ := hrel
      by_cases hjL : j < L
      · have hjs : p + j < s.size := by omega
        have hb := HAT.out j hjs
        obtain ⟨g1, g2⟩ := isD_yes (HTW.out j _ hjL hb)
        have HB := Lib.hid hb
        have hacc := H.out
        obtain ⟨x, hx⟩ : ∃ x, x = (s[p + j]'hjs).toNat - 48 := ⟨_, rfl⟩
        have w1 : IntKind.i64.wrap (((s[p + j]'hjs).toNat : Int) - 48) = (x : Int) := by rw [i64w (by omega) (by omega)]; omega
        have w0 : IntKind.i64.wrap ((s[p + j]'hjs).toNat : Int) = ((s[p + j]'hjs).toNat : Int) := i64w (by omega) (by omega)
        have w3 : IntKind.i64.wrap ((p : Int) + (j : Int)) = (p : Int) + (j : Int) := i64w (by omega) (by omega)
        have w4 : (0 : Int) ≤ (p : Int) + (j : Int) ∧ (p : Int) + (j : Int) < (s.size : Int) := by omega
        have w5 : ((p : Int) + (j : Int)).toNat = p + j := by omega
        have HX := Lib.hid hx
        clear hb g1 g2 hx
        go_upto_region 13 with fail
        refine wp_plan (S := AccDS _ _ _ _ _ _ _) [(0, 0), (1, 0), (2, 0), (3, 0), (4, 0), (5, 0), (6, 0), (7, 0), (8, 0), (9, 1), (10, 1), (11, 0), (12, 2)] [12] (by kernel_rfl) (by kernel_rfl) (by kernel_rfl) (fun _ _ d _ _ h => by cases d <;> exact h) ⟨(hacc.of_ext (by repeat (first | exact Ext.refl _ | with_reducible exact ext_d _ _ _ _ | with_reducible exact ext_app _ _ _ _ _ | with_reducible apply Ext.drew | with_reducible apply Ext.alloc | with_reducible apply Ext.more_ | apply Ext.drew | apply Ext.alloc | apply Ext.more_))).ext, (hacc.of_ext (by repeat (first | exact Ext.refl _ | with_reducible exact ext_d _ _ _ _ | with_reducible exact ext_app _ _ _ _ _ | with_reducible apply Ext.drew | with_reducible apply Ext.alloc | with_reducible apply Ext.more_ | apply Ext.drew | apply Ext.alloc | apply Ext.more_))).row⟩ ?_
        (refine wpPl_read (v := ?_) rfl ?_ (fun w1 h1 => ?_) ?_; rotate_left 1; rfl; (obtain ⟨h1e, h1r⟩ := h1; have c2 := cell_of_row _ _ 1 _ _ _ h1r; clear h1r; obtain ⟨os1, d1, rfl⟩ := h1e.more; go_simp; first | done | rfl))
        try simp only [Act.put, List.setIfInBounds_toArray, List.set_cons_zero, List.set_cons_succ]
        (refine wpPl_read (v := ?_) rfl ?_ (fun w1 h1 => ?_) ?_; rotate_left 1; rfl; (obtain ⟨h1e, h1r⟩ := h1; have c2 := cell_of_row _ _ 1 _ _ _ h1r; clear h1r; obtain ⟨os1, d1, rfl⟩ := h1e.more; go_simp; first | done | rfl))
        try simp only [Act.put, List.setIfInBounds_toArray, List.set_cons_zero, List.set_cons_succ]
        (refine wpPl_read (v := ?_) rfl ?_ (fun w1 h1 => ?_) ?_; rotate_left 1; rfl; (obtain ⟨h1e, h1r⟩ := h1; have c2 := cell_of_row _ _ 1 _ _ _ h1r; clear h1r; obtain ⟨os1, d1, rfl⟩ := h1e.more; go_simp; first | done | rfl))
        try simp only [Act.put, List.setIfInBounds_toArray, List.set_cons_zero, List.set_cons_succ]
        (refine wpPl_read (v := ?_) rfl ?_ (fun w1 h1 => ?_) ?_; rotate_left 1; rfl; (obtain ⟨h1e, h1r⟩ := h1; have c2 := cell_of_row _ _ 1 _ _ _ h1r; clear h1r; obtain ⟨os1, d1, rfl⟩ := h1e.more; go_simp; first | done | rfl))
        try simp only [Act.put, List.setIfInBounds_toArray, List.set_cons_zero, List.set_cons_succ]
        (refine wpPl_read (v := ?_) rfl ?_ (fun w1 h1 => ?_) ?_; rotate_left 1; rfl; (obtain ⟨h1e, h1r⟩ := h1; have c2 := cell_of_row _ _ 1 _ _ _ h1r; clear h1r; obtain ⟨os1, d1, rfl⟩ := h1e.more; go_simp; first | done | rfl))
        try simp only [Act.put, List.setIfInBounds_toArray, List.set_cons_zero, List.set_cons_succ]
        (refine wpPl_read (v := ?_) rfl ?_ (fun w1 h1 => ?_) ?_; rotate_left 1; rfl; (obtain ⟨h1e, h1r⟩ := h1; have c2 := cell_of_row _ _ 1 _ _ _ h1r; clear h1r; obtain ⟨os1, d1, rfl⟩ := h1e.more; go_simp; first | done | rfl))
        try simp only [Act.put, List.setIfInBounds_toArray, List.set_cons_zero, List.set_cons_succ]
        (refine wpPl_read (v := ?_) rfl ?_ (fun w1 h1 => ?_) ?_; rotate_left 1; rfl; (obtain ⟨h1e, h1r⟩ := h1; have c2 := cell_of_row _ _ 1 _ _ _ h1r; clear h1r; obtain ⟨os1, d1, rfl⟩ := h1e.more; go_simp; first | done | rfl))
        try simp only [Act.put, List.setIfInBounds_toArray, List.set_cons_zero, List.set_cons_succ]
        (refine wpPl_read (v := ?_) rfl ?_ (fun w1 h1 => ?_) ?_; rotate_left 1; rfl; (obtain ⟨h1e, h1r⟩ := h1; have c2 := cell_of_row _ _ 1 _ _ _ h1r; clear h1r; obtain ⟨os1, d1, rfl⟩ := h1e.more; go_simp; first | done | rfl))
        try simp only [Act.put, List.setIfInBounds_toArray, List.set_cons_zero, List.set_cons_succ]
        (refine wpPl_read (v := ?_) rfl ?_ (fun w1 h1 => ?_) ?_; rotate_left 1; rfl; (obtain ⟨h1e, h1r⟩ := h1; have c2 := cell_of_row _ _ 1 _ _ _ h1r; clear h1r; obtain ⟨os1, d1, rfl⟩ := h1e.more; go_simp; first | done | rfl))
        try simp only [Act.put, List.setIfInBounds_toArray, List.set_cons_zero, List.set_cons_succ]
        (refine wpPl_eff rfl ?_ (fun K hK => ?_); rfl; go_simp; refine hK _ _ ⟨(hacc.of_ext (by repeat (first | exact Ext.refl _ | with_reducible exact ext_d _ _ _ _ | with_reducible exact ext_app _ _ _ _ _ | with_reducible apply Ext.drew | with_reducible apply Ext.alloc | with_reducible apply Ext.more_ | apply Ext.drew | apply Ext.alloc | apply Ext.more_))).ext, (hacc.of_ext (by repeat (first | exact Ext.refl _ | with_reducible exact ext_d _ _ _ _ | with_reducible exact ext_app _ _ _ _ _ | with_reducible apply Ext.drew | with_reducible apply Ext.alloc | with_reducible apply Ext.more_ | apply Ext.drew | apply Ext.alloc | apply Ext.more_))).row⟩ ?_)
        try simp only [Act.put, List.setIfInBounds_toArray, List.set_cons_zero, List.set_cons_succ]
        (refine wpPl_eff rfl ?_ (fun K hK => ?_); rfl)
        refine wp_append_own _ _ _ _ rfl _ 3 i0 (.int .i64 0) 1 8 Tryd.underlying43 hi0 hz0 hz1 hz2 rfl (by decide) _ _ _ rfl (own_ext_ hacc.own (by repeat (first | exact Ext.refl _ | with_reducible exact ext_d _ _ _ _ | with_reducible exact ext_app _ _ _ _ _ | with_reducible apply Ext.drew | with_reducible apply Ext.alloc | with_reducible apply Ext.more_ | apply Ext.drew | apply Ext.alloc | apply Ext.more_))) _ 1 1 [.int .i64 (x : Int)] rfl rfl (Rd.one_ _ _ (by first | rfl | (simp; done))).add (one_i64 _) (by simp only [maxLen]; omega) (by omega) (by have := hacc.lt; simp; omega) ?_
        intro v3 w3 ho3 hg3
        obtain ⟨A2, cap2, rfl, hrow3, hex3, hacc2⟩ := hacc.step (by repeat (first | exact Ext.refl _ | with_reducible exact ext_d _ _ _ _ | with_reducible exact ext_app _ _ _ _ _ | with_reducible apply Ext.drew | with_reducible apply Ext.alloc | with_reducible apply Ext.more_ | apply Ext.drew | apply Ext.alloc | apply Ext.more_)) hg3 ho3
        refine hK _ _ ⟨hex3, hrow3⟩ ?_
        try simp only [Act.put, List.setIfInBounds_toArray, List.set_cons_zero, List.set_cons_succ]
        (refine wpPl_read (v := ?_) rfl ?_ (fun w1 h1 => ?_) ?_; rotate_left 1; rfl; (obtain ⟨h1e, h1r⟩ := h1; have c2 := cell_of_row _ _ 1 _ _ _ h1r; clear h1r; obtain ⟨os1, d1, rfl⟩ := h1e.more; go_simp; first | done | rfl))
        try simp only [Act.put, List.setIfInBounds_toArray, List.set_cons_zero, List.set_cons_succ]
        have c2 := cell_of_row _ _ 1 _ _ _ hrow3
        have f2 := frozen_of_row _ _ 1 _ _ hrow3
        clear hrow3 hex3 hg3 ho3
        (refine wpPl_tail rfl ?_ (fun K hK => ?_); rfl; go_simp; refine hK _ _ ?_)
        clear c2 f2
        try simp only [Act.put]
        refine wpPl_nil ?_
        go_wp2_with fail
        refine ⟨⟨j + 1, A2, cap2, by omega, by go_num, ?_⟩, by simp [intOf]; omega⟩
        show AccD _ _ _ _ _ _ _ _ _
        rw [take_at HB.out, List.map_append, List.map_singleton, ← HX.out]
        exact hacc2
      · obtain rfl : L = j := by omega
        clear hj hjL hrun HTW HAT HA
        go_upto_region 15 with fail
        obtain ⟨i1, hi1⟩ : ∃ i1 : Nat, (p : Int) + (L : Int) = (i1 : Int) := ⟨p + L, by omega⟩
        rw [hi1]
        have hi1' : i1 = p + L := by omega
        have hi1s : i1 ≤ s.size := by omega
        have HH : Hid (∀ h : i1 < s.size, (D.drop L).head? = some (s[i1]'h).toNat) := fun h => by
          rw [← HDD.out L, ← hi1', List.head?_drop]; exact bl_at s i1 h
        have HH0 : Hid (¬ i1 < s.size → (D.drop L).head? ≠ some 46) := fun h => by
          have : D.drop L = [] := List.drop_eq_nil_of_le (by rw [HDl.out]; omega)
          rw [this]; simp
        have HDD1 : Hid ((bl s).drop i1 = D.drop L) := by show _ = _; rw [hi1']; exact HDD.out L
        have HDD2 : Hid (∀ k, (bl s).drop (i1 + k) = D.drop (L + k)) := fun k => by rw [hi1', Nat.add_assoc]; exact HDD.out (L + k)
        clear hi1 hi1'
        have hX0r := hX0.ext H.out.ext
        have a0 := hX0r.c0
        have a1 := hX0r.c1
        have a2 := hX0r.fz 0
        have a3 := hX0r.fz 1
        have a4 := hX0r.lt
        have z0 := (hX0r.set 0 0).c0
        have z1 := (hX0r.set 0 0).c1
        obtain ⟨B2, hB2⟩ : ∃ B2, B2 = decide ((D.drop L).head? = some 46) := ⟨_, rfl⟩
        have HB2 := Lib.hid hB2
        clear hB2
        go_cut [58] (fun s58 wx => s58 = .bool B2 ∧ wx = wr)
        case first =>
          by_cases h1 : i1 < s.size
          · have hh := HH.out h1
            by_cases h46 : ((s[i1]'h1).toNat : Int) = 46
            · have hBt : B2 = true := by rw [HB2.out, hh]; exact decide_eq_true (by congr 1; omega)
              subst hBt
              have e1 : (((s[i1]'h1).toNat : Int) == 46) = true := by simp [h46]
              clear hh h46
              go_wp2_with fail
              go_meet
              exact ⟨rfl, rfl⟩
            · have hBt : B2 = false := by rw [HB2.out, hh]; exact decide_eq_false (by simp; omega)
              subst hBt
              have e1 : (((s[i1]'h1).toNat : Int) == 46) = false := by simpa using h46
              clear hh h46
              go_wp2_with fail
              go_meet
              exact ⟨rfl, rfl⟩
          · have hBt : B2 = false := by rw [HB2.out]; exact decide_eq_false (HH0.out h1)
            subst hBt
            have h1' : ¬ (i1 : Int) < (s.size : Int) := by omega
            go_wp2_with fail
            go_meet
            exact ⟨rfl, rfl⟩
        case rest =>
        obtain ⟨rfl, hwc⟩ := hcut
        rw [hwc]
        clear hwc wc
        go_upto_if 58 with fail
        go_cut [5, 7] (fun s5 s7 wx => ∃ (i2 nb k cap2 : Nat) (A2 : Option Addr) (ds : List Nat), s5 = .int .i64 (i2 : Int) ∧ s7 = .int .i64 (nb : Int) ∧ i2 ≤ s.size ∧ nb ≤ s.size ∧ k ≤ 510 ∧ Hid (AllD ds) ∧ Hid (R = parT ng L nb ds ((bl s).drop i2)) ∧ Hid (AccD X q ng A2 cap2 k 0 ds wx))
        case first =>
          cases B2 with
          | false =>
            have h46 := of_decide_eq_false HB2.out.symm
            have H46 := Lib.hid h46
            clear h46
            go_wp2_with fail
            go_meet
            refine ⟨i1, 0, L, cap, A, _, rfl, rfl, hi1s, Nat.zero_le _, by omega, ?_, ?_, H⟩
            · show AllD _
              rw [HLT.out]; exact chr_all (take_d D)
            · show _ = _
              rw [HRP.out, HDD1.out, HLT.out, ← HL.out]
              exact parR1_not (by rw [HL.out]; exact H46.out)
          | true =>
            have h46 := of_decide_eq_true HB2.out.symm
            have h1 : i1 < s.size := Decidable.byContradiction fun h => HH0.out h h46
            have H46 := Lib.hid h46
            clear h46
            obtain ⟨i2, hi2⟩ : ∃ i2 : Nat, (i1 : Int) + 1 = (i2 : Int) := ⟨i1 + 1, by omega⟩
            have hi2' : i2 = i1 + 1 := by omega
            have hi2s : i2 ≤ s.size := by omega
            have hrun := fun W => run_any s i2 W hs hi2s
            have hD2 : (bl s).drop i2 = D.drop (L + 1) := by rw [hi2']; exact HDD2.out 1
            have HAT : Hid (∀ (m : Nat) (h : i2 + m < s.size), (D.drop (L + 1))[m]? = some (s[i2 + m]'h).toNat) := fun m h => by rw [← hD2, List.getElem?_drop]; exact bl_at s (i2 + m) h
            have hDl : (D.drop (L + 1)).length = s.size - i2 := by rw [← hD2, List.length_drop, bl_length]
            rw [hD2] at hrun
            have HTW : Hid (∀ m c, m < ((D.drop (L + 1)).takeWhile isD).length → (D.drop (L + 1))[m]? = some c → isD c = true) := fun m c h1 h2 => tw_lt _ h1 h2
            have hLle := tw_le (D.drop (L + 1))
            have HLT2 := Lib.hid (tw_take (D.drop (L + 1)))
            have HTD := Lib.hid (take_d (D.drop (L + 1)))
            generalize hL2 : ((D.drop (L + 1)).takeWhile isD).length = nb at *
            have HL2 := Lib.hid hL2
            have HI2 := Lib.hid hi2'
            have hLs2 : i2 + nb ≤ s.size := by omega
            clear hL2 hDl hLle hD2 hi2'
            by_cases hnb : nb = 0
            · have hRn : R = none := by
                rw [HRP.out]
                exact parR1_dot0 (by rw [HL.out]; exact H46.out) (by rw [HL.out, HL2.out]; exact hnb)
              subst hRn
              have e1 : ((nb : Int) == 0) = true := by simp [hnb]
              clear hnb
              go_wp2_with (go_at_call 54; (with_reducible refine (hrun _).mono ?_); rintro e w' ⟨rfl, rfl⟩)
              exact bodyPost_ret (v := .tuple #[NV 0 0, .bool false]) (by simp [results, Tryd.results20, go_sem, z0, z1]; done) rfl ⟨rfl, ((hXw.trans H.out.ext).set _ (Nat.le_refl _)).set _ (Nat.le_refl _)⟩
            · have e1 : ((nb : Int) == 0) = false := by simp [hnb]
              have HNB := Lib.hid hnb
              clear hnb a0 a1 a2 a3 z0 z1
              go_wp2_with (go_at_call 54; (with_reducible refine (hrun _).mono ?_); rintro e w' ⟨rfl, rfl⟩)
              go_loopw [9] (fun v9 wx => ∃ (j : Nat) (A2 : Option Addr) (cap2 : Nat), j ≤ nb ∧ v9 = .int .i64 (j : Int) ∧ Hid (AccD X q ng A2 cap2 (L + j) 0 ((D.take L).map (· - 48) ++ ((D.drop (L + 1)).take j).map (· - 48)) wx)) (fun v9 _ => nb - (intOf v9).toNat)
              case atStart => exact ⟨0, A, cap, Nat.zero_le _, rfl, by show AccD _ _ _ _ _ _ _ _ _; rw [List.take_zero, List.map_nil, List.append_nil]; exact H.out⟩
              case round =>
                obtain ⟨j, A, cap, hj, rfl, H⟩ := hrel
                by_cases hjL : j < nb
                · have hjs : i2 + j < s.size := by omega
                  have hb := HAT.out j hjs
                  obtain ⟨g1, g2⟩ := isD_yes (HTW.out j _ hjL hb)
                  have HB := Lib.hid hb
                  have hacc := H.out
                  obtain ⟨x, hx⟩ : ∃ x, x = (s[i2 + j]'hjs).toNat - 48 := ⟨_, rfl⟩
                  have w1 : IntKind.i64.wrap (((s[i2 + j]'hjs).toNat : Int) - 48) = (x : Int) := by rw [i64w (by omega) (by omega)]; omega
                  have w0 : IntKind.i64.wrap ((s[i2 + j]'hjs).toNat : Int) = ((s[i2 + j]'hjs).toNat : Int) := i64w (by omega) (by omega)
                  have w3 : IntKind.i64.wrap ((i2 : Int) + (j : Int)) = (i2 : Int) + (j : Int) := i64w (by omega) (by omega)
                  have w7 : IntKind.i64.wrap (i2 : Int) = (i2 : Int) := i64w (by omega) (by omega)
                  have w6 : IntKind.i64.wrap ((i1 : Int) + 1) = (i2 : Int) := by rw [i64w (by omega) (by omega)]; exact hi2
                  have w4 : (0 : Int) ≤ (i2 : Int) + (j : Int) ∧ (i2 : Int) + (j : Int) < (s.size : Int) := by omega
                  have w5 : ((i2 : Int) + (j : Int)).toNat = i2 + j := by omega
                  have HX := Lib.hid hx
                  clear hb g1 g2 hx
                  go_upto_region 22 with fail
                  refine wp_plan (S := AccDS _ _ _ _ _ _ _) [(0, 0), (1, 0), (2, 0), (3, 0), (4, 0), (5, 0), (6, 0), (7, 0), (8, 0), (9, 0), (10, 1), (11, 1), (12, 0), (13, 2)] [13] (by kernel_rfl) (by kernel_rfl) (by kernel_rfl) (fun _ _ d _ _ h => by cases d <;> exact h) ⟨(hacc.of_ext (by repeat (first | exact Ext.refl _ | with_reducible exact ext_d _ _ _ _ | with_reducible exact ext_app _ _ _ _ _ | with_reducible apply Ext.drew | with_reducible apply Ext.alloc | with_reducible apply Ext.more_ | apply Ext.drew | apply Ext.alloc | apply Ext.more_))).ext, (hacc.of_ext (by repeat (first | exact Ext.refl _ | with_reducible exact ext_d _ _ _ _ | with_reducible exact ext_app _ _ _ _ _ | with_reducible apply Ext.drew | with_reducible apply Ext.alloc | with_reducible apply Ext.more_ | apply Ext.drew | apply Ext.alloc | apply Ext.more_))).row⟩ ?_
                  (refine wpPl_read (v := ?_) rfl ?_ (fun w1 h1 => ?_) ?_; rotate_left 1; rfl; (obtain ⟨h1e, h1r⟩ := h1; have c2 := cell_of_row _ _ 1 _ _ _ h1r; clear h1r; obtain ⟨os1, d1, rfl⟩ := h1e.more; go_simp; first | done | rfl))
                  try simp only [Act.put, List.setIfInBounds_toArray, List.set_cons_zero, List.set_cons_succ]
                  (refine wpPl_read (v := ?_) rfl ?_ (fun w1 h1 => ?_) ?_; rotate_left 1; rfl; (obtain ⟨h1e, h1r⟩ := h1; have c2 := cell_of_row _ _ 1 _ _ _ h1r; clear h1r; obtain ⟨os1, d1, rfl⟩ := h1e.more; go_simp; first | done | rfl))
                  try simp only [Act.put, List.setIfInBounds_toArray, List.set_cons_zero, List.set_cons_succ]
                  (refine wpPl_read (v := ?_) rfl ?_ (fun w1 h1 => ?_) ?_; rotate_left 1; rfl; (obtain ⟨h1e, h1r⟩ := h1; have c2 := cell_of_row _ _ 1 _ _ _ h1r; clear h1r; obtain ⟨os1, d1, rfl⟩ := h1e.more; go_simp; first | done | rfl))
                  try simp only [Act.put, List.setIfInBounds_toArray, List.set_cons_zero, List.set_cons_succ]
                  (refine wpPl_read (v := ?_) rfl ?_ (fun w1 h1 => ?_) ?_; rotate_left 1; rfl; (obtain ⟨h1e, h1r⟩ := h1; have c2 := cell_of_row _ _ 1 _ _ _ h1r; clear h1r; obtain ⟨os1, d1, rfl⟩ := h1e.more; go_simp; first | done | rfl))
                  try simp only [Act.put, List.setIfInBounds_toArray, List.set_cons_zero, List.set_cons_succ]
                  (refine wpPl_read (v := ?_) rfl ?_ (fun w1 h1 => ?_) ?_; rotate_left 1; rfl; (obtain ⟨h1e, h1r⟩ := h1; have c2 := cell_of_row _ _ 1 _ _ _ h1r; clear h1r; obtain ⟨os1, d1, rfl⟩ := h1e.more; go_simp; first | done | rfl))
                  try simp only [Act.put, List.setIfInBounds_toArray, List.set_cons_zero, List.set_cons_succ]
                  (refine wpPl_read (v := ?_) rfl ?_ (fun w1 h1 => ?_) ?_; rotate_left 1; rfl; (obtain ⟨h1e, h1r⟩ := h1; have c2 := cell_of_row _ _ 1 _ _ _ h1r; clear h1r; obtain ⟨os1, d1, rfl⟩ := h1e.more; go_simp; first | done | rfl))
                  try simp only [Act.put, List.setIfInBounds_toArray, List.set_cons_zero, List.set_cons_succ]
                  (refine wpPl_read (v := ?_) rfl ?_ (fun w1 h1 => ?_) ?_; rotate_left 1; rfl; (obtain ⟨h1e, h1r⟩ := h1; have c2 := cell_of_row _ _ 1 _ _ _ h1r; clear h1r; obtain ⟨os1, d1, rfl⟩ := h1e.more; go_simp; first | done | rfl))
                  try simp only [Act.put, List.setIfInBounds_toArray, List.set_cons_zero, List.set_cons_succ]
                  (refine wpPl_read (v := ?_) rfl ?_ (fun w1 h1 => ?_) ?_; rotate_left 1; rfl; (obtain ⟨h1e, h1r⟩ := h1; have c2 := cell_of_row _ _ 1 _ _ _ h1r; clear h1r; obtain ⟨os1, d1, rfl⟩ := h1e.more; go_simp; first | done | rfl))
                  try simp only [Act.put, List.setIfInBounds_toArray, List.set_cons_zero, List.set_cons_succ]
                  (refine wpPl_read (v := ?_) rfl ?_ (fun w1 h1 => ?_) ?_; rotate_left 1; rfl; (obtain ⟨h1e, h1r⟩ := h1; have c2 := cell_of_row _ _ 1 _ _ _ h1r; clear h1r; obtain ⟨os1, d1, rfl⟩ := h1e.more; go_simp; first | done | rfl))
                  try simp only [Act.put, List.setIfInBounds_toArray, List.set_cons_zero, List.set_cons_succ]
                  (refine wpPl_read (v := ?_) rfl ?_ (fun w1 h1 => ?_) ?_; rotate_left 1; rfl; (obtain ⟨h1e, h1r⟩ := h1; have c2 := cell_of_row _ _ 1 _ _ _ h1r; clear h1r; obtain ⟨os1, d1, rfl⟩ := h1e.more; go_simp; first | done | rfl))
                  try simp only [Act.put, List.setIfInBounds_toArray, List.set_cons_zero, List.set_cons_succ]
                  (refine wpPl_eff rfl ?_ (fun K hK => ?_); rfl; go_simp; refine hK _ _ ⟨(hacc.of_ext (by repeat (first | exact Ext.refl _ | with_reducible exact ext_d _ _ _ _ | with_reducible exact ext_app _ _ _ _ _ | with_reducible apply Ext.drew | with_reducible apply Ext.alloc | with_reducible apply Ext.more_ | apply Ext.drew | apply Ext.alloc | apply Ext.more_))).ext, (hacc.of_ext (by repeat (first | exact Ext.refl _ | with_reducible exact ext_d _ _ _ _ | with_reducible exact ext_app _ _ _ _ _ | with_reducible apply Ext.drew | with_reducible apply Ext.alloc | with_reducible apply Ext.more_ | apply Ext.drew | apply Ext.alloc | apply Ext.more_))).row⟩ ?_)
                  try simp only [Act.put, List.setIfInBounds_toArray, List.set_cons_zero, List.set_cons_succ]
                  (refine wpPl_eff rfl ?_ (fun K hK => ?_); rfl)
                  refine wp_append_own _ _ _ _ rfl _ 3 i0 (.int .i64 0) 1 8 Tryd.underlying43 hi0 hz0 hz1 hz2 rfl (by decide) _ _ _ rfl (own_ext_ hacc.own (by repeat (first | exact Ext.refl _ | with_reducible exact ext_d _ _ _ _ | with_reducible exact ext_app _ _ _ _ _ | with_reducible apply Ext.drew | with_reducible apply Ext.alloc | with_reducible apply Ext.more_ | apply Ext.drew | apply Ext.alloc | apply Ext.more_))) _ 1 1 [.int .i64 (x : Int)] rfl rfl (Rd.one_ _ _ (by first | rfl | (simp; done))).add (one_i64 _) (by simp only [maxLen]; omega) (by omega) (by have := hacc.lt; simp; omega) ?_
                  intro v3 w3 ho3 hg3
                  obtain ⟨A2, cap2, rfl, hrow3, hex3, hacc2⟩ := hacc.step (by repeat (first | exact Ext.refl _ | with_reducible exact ext_d _ _ _ _ | with_reducible exact ext_app _ _ _ _ _ | with_reducible apply Ext.drew | with_reducible apply Ext.alloc | with_reducible apply Ext.more_ | apply Ext.drew | apply Ext.alloc | apply Ext.more_)) hg3 ho3
                  refine hK _ _ ⟨hex3, hrow3⟩ ?_
                  try simp only [Act.put, List.setIfInBounds_toArray, List.set_cons_zero, List.set_cons_succ]
                  (refine wpPl_read (v := ?_) rfl ?_ (fun w1 h1 => ?_) ?_; rotate_left 1; rfl; (obtain ⟨h1e, h1r⟩ := h1; have c2 := cell_of_row _ _ 1 _ _ _ h1r; clear h1r; obtain ⟨os1, d1, rfl⟩ := h1e.more; go_simp; first | done | rfl))
                  try simp only [Act.put, List.setIfInBounds_toArray, List.set_cons_zero, List.set_cons_succ]
                  have c2 := cell_of_row _ _ 1 _ _ _ hrow3
                  have f2 := frozen_of_row _ _ 1 _ _ hrow3
                  clear hrow3 hex3 hg3 ho3
                  (refine wpPl_tail rfl ?_ (fun K hK => ?_); rfl; go_simp; refine hK _ _ ?_)
                  clear c2 f2
                  try simp only [Act.put]
                  refine wpPl_nil ?_
                  go_wp2_with fail
                  refine ⟨⟨j + 1, A2, cap2, by omega, by go_num, ?_⟩, by simp [intOf]; omega⟩
                  show AccD _ _ _ _ _ _ _ _ _
                  rw [take_at HB.out, List.map_append, List.map_singleton, ← HX.out, ← List.append_assoc]
                  exact hacc2
                · obtain rfl : nb = j := by omega
                  go_wp2_with fail
                  go_meet
                  refine ⟨i2 + nb, nb, L + nb, cap, A, _, by go_num, rfl, hLs2, by omega, by omega, ?_, ?_, H⟩
                  · show AllD _
                    rw [HLT.out, HLT2.out]; exact (chr_all (take_d D)).append (chr_all HTD.out)
                  · show _ = _
                    rw [HRP.out, HLT.out, HLT2.out, HI2.out, Nat.add_assoc, HDD2.out, ← List.map_append]
                    have := parR1_dot (ng := ng) (l1 := D) (by rw [HL.out]; exact H46.out) (by rw [HL.out, HL2.out]; exact HNB.out)
                    rw [HL.out, HL2.out] at this
                    rw [this, Nat.add_assoc]
        case rest =>
        obtain ⟨i2, nb, k, cap2, A2, ds, rfl, rfl, hi2, hnb, hk, HAD, HRT, HA2⟩ := hcut
        clear a0 a1 a2 a3 a4 z0 z1 HB2 HDD1 HDD2 HH HH0 hi1s HRP HLT HL HDl H
        have hesz : (s.extract i2 s.size).size ≤ 1000 := by rw [ByteArray.size_extract]; omega
        have hpw := fun W => rpower_any (s.extract i2 s.size) W hesz
        rw [bl_extract] at hpw
        have hX0r := hX0.ext HA2.out.ext
        have a0 := hX0r.c0
        have a1 := hX0r.c1
        have a2 := hX0r.fz 0
        have a3 := hX0r.fz 1
        have a4 := hX0r.lt
        have z0 := (hX0r.set 0 0).c0
        have z1 := (hX0r.set 0 0).c1
        generalize hP : powR ((bl s).drop i2) = P at *
        have hRP : R = parP ng L nb ds P := by rw [HRT.out]; unfold parT; rw [hP]
        cases P with
        | none =>
          have hRP : R = none := hRP
          subst hRP
          clear hP
          go_wp2_with (go_at_call 55; (with_reducible refine (hpw _).mono ?_); rintro e w' ⟨rfl, rfl⟩; simp only [oV, Option.isSome_none, Option.getD_none])
          exact bodyPost_ret (v := .tuple #[NV 0 0, .bool false]) (by simp [results, Tryd.results20, go_sem, z0, z1]; done) rfl ⟨rfl, ((hXw.trans HA2.out.ext).set _ (Nat.le_refl _)).set _ (Nat.le_refl _)⟩
        | some e =>
          have hbd := pow_bd hP
          clear hP
          by_cases hLn : L + nb = 0
          · rw [parP_some, if_pos hLn] at hRP
            subst hRP
            have e1 : ((L : Int) + (nb : Int) == 0) = true := by simp; omega
            clear hLn
            go_wp2_with (go_at_call 55; (with_reducible refine (hpw _).mono ?_); rintro e w' ⟨rfl, rfl⟩; simp only [oV, Option.isSome_some, Option.getD_some])
            exact bodyPost_ret (v := .tuple #[NV 0 0, .bool false]) (by simp [results, Tryd.results20, go_sem, z0, z1]; done) rfl ⟨rfl, ((hXw.trans HA2.out.ext).set _ (Nat.le_refl _)).set _ (Nat.le_refl _)⟩
          · rw [parP_some, if_neg hLn] at hRP
            have HRP := Lib.hid hRP
            have e1 : ((L : Int) + (nb : Int) == 0) = false := by simp; omega
            have w1 : IntKind.i64.wrap (e - (nb : Int)) = e - nb := i64w (by omega) (by omega)
            clear hLn hRP
            have hkl := HA2.out.len
            have hset := HA2.out.set2 (e - nb)
            obtain ⟨c0, c1, c2⟩ := hset.cells
            have f2 := HA2.out.fz 2
            have c20 := HA2.out.cells.2.2
            have lq := HA2.out.lt
            have hnr := near_any (q + 1) ng A2 k cap2 ds (val ds) (e - nb) false _ hkl hset.rd.1 hset.rd.2 (by omega) HAD.out rfl (by omega) (by have := hset.lt; omega)
            rw [← HRP.out] at hnr
            have hX0s := hX0.ext hset.ext
            have x0 := hX0s.c0
            have x1 := hX0s.c1
            have x2 := hX0s.fz 0
            have x3 := hX0s.fz 1
            have x4 := hX0s.lt
            have y0 := (hX0s.set (rm R) (re R)).c0
            have y1 := (hX0s.set (rm R) (re R)).c1
            have HSE := Lib.hid hset.ext
            clear hkl z0 z1 hset hX0s
            go_wp2_with (first | (go_at_call 55; (with_reducible refine (hpw _).mono ?_); rintro e w' ⟨rfl, rfl⟩; simp only [oV, Option.isSome_some, Option.getD_some]) | (go_at_call 50; (with_reducible refine hnr.mono ?_); rintro e w' ⟨rfl, hxn⟩; obtain ⟨osn, dn, rfl⟩ := hxn.more))
            exact bodyPost_ret (v := rnV R) (by simp [results, Tryd.results20, go_sem, y0, y1, x4, a4]; done) rfl ⟨rfl, (((hXw.trans HSE.out).set _ (Nat.le_refl _)).set _ (Nat.le_refl _)).more_ _ _⟩
end Go.Proofs.YtihfiegopnjeiaaDoor
