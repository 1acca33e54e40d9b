/- counterpaneref01.strip, cut. -/
import Derived.Test.YtihfiegopnjeiaaDoorMake
import Derived.Test.YtihfiegopnjeiaaDoorNRef
namespace Go.Proofs.YtihfiegopnjeiaaDoor
set_option linter.unusedSimpArgs false
set_option linter.unusedVariables false
open Go.RowKit NM

abbrev i6 (l : List Nat) : List Value := l.map fun d : Nat => Value.int .i64 (d : Int)
theorem Rd.tail {base b off : Nat} {w : World} {x : Value} {cs : List Value} (h : Rd base w (some ⟨b, off, none⟩) (x :: cs)) : Rd base w (some ⟨b, off + 1, none⟩) cs := fun j u hu => by
  obtain ⟨b', off', hA, hb, hc⟩ := h (j + 1) u (by simpa using hu)
  simp only [Option.some.injEq, Addr.mk.injEq, and_true] at hA
  obtain ⟨rfl, rfl⟩ := hA
  exact ⟨b, off + 1, rfl, hb, by rw [← hc]; congr 2; omega⟩
theorem Rd.head {base : Nat} {w : World} {A : Option Addr} {x : Value} {cs : List Value} (h : Rd base w A (x :: cs)) : ∃ b off, A = some ⟨b, off, none⟩ ∧ base ≤ b ∧ w.cell? ⟨b, off, none⟩ = some x := by
  obtain ⟨b, off, hA, hb, hc⟩ := h 0 x rfl
  exact ⟨b, off, hA, hb, by simpa using hc⟩
theorem Rd.take {base : Nat} {w : World} {A : Option Addr} {cs : List Value} (h : Rd base w A cs) (n : Nat) : Rd base w A (cs.take n) := fun j u hu => h j u (by
  rw [List.getElem?_take] at hu
  split at hu
  · exact hu
  · cases hu)
theorem Rd.drop {base b off : Nat} {w : World} {cs : List Value} (h : Rd base w (some ⟨b, off, none⟩) cs) (n : Nat) : Rd base w (some ⟨b, off + n, none⟩) (cs.drop n) := fun j u hu => by
  rw [List.getElem?_drop] at hu
  obtain ⟨b', off', hA, hb, hc⟩ := h (n + j) u hu
  simp only [Option.some.injEq, Addr.mk.injEq, and_true] at hA
  obtain ⟨rfl, rfl⟩ := hA
  exact ⟨b, off + n, rfl, hb, by rw [← hc]; congr 2; omega⟩
theorem Rd.at_ {base : Nat} {w : World} {A : Option Addr} {l : List Nat} {j d : Nat} (h : Rd base w A (i6 l)) (hd : l[j]? = some d) : ∃ b off, A = some ⟨b, off, none⟩ ∧ base ≤ b ∧ w.cell? ⟨b, off + j, none⟩ = some (.int .i64 (d : Int)) :=
  h j _ (by rw [List.getElem?_map, hd]; rfl)

/-- A list that is handed back. -/
def LOut (base : Nat) (w' : World) (R : List Nat) (e : Ending) : Prop := ∃ A' cap', e = .returned (.slice A' R.length cap') ∧ Rd base w' A' (i6 R) ∧ R.length ≤ cap'
set_option maxHeartbeats 400000 in
theorem rstrip_any (base : Nat) (A : Option Addr) (cap : Nat) (l : List Nat) (w : World) (h : Rd base w A (i6 l)) (hl : l.length ≤ 4611686018427387904) (hcp : l.length ≤ cap) :
    Calls Tryd.prog 69 #[.slice A l.length cap] w fun e w' => LOut base w (strip l) e ∧ w = w' := by
  generalize hR : strip l = R
  have HR := Lib.hid hR
  clear hR
  go_enter Tryd.func69, Tryd.ntmps69
  go_wp2
  go_loop [0] (fun s => ∃ (l' : List Nat) (A' : Option Addr) (cap' : Nat), l'.length ≤ 4611686018427387904 ∧ s = .slice A' l'.length cap' ∧ l'.length ≤ cap' ∧ Rd base w A' (i6 l') ∧ Hid (strip l' = R)) (fun s => slen s)
  case atStart => exact ⟨l, A, cap, hl, rfl, hcp, h, HR⟩
  case round =>
    obtain ⟨l', A', cap', hl', rfl, hcap, hd, H⟩ := hrel
    clear h hl hcp
    cases l' with
    | nil =>
      obtain rfl : [] = R := H.out
      go_wp2
      go_ret
      exact ⟨⟨A', cap', rfl, Rd.nil _ _ _, Nat.zero_le _⟩, rfl⟩
    | cons d t =>
      obtain ⟨b, off, rfl, hb, hc⟩ := hd.head
      rw [List.length_cons] at hl' hcap ⊢
      by_cases h0 : d = 0
      · subst h0
        have HH := Lib.hid hd.tail
        clear hd
        by_cases hc1 : cap' = 1
        · subst hc1
          obtain rfl : t = [] := List.eq_nil_of_length_eq_zero (by omega)
          go_wp2
          exact ⟨⟨[], _, 0, by simp, rfl, by simp, Rd.nil _ _ _, H⟩, by simp [slen]⟩
        · have hc1' : 1 < cap' := by omega
          go_wp2
          exact ⟨⟨t, _, _, by omega, rfl, by omega, HH.out, by have := H.out; rw [strip_zero] at this; exact this⟩, by simp [slen]⟩
      · have h0' : (((d : Int)) == 0) = false := by simp; omega
        go_wp2
        obtain rfl : d :: t = R := by have := H.out; rwa [strip_pos _ h0] at this
        go_ret
        exact ⟨⟨_, cap', rfl, hd, by simpa using hcap⟩, rfl⟩

/-- strip, of a list that tells N. -/
theorem rstrip_dig (base : Nat) (A : Option Addr) (cap len : Nat) (l : List Nat) (N : Nat) (w : World) (hlen : l.length = len) (h : Rd base w A (i6 l)) (hl : len ≤ 4611686018427387904) (hcp : len ≤ cap) (ha : AllD l) (hv : val l = N) :
    Calls Tryd.prog 69 #[.slice A len cap] w fun e w' => LOut base w (dig N) e ∧ w = w' := by
  subst hlen hv
  have := rstrip_any base A cap l w h hl hcp
  rw [← dig_val ha] at this
  exact this
/-- What is known of a list that is cut behind: what is kept, the first one that is left out, the others. -/
structure RCut (base : Nat) (w : World) (b off cap len k : Nat) (hd : List Nat) (r0 : Nat) (rest : List Nat) : Prop where
  rd : Rd base w (some ⟨b, off, none⟩) (i6 (hd ++ r0 :: rest))
  hn : hd.length + k = len
  hlen : 1 + rest.length = k
  cap : len ≤ cap
  big : len ≤ 1000000
theorem rcut_far (A : Option Addr) (cap len k : Nat) (more : Bool) (w : World) (hk : len < k) :
    Calls Tryd.prog 74 #[.slice A len cap, .int .i64 (k : Int), .bool more] w fun e w' => e = .returned (.slice none 0 0) ∧ w = w' := by
  have h1 : ((len : Int) < (k : Int)) := by omega
  go_enter Tryd.func74, Tryd.ntmps74
  go_wp2
  go_ret
  exact ⟨rfl, rfl⟩
theorem info_int_ : (Tryd.prog.info? 3).map (fun i => (i.zero, i.size, i.bytes)) = some (some (.int .i64 0), 1, 8) := by kernel_rfl
theorem one_i6 (l : List Nat) : ∀ u ∈ i6 l, u.oneCell' = true := by
  intro u hu
  obtain ⟨x, _, rfl⟩ := List.mem_map.1 hu
  rfl
theorem new_own {w : World} {base n : Nat} {ty : TypeId} (u : Value) (hn : n = w.heap.size) (hb : base ≤ n) : (w.alloc (.cells #[u] ty)).ownsRow base ty 1 (.slice (some ⟨n, 0, none⟩) 1 1) 1 [u] := by
  subst hn
  exact ⟨by simp, Or.inr ⟨w.heap.size, 1, #[u], rfl, hb, Array.getElem?_push_size, Nat.le_refl _, by decide, by simp, by simp⟩⟩
theorem ext_grown {X W w3 : World} {ty : TypeId} {v : Value} {n : Nat} {xs : List Value} (hx : Ext X W) (ho : W.ownsRow X.heap.size ty 1 v n xs) (hg : W.grownBy w3 v.ownBlock) : Ext X w3 := by
  have hb := own_block ho
  have h1 := hx.size
  refine ⟨hg.os.trans hx.os, hg.tape.trans hx.tape, hg.output.trans hx.output, Nat.le_trans h1 hg.size, fun j hj => ?_⟩
  rw [hg.block j (by omega) (fun he => by have := (hb j he.symm).1; omega), hx.block hj]
theorem keep_own {w : World} {base n : Nat} {v : Value} {hd : List Nat} (hn : hd.length = n) (h : w.ownsRow base 3 1 v (1 + n) ([Value.int .i64 0] ++ i6 hd)) : ∃ A cap, v = .slice A (1 + n) cap ∧ Dg .i64 3 base w A cap (0 :: hd) := by
  obtain ⟨A, c, rfl, h1, h2⟩ := Dg.of_own (l := 0 :: hd) (k := .i64) (by simpa using h)
  exact ⟨A, c, by rw [List.length_cons, hn, Nat.add_comm], h1⟩
theorem up_true {q r0 dl : Nat} {rest : List Nat} {more mm : Bool} (h : 5 < (r0 : Int) ∨ ((r0 : Int) == 5) = true ∧ (mm = true ∨ (((dl : Int).tmod 2 == 1) = true))) (hm : mm = (more || decide (val rest ≠ 0))) (hd : q % 2 = dl % 2) : upB q r0 rest more = true := by
  have ht : (dl : Int).tmod 2 = ((dl % 2 : Nat) : Int) := rfl
  rw [ht, ← hd] at h
  unfold upB
  rcases h with h | ⟨h1, h2⟩
  · simp; left; omega
  · simp at h1
    have h1' : r0 = 5 := by omega
    subst h1'
    rcases h2 with h2 | h2
    · rw [hm] at h2; cases more
      · simp at h2; simp [h2]
      · simp
    · simp at h2; have : q % 2 = 1 := by omega
      simp [this]
theorem up_false {q r0 dl : Nat} {rest : List Nat} {more mm : Bool} (h : (r0 : Int) ≤ 5 ∧ (((r0 : Int) == 5) = false ∨ mm = false ∧ (((dl : Int).tmod 2 == 1) = false))) (hm : mm = (more || decide (val rest ≠ 0))) (hd : q % 2 = dl % 2) : upB q r0 rest more = false := by
  have ht : (dl : Int).tmod 2 = ((dl % 2 : Nat) : Int) := rfl
  rw [ht, ← hd] at h
  unfold upB
  obtain ⟨h0, h | ⟨h1, h2⟩⟩ := h
  · simp at h
    have : ¬ r0 = 5 := by omega
    simp [this]; omega
  · rw [hm] at h1
    have h3 : q % 2 ≠ 1 := fun he => by rw [he] at h2; simp at h2
    have h4 : ¬ 5 < r0 := by omega
    cases more
    · simp at h1; simp [h1, h3, h4]
    · simp at h1
set_option maxRecDepth 100000 in
set_option maxHeartbeats 2000000 in
theorem rcut_yes (base b off cap len k : Nat) (hd : List Nat) (r0 : Nat) (rest : List Nat) (more : Bool) (w : World) (h : RCut base w b off cap len k hd r0 rest) (hall : AllD (hd ++ r0 :: rest)) :
    Calls Tryd.prog 74 #[.slice (some ⟨b, off, none⟩) len cap, .int .i64 (k : Int), .bool more] w fun e w' => LOut w.heap.size w' (dig (if upB (val hd) r0 rest more then val hd + 1 else val hd)) e ∧ Ext w w' := by
  obtain ⟨hrd, hn, hlen, hcap, hbig⟩ := h
  generalize hMV : (if upB (val hd) r0 rest more then val hd + 1 else val hd) = MV
  have HMV := Lib.hid hMV
  clear hMV
  have f1 : ¬ ((len : Int) < (k : Int)) := by omega
  have f2 : (len : Int) - (k : Int) = (hd.length : Int) := by omega
  have f3 : hd.length ≤ cap := by omega
  have f4 : hd.length ≤ len := by omega
  have f5 : ¬ cap = hd.length := by omega
  have f6 : (k == 0) = false := by simp; omega
  have f7 : ((k : Int) == 0) = false := by simp; omega
  have f8 : len - hd.length = k := by omega
  have f9 : 0 < k := by omega
  have hl2 : hd.length ≤ 1000000 := by omega
  obtain ⟨i0, hi, hz0, hz1, hz2⟩ := info_parts info_int_
  have HRD := Lib.hid hrd
  have HN := Lib.hid hn
  have HL := Lib.hid hlen
  have HALL := Lib.hid hall
  generalize hm : hd.length = n at *
  have HM := Lib.hid hm
  clear hrd hn hlen hm hall
  go_enter Tryd.func74, Tryd.ntmps74
  go_wp2_with (at_builtin; refine wpList_append_own _ rfl _ _ _ rfl w.heap.size 3 i0 (.int .i64 0) 1 8 Tryd.underlying43 hi hz0 hz1 hz2 rfl (by decide) _ 1 [.int .i64 0] rfl (new_own _ rfl (Nat.le_refl _)) _ n cap (i6 hd) rfl (by simp [HM.out]) (Rd.add (Rd.mono (Rd.ext (by have := Rd.take HRD.out n; rw [← HM.out] at this; simpa using this) ((Ext.refl _).alloc _)) (Nat.zero_le _))) (one_i6 _) (by simp [maxLen]; omega) (by omega) (by simp) ?_; intro v3 w3 ho3 hg3 hiff; clear hiff; have hx3 := ext_grown ((Ext.refl w).alloc _) (new_own _ rfl (Nat.le_refl _)) hg3; obtain ⟨A3, c3, rfl, hk3⟩ := keep_own HM.out ho3; clear ho3 hg3)
  have HK3 := Lib.hid hk3
  clear hk3
  go_loop [2, 9] (fun a i => ∃ (j : Nat) (mm : Bool), 1 ≤ j ∧ j ≤ k ∧ i = .int .i64 (j : Int) ∧ a = .bool mm ∧ Hid (mm = (more || decide (val (rest.take (j - 1)) ≠ 0)))) (fun _ i => k - (intOf i).toNat)
  case atStart => exact ⟨1, more, by omega, by have := HL.out; omega, rfl, rfl, by show _ = _; simp [val_nil]⟩
  case round =>
    obtain ⟨j, mm, hj1, hj2, rfl, rfl, HMM⟩ := hrel
    by_cases hjk : j < k
    · obtain ⟨x, hx⟩ : ∃ x, rest[j - 1]? = some x := ⟨rest[j - 1]'(by have := HL.out; omega), by rw [List.getElem?_eq_getElem]⟩
      have hcx : w3.cell? ⟨b, off + n + j, none⟩ = some (.int .i64 (x : Int)) := by
        obtain ⟨b', off', hA, _, hc⟩ := Rd.at_ (Rd.ext HRD.out hx3) (j := n + j) (d := x) (by rw [← HM.out, List.getElem?_append_right (by omega), show hd.length + j - hd.length = (j - 1) + 1 by omega, List.getElem?_cons_succ]; exact hx)
        simp only [Option.some.injEq, Addr.mk.injEq, and_true] at hA
        obtain ⟨rfl, rfl⟩ := hA
        rw [Nat.add_assoc]; exact hc
      have HX : Hid (val (rest.take j) = 10 * val (rest.take (j - 1)) + x) := by
        show _ = _
        have := take_at hx
        rw [show j - 1 + 1 = j by omega] at this
        rw [this, val_snoc]
      clear hx
      cases mm with
      | true =>
        go_wp2
        refine ⟨⟨j + 1, true, by omega, by omega, by go_num, rfl, ?_⟩, by simp [intOf]; omega⟩
        show _ = _
        have := HMM.out
        rw [Nat.add_sub_cancel, HX.out]
        cases more
        · simp at this ⊢; omega
        · simp
      | false =>
        go_wp2
        refine ⟨⟨j + 1, (!((x : Int) == 0)), by omega, by omega, by go_num, rfl, ?_⟩, by simp [intOf]; omega⟩
        show _ = _
        have := HMM.out
        rw [Nat.add_sub_cancel, HX.out]
        cases more
        · simp at this; rw [this]; by_cases h0 : x = 0 <;> simp [h0]
        · simp at this
    · have hmm : mm = (more || decide (val rest ≠ 0)) := by
        have := HMM.out
        rw [List.take_of_length_le (by have := HL.out; omega)] at this
        exact this
      have HM2 := Lib.hid hmm
      clear hmm HMM
      have hr0 : w3.cell? ⟨b, off + n, none⟩ = some (.int .i64 (r0 : Int)) := by
        obtain ⟨b', off', hA, _, hc⟩ := Rd.at_ (Rd.ext HRD.out hx3) (j := n) (d := r0) (by rw [← HM.out]; simp)
        simp only [Option.some.injEq, Addr.mk.injEq, and_true] at hA
        obtain ⟨rfl, rfl⟩ := hA
        exact hc
      obtain ⟨dl, hdl⟩ : ∃ dl, (0 :: hd)[n]? = some dl := ⟨(0 :: hd)[n]'(by have := HM.out; simp; omega), by rw [List.getElem?_eq_getElem]⟩
      obtain ⟨b3, o3, rfl, hb3, hcl, _⟩ := HK3.out.at hdl
      have HDL : Hid (val hd % 2 = dl % 2) := by
        show _ = _
        have h1 := take_at hdl
        rw [List.take_of_length_le (by have := HM.out; simp; omega)] at h1
        have h2 : val (0 :: hd) = val hd := by rw [val_cons]; omega
        rw [← h2, h1, val_snoc]; omega
      clear hdl
      go_upto_region 12 with (fail)
      refine wp_region_lit ?_
      (refine wpL_read (v := ?_) rfl ?_ ?_; rotate_left 1; (go_simp; first | done | rfl))
      try simp only [Act.put, List.setIfInBounds_toArray, List.set_cons_zero, List.set_cons_succ]
      (refine wpL_read (v := ?_) rfl ?_ ?_; rotate_left 1; (go_simp; first | done | rfl))
      try simp only [Act.put, List.setIfInBounds_toArray, List.set_cons_zero, List.set_cons_succ]
      (refine wpL_read (v := ?_) rfl ?_ ?_; rotate_left 1; (go_simp; first | done | rfl))
      try simp only [Act.put, List.setIfInBounds_toArray, List.set_cons_zero, List.set_cons_succ]
      (refine wpL_read (v := ?_) rfl ?_ ?_; rotate_left 1; (go_simp; first | done | rfl))
      try simp only [Act.put, List.setIfInBounds_toArray, List.set_cons_zero, List.set_cons_succ]
      (refine wpL_read (v := ?_) rfl ?_ ?_; rotate_left 1; (go_simp; first | done | rfl))
      try simp only [Act.put, List.setIfInBounds_toArray, List.set_cons_zero, List.set_cons_succ]
      (refine wpL_gread (v := ?_) (c := ?_) rfl rfl rfl ?_ (fun hc => ?_) ?_; rotate_left 2; (first | exact gc_t _ | exact gc_f _ | exact gc_gt _ _ | exact gc_gf _ _); ((try simp only [gv_of hc]); (try (have hc1 := and_l hc; (try simp only [gv_of hc1]); (try (have hc2 := and_l hc1; (try simp only [gv_of hc2]))))); go_simp; first | done | rfl))
      try simp only [Act.put, List.setIfInBounds_toArray, List.set_cons_zero, List.set_cons_succ]
      (refine wpL_gread (v := ?_) (c := ?_) rfl rfl rfl ?_ (fun hc => ?_) ?_; rotate_left 2; (first | exact gc_t _ | exact gc_f _ | exact gc_gt _ _ | exact gc_gf _ _); ((try simp only [gv_of hc]); (try (have hc1 := and_l hc; (try simp only [gv_of hc1]); (try (have hc2 := and_l hc1; (try simp only [gv_of hc2]))))); go_simp; first | done | rfl))
      try simp only [Act.put, List.setIfInBounds_toArray, List.set_cons_zero, List.set_cons_succ]
      (refine wpL_gread (v := ?_) (c := ?_) rfl rfl rfl ?_ (fun hc => ?_) ?_; rotate_left 2; (first | exact gc_t _ | exact gc_f _ | exact gc_gt _ _ | exact gc_gf _ _); ((try simp only [gv_of hc]); (try (have hc1 := and_l hc; (try simp only [gv_of hc1]); (try (have hc2 := and_l hc1; (try simp only [gv_of hc2]))))); go_simp; first | done | rfl))
      try simp only [Act.put, List.setIfInBounds_toArray, List.set_cons_zero, List.set_cons_succ]
      (refine wpL_gread (v := ?_) (c := ?_) rfl rfl rfl ?_ (fun hc => ?_) ?_; rotate_left 2; (first | exact gc_t _ | exact gc_f _ | exact gc_gt _ _ | exact gc_gf _ _); ((try simp only [gv_of hc]); (try (have hc1 := and_l hc; (try simp only [gv_of hc1]); (try (have hc2 := and_l hc1; (try simp only [gv_of hc2]))))); go_simp; first | done | rfl))
      try simp only [Act.put, List.setIfInBounds_toArray, List.set_cons_zero, List.set_cons_succ]
      (refine wpL_gread (v := ?_) (c := ?_) rfl rfl rfl ?_ (fun hc => ?_) ?_; rotate_left 2; (first | exact gc_t _ | exact gc_f _ | exact gc_gt _ _ | exact gc_gf _ _); ((try simp only [gv_of hc]); (try (have hc1 := and_l hc; (try simp only [gv_of hc1]); (try (have hc2 := and_l hc1; (try simp only [gv_of hc2]))))); go_simp; first | done | rfl))
      try simp only [Act.put, List.setIfInBounds_toArray, List.set_cons_zero, List.set_cons_succ]
      (refine wpL_gread (v := ?_) (c := ?_) rfl rfl rfl ?_ (fun hc => ?_) ?_; rotate_left 2; (first | exact gc_t _ | exact gc_f _ | exact gc_gt _ _ | exact gc_gf _ _); ((try simp only [gv_of hc]); (try (have hc1 := and_l hc; (try simp only [gv_of hc1]); (try (have hc2 := and_l hc1; (try simp only [gv_of hc2]))))); go_simp; first | done | rfl))
      try simp only [Act.put, List.setIfInBounds_toArray, List.set_cons_zero, List.set_cons_succ]
      (refine wpL_gread (v := ?_) (c := ?_) rfl rfl rfl ?_ (fun hc => ?_) ?_; rotate_left 2; (first | exact gc_t _ | exact gc_f _ | exact gc_gt _ _ | exact gc_gf _ _); ((try simp only [gv_of hc]); (try (have hc1 := and_l hc; (try simp only [gv_of hc1]); (try (have hc2 := and_l hc1; (try simp only [gv_of hc2]))))); go_simp; first | done | rfl))
      try simp only [Act.put, List.setIfInBounds_toArray, List.set_cons_zero, List.set_cons_succ]
      (refine wpL_gread (v := ?_) (c := ?_) rfl rfl rfl ?_ (fun hc => ?_) ?_; rotate_left 2; (first | exact gc_t _ | exact gc_f _ | exact gc_gt _ _ | exact gc_gf _ _); ((try simp only [gv_of hc]); (try (have hc1 := and_l hc; (try simp only [gv_of hc1]); (try (have hc2 := and_l hc1; (try simp only [gv_of hc2]))))); go_simp; first | done | rfl))
      try simp only [Act.put, List.setIfInBounds_toArray, List.set_cons_zero, List.set_cons_succ]
      (refine wpL_gread (v := ?_) (c := ?_) rfl rfl rfl ?_ (fun hc => ?_) ?_; rotate_left 2; (first | exact gc_t _ | exact gc_f _ | exact gc_gt _ _ | exact gc_gf _ _); ((try simp only [gv_of hc]); (try (have hc1 := and_l hc; (try simp only [gv_of hc1]); (try (have hc2 := and_l hc1; (try simp only [gv_of hc2]))))); go_simp; first | done | rfl))
      try simp only [Act.put, List.setIfInBounds_toArray, List.set_cons_zero, List.set_cons_succ]
      (refine wpL_gread (v := ?_) (c := ?_) rfl rfl rfl ?_ (fun hc => ?_) ?_; rotate_left 2; (first | exact gc_t _ | exact gc_f _ | exact gc_gt _ _ | exact gc_gf _ _); ((try simp only [gv_of hc]); (try (have hc1 := and_l hc; (try simp only [gv_of hc1]); (try (have hc2 := and_l hc1; (try simp only [gv_of hc2]))))); go_simp; first | done | rfl))
      try simp only [Act.put, List.setIfInBounds_toArray, List.set_cons_zero, List.set_cons_succ]
      first | (refine wpL_gpick_and rfl rfl rfl rfl rfl rfl rfl ?_ ?_; (first | exact gc_t _ | exact gc_f _ | exact gc_gt _ _ | exact gc_gf _ _)) | (refine wpL_gpick_or rfl rfl rfl rfl rfl rfl rfl ?_ ?_; (first | exact gc_t _ | exact gc_f _ | exact gc_gt _ _ | exact gc_gf _ _))
      try simp only [Act.put, List.setIfInBounds_toArray, List.set_cons_zero, List.set_cons_succ]
      first | (refine wpL_gpick_and rfl rfl rfl rfl rfl rfl rfl ?_ ?_; (first | exact gc_t _ | exact gc_f _ | exact gc_gt _ _ | exact gc_gf _ _)) | (refine wpL_gpick_or rfl rfl rfl rfl rfl rfl rfl ?_ ?_; (first | exact gc_t _ | exact gc_f _ | exact gc_gt _ _ | exact gc_gf _ _))
      try simp only [Act.put, List.setIfInBounds_toArray, List.set_cons_zero, List.set_cons_succ]
      first | (refine wpL_pick_and rfl rfl rfl rfl rfl ?_) | (refine wpL_pick_or rfl rfl rfl rfl rfl ?_)
      try simp only [Act.put, List.setIfInBounds_toArray, List.set_cons_zero, List.set_cons_succ]
      refine wpList_nil ?_
      try go_simp
      go_wp2_with fail
      · have HU := Lib.hid (up_true (r0 := r0) (dl := dl) (mm := mm) (by assumption) HM2.out HDL.out)
        clear hcl
        go_loopw [11] (fun i wr => ∃ j : Nat, j ≤ n ∧ i = .int .i64 (j : Int) ∧ Hid (0 :: hd = (0 :: hd).take (j + 1) ++ List.replicate (n - j) 9) ∧ Hid (Dg .i64 3 w.heap.size wr (some ⟨b3, o3, none⟩) c3 ((0 :: hd).take (j + 1) ++ List.replicate (n - j) 0)) ∧ Ext w wr) (fun i _ => (intOf i).toNat)
        case atStart => exact ⟨n, Nat.le_refl _, by go_num, by show _ = _; rw [← HM.out]; simp, by show Dg _ _ _ _ _ _ _; rw [Nat.sub_self, ← HM.out]; simpa using HK3.out, hx3⟩
        case round =>
          obtain ⟨j, hj, rfl, HE, HW, hxr⟩ := hrel
          obtain ⟨d, hdj⟩ : ∃ d, (0 :: hd)[j]? = some d := ⟨(0 :: hd)[j]'(by have := HM.out; simp; omega), by rw [List.getElem?_eq_getElem]⟩
          have hd10 : d < 10 := (AllD.cons (by omega) (fun x hx => HALL.out x (by simp [hx])) : AllD (0 :: hd)).at hdj
          obtain ⟨b', off', hA', _, hcj, hfj⟩ := HW.out.at (i := j) (d := d) (by rw [List.getElem?_append_left (by have := HM.out; simp; omega), List.getElem?_take_of_lt (by omega)]; exact hdj)
          simp only [Option.some.injEq, Addr.mk.injEq, and_true] at hA'
          obtain ⟨rfl, rfl⟩ := hA'
          have HJ := Lib.hid hdj
          clear hdj
          by_cases h9 : d = 9
          · have e9 : ((d : Int) == 9) = true := by simp; omega
            have hj0 : 1 ≤ j := by
              rcases Nat.eq_zero_or_pos j with h0 | h0
              · have := HJ.out; rw [h0] at this; simp at this; omega
              · exact h0
            have HD9 := Lib.hid h9
            clear h9
            go_wp2_with fail
            have hst := HW.out.set (i := j) (d := 0) (by have := HM.out; simp; omega)
            rw [set_at _ HJ.out] at hst
            have hj1 : j - 1 + 1 = j := by omega
            have hnj : n - (j - 1) = n - j + 1 := by omega
            refine ⟨⟨j - 1, by omega, by congr 1; omega, ?_, ?_, hxr.set _ hb3⟩, by simp [intOf]; omega⟩
            · show _ = _
              rw [hj1, hnj, List.replicate_succ]
              have he := HE.out
              rw [take_at HJ.out, List.append_assoc, List.singleton_append, HD9.out] at he
              exact he
            · show Dg _ _ _ _ _ _ _
              rw [hj1, hnj, List.replicate_succ]; exact hst
          · have e9 : ((d : Int) == 9) = false := by simp; omega
            have hst := HW.out.set (i := j) (d := d + 1) (by have := HM.out; simp; omega)
            rw [set_at _ HJ.out, show ((d + 1 : Nat) : Int) = (d : Int) + 1 by omega] at hst
            have hK : AllD (0 :: hd) := AllD.cons (by omega) (fun x hx => HALL.out x (by simp [hx]))
            have hall2 : AllD ((0 :: hd).take j ++ (d + 1) :: List.replicate (n - j) 0) := (hK.take j).append (AllD.cons (by omega) (AllD.rep _ _ (by omega)))
            have hval : val ((0 :: hd).take j ++ (d + 1) :: List.replicate (n - j) 0) = MV := by
              rw [← HMV.out, HU.out, if_pos rfl, val_incr]
              have he := HE.out
              rw [take_at HJ.out, List.append_assoc, List.singleton_append] at he
              rw [← he, val_cons]; omega
            have hln : ((0 :: hd).take j ++ (d + 1) :: List.replicate (n - j) 0).length = 1 + n := by have := HM.out; simp; omega
            have hcs := rstrip_dig w.heap.size (some ⟨b3, o3, none⟩) c3 (1 + n) _ _ _ hln hst.rd (by omega) (by have := hst.1; omega) hall2 hval
            clear hst hK hall2 hval hln
            go_wp2_with (go_at_call 69; refine hcs.mono ?_; rintro e w' ⟨⟨A', cap', rfl, hr, hcp⟩, rfl⟩)
            go_ret
            exact ⟨⟨A', cap', rfl, hr, hcp⟩, hxr.set _ hb3⟩
      · have HU := Lib.hid (up_false (r0 := r0) (dl := dl) (mm := mm) (by assumption) HM2.out HDL.out)
        clear hcl
        have hK : AllD (0 :: hd) := AllD.cons (by omega) (fun x hx => HALL.out x (by simp [hx]))
        have hval : val (0 :: hd) = MV := by
          rw [← HMV.out, HU.out, if_neg (by simp), val_cons]; omega
        have hln : (0 :: hd).length = 1 + n := by have := HM.out; simp; omega
        have hcs := rstrip_dig w.heap.size (some ⟨b3, o3, none⟩) c3 (1 + n) _ _ w3 hln HK3.out.rd (by omega) (by have := HK3.out.1; omega) hK hval
        clear hK hval hln
        go_wp2_with (go_at_call 69; refine hcs.mono ?_; rintro e w' ⟨⟨A', cap', rfl, hr, hcp⟩, rfl⟩)
        go_ret
        exact ⟨⟨A', cap', rfl, hr, hcp⟩, hx3⟩

/-- cut, of a list without noughts ahead. -/
theorem rcut_any (base : Nat) (A : Option Addr) (cap len k N : Nat) (more : Bool) (w : World) (hk : 0 < k) (hlen : nd N = len) (h : Rd base w A (i6 (dig N))) (hcp : len ≤ cap) (hbig : len ≤ 1000000) (hb : base ≤ w.heap.size) :
    Calls Tryd.prog 74 #[.slice A len cap, .int .i64 (k : Int), .bool more] w fun e w' => LOut base w' (dig (cutN N k more)) e ∧ Ext w w' := by
  have hdl := dig_length N
  by_cases hf : len < k
  · rw [cutN_far more (by omega), dig_zero]
    exact (rcut_far A cap len k more w hf).mono fun e w' ⟨h1, h2⟩ => ⟨⟨none, 0, h1, Rd.nil _ _ _, Nat.zero_le _⟩, by rw [← h2]; exact Ext.refl _⟩
  · obtain ⟨r0, hr0⟩ : ∃ r0, (dig N)[len - k]? = some r0 := ⟨(dig N)[len - k]'(by omega), by rw [List.getElem?_eq_getElem]⟩
    have hnl : len - k < (dig N).length := by omega
    have hdrop : (dig N).drop (len - k) = r0 :: (dig N).drop (len - k + 1) := by
      rw [List.drop_eq_getElem_cons hnl]
      rw [List.getElem?_eq_getElem hnl] at hr0
      rw [Option.some.inj hr0]
    obtain ⟨b, off, rfl, _, _⟩ := Rd.at_ h hr0
    have hin : RCut base w b off cap len k ((dig N).take (len - k)) r0 ((dig N).drop (len - k + 1)) := ⟨by rw [← hdrop, List.take_append_drop]; exact h, by simp; omega, by simp; omega, hcp, hbig⟩
    have hv := cut_up (dig_all N) (len - k) r0 _ more hdrop
    rw [val_dig, hdl, hlen, show len - (len - k) = k by omega] at hv
    rw [hv]
    exact (rcut_yes base b off cap len k _ r0 _ more w hin (by rw [← hdrop, List.take_append_drop]; exact dig_all N)).mono fun e w' ⟨⟨A', c', h1, h2, h3⟩, h4⟩ => ⟨⟨A', c', h1, h2.mono hb, h3⟩, h4⟩
end Go.Proofs.YtihfiegopnjeiaaDoor
