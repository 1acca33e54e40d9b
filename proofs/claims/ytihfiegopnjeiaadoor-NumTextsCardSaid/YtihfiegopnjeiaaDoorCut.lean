/- num.cut: the first digits, rounded by the others. -/
import Derived.Test.YtihfiegopnjeiaaDoorNMem
namespace Go.Proofs.YtihfiegopnjeiaaDoor
set_option linter.unusedSimpArgs false
set_option linter.unusedVariables false
open Go.RowKit NM

/-- What is known of a list that is cut: its first n digits, the next one, the others. -/
structure CutIn (base : Nat) (w : World) (b off cap n len : Nat) (hd : List Nat) (r0 : Nat) (rest : List Nat) : Prop where
  dg : Dg .u8 5 base w (some ⟨b, off, none⟩) cap (hd ++ r0 :: rest)
  hn : hd.length = n
  hlen : n + 1 + rest.length = len
  big : len ≤ 1000000
section
variable {base : Nat} {w : World} {b off cap n len : Nat} {hd : List Nat} {r0 : Nat} {rest : List Nat}
theorem CutIn.facts (h : CutIn base w b off cap n len hd r0 rest) : n ≤ cap ∧ n < cap ∧ ¬ cap = n ∧ n ≤ len ∧ n < len ∧ 0 < len - n ∧ len ≤ cap ∧ base ≤ b ∧ b < w.heap.size ∧ w.cell? ⟨b, off + n, none⟩ = some (.int .u8 (r0 : Int)) := by
  obtain ⟨b', off', hA, hb, hc, hf⟩ := h.dg.at (i := n) (d := r0) (by rw [← h.hn]; simp)
  simp only [Option.some.injEq, Addr.mk.injEq, and_true] at hA
  obtain ⟨rfl, rfl⟩ := hA
  have h1 := h.dg.1
  have h2 := h.hn
  have h3 := h.hlen
  have h4 := lt_of_cell hc
  simp at h1 h4
  exact ⟨by omega, by omega, by omega, by omega, by omega, by omega, by omega, hb, h4, hc⟩
theorem CutIn.ext {w' : World} (h : CutIn base w b off cap n len hd r0 rest) (hx : Ext w w') : CutIn base w' b off cap n len hd r0 rest := ⟨h.dg.ext hx, h.hn, h.hlen, h.big⟩
/-- The first n, alone. -/
theorem CutIn.head (h : CutIn base w b off cap n len hd r0 rest) (c : Nat) (hc : n ≤ c) : Dg .u8 5 base w (some ⟨b, off, none⟩) c hd := by
  have := h.dg.take n c hc
  rwa [← h.hn, List.take_left] at this
end

set_option maxHeartbeats 1000000 in
theorem cut_less (base b off cap n len r0 : Nat) (hd rest : List Nat) (w : World) (h : CutIn base w b off cap n len hd r0 rest) (hr : r0 < 5) :
    Calls Tryd.prog 73 #[.slice (some ⟨b, off, none⟩) len cap, .int .i64 (n : Int)] w fun e w' => e = .returned (.slice (some ⟨b, off, none⟩) n n) ∧ Ext w w' := by
  have h5 : ((r0 : Int) == 5) = false := by simp; omega
  have h6 : decide (5 < (r0 : Int)) = false := by simp; omega
  have hbig := h.big
  obtain ⟨hn1, hn2, hn3, hn4, hn5, hn6, hn7, hb, hbw, hc⟩ := h.facts; have H := Lib.hid h; clear h
  go_enter Tryd.func73, Tryd.ntmps73
  go_wp2
  refine wp_plan (S := Ext _) [(0, 0), (1, 0), (2, 0), (3, 0), (4, 0), (5, 0), (6, 0), (7, 0), (8, 0)] [] (by kernel_rfl) (by kernel_rfl) (by kernel_rfl) (fun _ _ d _ _ h => by cases d <;> exact h) (Ext.drew (Ext.refl _)) ?_
  (refine wpPl_read (v := ?_) rfl ?_ (fun w1 h1 => ?_) ?_; rotate_left 1; rfl; (obtain ⟨os1, d1, rfl⟩ := h1.more; go_simp; first | done | rfl))
  try simp only [Act.put, List.setIfInBounds_toArray, List.set_cons_zero, List.set_cons_succ]
  (refine wpPl_read (v := ?_) rfl ?_ (fun w1 h1 => ?_) ?_; rotate_left 1; rfl; (obtain ⟨os1, d1, rfl⟩ := h1.more; go_simp; first | done | rfl))
  try simp only [Act.put, List.setIfInBounds_toArray, List.set_cons_zero, List.set_cons_succ]
  (refine wpPl_read (v := ?_) rfl ?_ (fun w1 h1 => ?_) ?_; rotate_left 1; rfl; (obtain ⟨os1, d1, rfl⟩ := h1.more; go_simp; first | done | rfl))
  try simp only [Act.put, List.setIfInBounds_toArray, List.set_cons_zero, List.set_cons_succ]
  (refine wpPl_read (v := ?_) rfl ?_ (fun w1 h1 => ?_) ?_; rotate_left 1; rfl; (obtain ⟨os1, d1, rfl⟩ := h1.more; go_simp; first | done | rfl))
  try simp only [Act.put, List.setIfInBounds_toArray, List.set_cons_zero, List.set_cons_succ]
  (refine wpPl_read (v := ?_) rfl ?_ (fun w1 h1 => ?_) ?_; rotate_left 1; rfl; (obtain ⟨os1, d1, rfl⟩ := h1.more; go_simp; first | done | rfl))
  try simp only [Act.put, List.setIfInBounds_toArray, List.set_cons_zero, List.set_cons_succ]
  (refine wpPl_read (v := ?_) rfl ?_ (fun w1 h1 => ?_) ?_; rotate_left 1; rfl; (obtain ⟨os1, d1, rfl⟩ := h1.more; go_simp; first | done | rfl))
  try simp only [Act.put, List.setIfInBounds_toArray, List.set_cons_zero, List.set_cons_succ]
  (refine wpPl_read (v := ?_) rfl ?_ (fun w1 h1 => ?_) ?_; rotate_left 1; rfl; (obtain ⟨os1, d1, rfl⟩ := h1.more; go_simp; first | done | rfl))
  try simp only [Act.put, List.setIfInBounds_toArray, List.set_cons_zero, List.set_cons_succ]
  (refine wpPl_read (v := ?_) rfl ?_ (fun w1 h1 => ?_) ?_; rotate_left 1; rfl; (obtain ⟨os1, d1, rfl⟩ := h1.more; go_simp; first | done | rfl))
  try simp only [Act.put, List.setIfInBounds_toArray, List.set_cons_zero, List.set_cons_succ]
  (refine wpPl_read (v := ?_) rfl ?_ (fun w1 h1 => ?_) ?_; rotate_left 1; rfl; (obtain ⟨os1, d1, rfl⟩ := h1.more; go_simp; first | done | rfl))
  try simp only [Act.put, List.setIfInBounds_toArray, List.set_cons_zero, List.set_cons_succ]
  refine wpPl_nil ?_
  go_wp2
  go_ret
  exact ⟨rfl, by repeat (first | exact Ext.refl _ | apply Ext.drew | apply Ext.alloc | apply Ext.more_)⟩

/-- What stands behind the next digit, as the walk slices it. -/
theorem CutIn.rest_ {base : Nat} {w : World} {b off cap n len : Nat} {hd : List Nat} {r0 : Nat} {rest : List Nat} (h : CutIn base w b off cap n len hd r0 rest) :
    rest.length = len - n - 1 ∧ (cap - n = 1 → Dg .u8 5 base w (some ⟨b, off + n, none⟩) 0 rest) ∧ Dg .u8 5 base w (some ⟨b, off + n + 1, none⟩) (cap - n - 1) rest := by
  have h1 := h.hn
  have h2 := h.hlen
  have h3 := h.dg.1
  simp at h3
  refine ⟨by omega, fun hc => ?_, ?_⟩
  · have : rest = [] := List.eq_nil_of_length_eq_zero (by omega)
    rw [this]; exact Dg.nil _ _
  · have := h.dg.drop (n + 1)
    rw [← h1, show List.drop (hd.length + 1) (hd ++ r0 :: rest) = rest by simp [List.drop_append]] at this
    rw [← h1, Nat.add_assoc, Nat.sub_sub]; exact this
theorem last_of {base : Nat} {w : World} {b off cap n : Nat} {hd : List Nat} (hn : hd.length = n) (h0 : 1 ≤ n) (h : Dg .u8 5 base w (some ⟨b, off, none⟩) cap hd) :
    ∃ dl : Nat, w.cell? ⟨b, off + (n - 1), none⟩ = some (.int .u8 (dl : Int)) ∧ val hd % 2 = dl % 2 := by
  obtain ⟨dl, hdl⟩ : ∃ dl, hd[n - 1]? = some dl := ⟨hd[n - 1]'(by omega), by rw [List.getElem?_eq_getElem]⟩
  obtain ⟨b', off', hA, hb, hc, hf⟩ := h.at hdl
  simp only [Option.some.injEq, Addr.mk.injEq, and_true] at hA
  obtain ⟨rfl, rfl⟩ := hA
  refine ⟨dl, hc, ?_⟩
  have he : hd = hd.take (n - 1) ++ [dl] := by
    have h1 := List.take_append_drop (n - 1) hd
    have h2 : hd.drop (n - 1) = [dl] := by
      apply List.ext_getElem?
      intro i
      rw [List.getElem?_drop]
      cases i with
      | zero => simpa using hdl
      | succ i => rw [List.getElem?_eq_none (by omega)]; simp
    rw [h2] at h1; exact h1.symm
  rw [he, val_snoc]; omega
theorem last_even {hd : List Nat} {dl : Nat} : val (hd ++ [dl]) % 2 = dl % 2 := by rw [val_snoc]; omega

theorem bare_rest (base : Nat) (A : Option Addr) (cap m : Nat) (l : List Nat) (w : World) (hm : l.length = m) (h : Dg .u8 5 base w A cap l) (hl : m ≤ 4611686018427387904) :
    Calls Tryd.prog 72 #[.slice A m cap] w fun e w' => (∃ A' cap', e = .returned (.slice A' (strip l).length cap')) ∧ w = w' := by
  subst hm
  exact (bare_any base A cap l w h hl).mono fun e w' ⟨⟨A', cap', h1, _⟩, h2⟩ => ⟨⟨A', cap', h1⟩, h2⟩

set_option maxHeartbeats 1000000 in
theorem cut_tie (base b off cap n len : Nat) (hd rest : List Nat) (w : World) (h : CutIn base w b off cap n len hd 5 rest) (hr : strip rest = []) (hq : val hd % 2 = 0) :
    Calls Tryd.prog 73 #[.slice (some ⟨b, off, none⟩) len cap, .int .i64 (n : Int)] w fun e w' => e = .returned (.slice (some ⟨b, off, none⟩) n n) ∧ Ext w w' := by
  have hbig := h.big
  have HS : Hid ((strip rest).length = 0) := by show _ = _; rw [hr]; rfl
  have hdd := h.head n (Nat.le_refl _)
  have HN := Lib.hid h.hn
  clear hr
  obtain ⟨hrl, hr1, hr2⟩ := h.rest_; have hrb : rest.length ≤ 4611686018427387904 := (by omega); rw [hrl] at hrb
  obtain ⟨hn1, hn2, hn3, hn4, hn5, hn6, hn7, hb, hbw, hc⟩ := h.facts; have H := Lib.hid h; clear h
  have HL := Lib.hid hrl
  clear hrl
  by_cases hn0 : n = 0
  · have e0 : decide (0 < n) = false := by simp; omega
    have HZ := Lib.hid hn0
    clear hn0
    by_cases hc1 : cap - n = 1
    · have HR := Lib.hid (hr1 hc1)
      clear hr1 hr2
      go_enter Tryd.func73, Tryd.ntmps73
      go_wp2
      refine wp_plan (S := Ext _) [(0, 0), (1, 0), (2, 0), (3, 0), (4, 0), (5, 0), (6, 0), (7, 0), (8, 0)] [] (by kernel_rfl) (by kernel_rfl) (by kernel_rfl) (fun _ _ d _ _ h => by cases d <;> exact h) (Ext.drew (Ext.refl _)) ?_
      (refine wpPl_read (v := ?_) rfl ?_ (fun w1 h1 => ?_) ?_; rotate_left 1; rfl; (obtain ⟨os1, d1, rfl⟩ := h1.more; go_simp; first | done | rfl))
      try simp only [Act.put, List.setIfInBounds_toArray, List.set_cons_zero, List.set_cons_succ]
      (refine wpPl_read (v := ?_) rfl ?_ (fun w1 h1 => ?_) ?_; rotate_left 1; rfl; (obtain ⟨os1, d1, rfl⟩ := h1.more; go_simp; first | done | rfl))
      try simp only [Act.put, List.setIfInBounds_toArray, List.set_cons_zero, List.set_cons_succ]
      (refine wpPl_read (v := ?_) rfl ?_ (fun w1 h1 => ?_) ?_; rotate_left 1; rfl; (obtain ⟨os1, d1, rfl⟩ := h1.more; go_simp; first | done | rfl))
      try simp only [Act.put, List.setIfInBounds_toArray, List.set_cons_zero, List.set_cons_succ]
      (refine wpPl_read (v := ?_) rfl ?_ (fun w1 h1 => ?_) ?_; rotate_left 1; rfl; (obtain ⟨os1, d1, rfl⟩ := h1.more; go_simp; first | done | rfl))
      try simp only [Act.put, List.setIfInBounds_toArray, List.set_cons_zero, List.set_cons_succ]
      (refine wpPl_read (v := ?_) rfl ?_ (fun w1 h1 => ?_) ?_; rotate_left 1; rfl; (obtain ⟨os1, d1, rfl⟩ := h1.more; go_simp; first | done | rfl))
      try simp only [Act.put, List.setIfInBounds_toArray, List.set_cons_zero, List.set_cons_succ]
      (refine wpPl_read (v := ?_) rfl ?_ (fun w1 h1 => ?_) ?_; rotate_left 1; rfl; (obtain ⟨os1, d1, rfl⟩ := h1.more; go_simp; first | done | rfl))
      try simp only [Act.put, List.setIfInBounds_toArray, List.set_cons_zero, List.set_cons_succ]
      (refine wpPl_read (v := ?_) rfl ?_ (fun w1 h1 => ?_) ?_; rotate_left 1; rfl; (obtain ⟨os1, d1, rfl⟩ := h1.more; go_simp; first | done | rfl))
      try simp only [Act.put, List.setIfInBounds_toArray, List.set_cons_zero, List.set_cons_succ]
      (refine wpPl_read (v := ?_) rfl ?_ (fun w1 h1 => ?_) ?_; rotate_left 1; rfl; (obtain ⟨os1, d1, rfl⟩ := h1.more; go_simp; first | done | rfl))
      try simp only [Act.put, List.setIfInBounds_toArray, List.set_cons_zero, List.set_cons_succ]
      (refine wpPl_read (v := ?_) rfl ?_ (fun w1 h1 => ?_) ?_; rotate_left 1; rfl; (obtain ⟨os1, d1, rfl⟩ := h1.more; go_simp; first | done | rfl))
      try simp only [Act.put, List.setIfInBounds_toArray, List.set_cons_zero, List.set_cons_succ]
      refine wpPl_nil ?_
      go_wp2_with (go_at_call 72; refine (bare_rest base _ _ _ rest _ HL.out (HR.out.ext (by repeat (first | exact Ext.refl _ | apply Ext.drew | apply Ext.alloc | apply Ext.more_))) hrb).mono ?_; rintro e w' ⟨⟨A', cap', rfl⟩, rfl⟩; rw [HS.out])
      go_ret
      exact ⟨rfl, by repeat (first | exact Ext.refl _ | apply Ext.drew | apply Ext.alloc | apply Ext.more_)⟩
    · have HR := Lib.hid hr2
      clear hr1 hr2
      go_enter Tryd.func73, Tryd.ntmps73
      go_wp2
      refine wp_plan (S := Ext _) [(0, 0), (1, 0), (2, 0), (3, 0), (4, 0), (5, 0), (6, 0), (7, 0), (8, 0)] [] (by kernel_rfl) (by kernel_rfl) (by kernel_rfl) (fun _ _ d _ _ h => by cases d <;> exact h) (Ext.drew (Ext.refl _)) ?_
      (refine wpPl_read (v := ?_) rfl ?_ (fun w1 h1 => ?_) ?_; rotate_left 1; rfl; (obtain ⟨os1, d1, rfl⟩ := h1.more; go_simp; first | done | rfl))
      try simp only [Act.put, List.setIfInBounds_toArray, List.set_cons_zero, List.set_cons_succ]
      (refine wpPl_read (v := ?_) rfl ?_ (fun w1 h1 => ?_) ?_; rotate_left 1; rfl; (obtain ⟨os1, d1, rfl⟩ := h1.more; go_simp; first | done | rfl))
      try simp only [Act.put, List.setIfInBounds_toArray, List.set_cons_zero, List.set_cons_succ]
      (refine wpPl_read (v := ?_) rfl ?_ (fun w1 h1 => ?_) ?_; rotate_left 1; rfl; (obtain ⟨os1, d1, rfl⟩ := h1.more; go_simp; first | done | rfl))
      try simp only [Act.put, List.setIfInBounds_toArray, List.set_cons_zero, List.set_cons_succ]
      (refine wpPl_read (v := ?_) rfl ?_ (fun w1 h1 => ?_) ?_; rotate_left 1; rfl; (obtain ⟨os1, d1, rfl⟩ := h1.more; go_simp; first | done | rfl))
      try simp only [Act.put, List.setIfInBounds_toArray, List.set_cons_zero, List.set_cons_succ]
      (refine wpPl_read (v := ?_) rfl ?_ (fun w1 h1 => ?_) ?_; rotate_left 1; rfl; (obtain ⟨os1, d1, rfl⟩ := h1.more; go_simp; first | done | rfl))
      try simp only [Act.put, List.setIfInBounds_toArray, List.set_cons_zero, List.set_cons_succ]
      (refine wpPl_read (v := ?_) rfl ?_ (fun w1 h1 => ?_) ?_; rotate_left 1; rfl; (obtain ⟨os1, d1, rfl⟩ := h1.more; go_simp; first | done | rfl))
      try simp only [Act.put, List.setIfInBounds_toArray, List.set_cons_zero, List.set_cons_succ]
      (refine wpPl_read (v := ?_) rfl ?_ (fun w1 h1 => ?_) ?_; rotate_left 1; rfl; (obtain ⟨os1, d1, rfl⟩ := h1.more; go_simp; first | done | rfl))
      try simp only [Act.put, List.setIfInBounds_toArray, List.set_cons_zero, List.set_cons_succ]
      (refine wpPl_read (v := ?_) rfl ?_ (fun w1 h1 => ?_) ?_; rotate_left 1; rfl; (obtain ⟨os1, d1, rfl⟩ := h1.more; go_simp; first | done | rfl))
      try simp only [Act.put, List.setIfInBounds_toArray, List.set_cons_zero, List.set_cons_succ]
      (refine wpPl_read (v := ?_) rfl ?_ (fun w1 h1 => ?_) ?_; rotate_left 1; rfl; (obtain ⟨os1, d1, rfl⟩ := h1.more; go_simp; first | done | rfl))
      try simp only [Act.put, List.setIfInBounds_toArray, List.set_cons_zero, List.set_cons_succ]
      refine wpPl_nil ?_
      go_wp2_with (go_at_call 72; refine (bare_rest base _ _ _ rest _ HL.out (HR.out.ext (by repeat (first | exact Ext.refl _ | apply Ext.drew | apply Ext.alloc | apply Ext.more_))) hrb).mono ?_; rintro e w' ⟨⟨A', cap', rfl⟩, rfl⟩; rw [HS.out])
      go_ret
      exact ⟨rfl, by repeat (first | exact Ext.refl _ | apply Ext.drew | apply Ext.alloc | apply Ext.more_)⟩
  · have e0 : decide (0 < n) = true := by simp; omega
    have hn0' : 1 ≤ n := by omega
    obtain ⟨dl, hdl, hdm⟩ := last_of HN.out hn0' hdd
    have e1 : (((dl : Int)) % 2 == 1) = false := by simp; omega
    have hdl10 : dl % 2 = 0 := by omega
    clear hq hdm hn0
    by_cases hc1 : cap - n = 1
    · have HR := Lib.hid (hr1 hc1)
      clear hr1 hr2
      go_enter Tryd.func73, Tryd.ntmps73
      go_wp2
      refine wp_plan (S := Ext _) [(0, 0), (1, 0), (2, 0), (3, 0), (4, 0), (5, 0), (6, 0), (7, 0), (8, 0)] [] (by kernel_rfl) (by kernel_rfl) (by kernel_rfl) (fun _ _ d _ _ h => by cases d <;> exact h) (Ext.drew (Ext.refl _)) ?_
      (refine wpPl_read (v := ?_) rfl ?_ (fun w1 h1 => ?_) ?_; rotate_left 1; rfl; (obtain ⟨os1, d1, rfl⟩ := h1.more; go_simp; first | done | rfl))
      try simp only [Act.put, List.setIfInBounds_toArray, List.set_cons_zero, List.set_cons_succ]
      (refine wpPl_read (v := ?_) rfl ?_ (fun w1 h1 => ?_) ?_; rotate_left 1; rfl; (obtain ⟨os1, d1, rfl⟩ := h1.more; go_simp; first | done | rfl))
      try simp only [Act.put, List.setIfInBounds_toArray, List.set_cons_zero, List.set_cons_succ]
      (refine wpPl_read (v := ?_) rfl ?_ (fun w1 h1 => ?_) ?_; rotate_left 1; rfl; (obtain ⟨os1, d1, rfl⟩ := h1.more; go_simp; first | done | rfl))
      try simp only [Act.put, List.setIfInBounds_toArray, List.set_cons_zero, List.set_cons_succ]
      (refine wpPl_read (v := ?_) rfl ?_ (fun w1 h1 => ?_) ?_; rotate_left 1; rfl; (obtain ⟨os1, d1, rfl⟩ := h1.more; go_simp; first | done | rfl))
      try simp only [Act.put, List.setIfInBounds_toArray, List.set_cons_zero, List.set_cons_succ]
      (refine wpPl_read (v := ?_) rfl ?_ (fun w1 h1 => ?_) ?_; rotate_left 1; rfl; (obtain ⟨os1, d1, rfl⟩ := h1.more; go_simp; first | done | rfl))
      try simp only [Act.put, List.setIfInBounds_toArray, List.set_cons_zero, List.set_cons_succ]
      (refine wpPl_read (v := ?_) rfl ?_ (fun w1 h1 => ?_) ?_; rotate_left 1; rfl; (obtain ⟨os1, d1, rfl⟩ := h1.more; go_simp; first | done | rfl))
      try simp only [Act.put, List.setIfInBounds_toArray, List.set_cons_zero, List.set_cons_succ]
      (refine wpPl_read (v := ?_) rfl ?_ (fun w1 h1 => ?_) ?_; rotate_left 1; rfl; (obtain ⟨os1, d1, rfl⟩ := h1.more; go_simp; first | done | rfl))
      try simp only [Act.put, List.setIfInBounds_toArray, List.set_cons_zero, List.set_cons_succ]
      (refine wpPl_read (v := ?_) rfl ?_ (fun w1 h1 => ?_) ?_; rotate_left 1; rfl; (obtain ⟨os1, d1, rfl⟩ := h1.more; go_simp; first | done | rfl))
      try simp only [Act.put, List.setIfInBounds_toArray, List.set_cons_zero, List.set_cons_succ]
      (refine wpPl_read (v := ?_) rfl ?_ (fun w1 h1 => ?_) ?_; rotate_left 1; rfl; (obtain ⟨os1, d1, rfl⟩ := h1.more; go_simp; first | done | rfl))
      try simp only [Act.put, List.setIfInBounds_toArray, List.set_cons_zero, List.set_cons_succ]
      refine wpPl_nil ?_
      go_wp2_with (go_at_call 72; refine (bare_rest base _ _ _ rest _ HL.out (HR.out.ext (by repeat (first | exact Ext.refl _ | apply Ext.drew | apply Ext.alloc | apply Ext.more_))) hrb).mono ?_; rintro e w' ⟨⟨A', cap', rfl⟩, rfl⟩; rw [HS.out])
      go_ret
      exact ⟨rfl, by repeat (first | exact Ext.refl _ | apply Ext.drew | apply Ext.alloc | apply Ext.more_)⟩
    · have HR := Lib.hid hr2
      clear hr1 hr2
      go_enter Tryd.func73, Tryd.ntmps73
      go_wp2
      refine wp_plan (S := Ext _) [(0, 0), (1, 0), (2, 0), (3, 0), (4, 0), (5, 0), (6, 0), (7, 0), (8, 0)] [] (by kernel_rfl) (by kernel_rfl) (by kernel_rfl) (fun _ _ d _ _ h => by cases d <;> exact h) (Ext.drew (Ext.refl _)) ?_
      (refine wpPl_read (v := ?_) rfl ?_ (fun w1 h1 => ?_) ?_; rotate_left 1; rfl; (obtain ⟨os1, d1, rfl⟩ := h1.more; go_simp; first | done | rfl))
      try simp only [Act.put, List.setIfInBounds_toArray, List.set_cons_zero, List.set_cons_succ]
      (refine wpPl_read (v := ?_) rfl ?_ (fun w1 h1 => ?_) ?_; rotate_left 1; rfl; (obtain ⟨os1, d1, rfl⟩ := h1.more; go_simp; first | done | rfl))
      try simp only [Act.put, List.setIfInBounds_toArray, List.set_cons_zero, List.set_cons_succ]
      (refine wpPl_read (v := ?_) rfl ?_ (fun w1 h1 => ?_) ?_; rotate_left 1; rfl; (obtain ⟨os1, d1, rfl⟩ := h1.more; go_simp; first | done | rfl))
      try simp only [Act.put, List.setIfInBounds_toArray, List.set_cons_zero, List.set_cons_succ]
      (refine wpPl_read (v := ?_) rfl ?_ (fun w1 h1 => ?_) ?_; rotate_left 1; rfl; (obtain ⟨os1, d1, rfl⟩ := h1.more; go_simp; first | done | rfl))
      try simp only [Act.put, List.setIfInBounds_toArray, List.set_cons_zero, List.set_cons_succ]
      (refine wpPl_read (v := ?_) rfl ?_ (fun w1 h1 => ?_) ?_; rotate_left 1; rfl; (obtain ⟨os1, d1, rfl⟩ := h1.more; go_simp; first | done | rfl))
      try simp only [Act.put, List.setIfInBounds_toArray, List.set_cons_zero, List.set_cons_succ]
      (refine wpPl_read (v := ?_) rfl ?_ (fun w1 h1 => ?_) ?_; rotate_left 1; rfl; (obtain ⟨os1, d1, rfl⟩ := h1.more; go_simp; first | done | rfl))
      try simp only [Act.put, List.setIfInBounds_toArray, List.set_cons_zero, List.set_cons_succ]
      (refine wpPl_read (v := ?_) rfl ?_ (fun w1 h1 => ?_) ?_; rotate_left 1; rfl; (obtain ⟨os1, d1, rfl⟩ := h1.more; go_simp; first | done | rfl))
      try simp only [Act.put, List.setIfInBounds_toArray, List.set_cons_zero, List.set_cons_succ]
      (refine wpPl_read (v := ?_) rfl ?_ (fun w1 h1 => ?_) ?_; rotate_left 1; rfl; (obtain ⟨os1, d1, rfl⟩ := h1.more; go_simp; first | done | rfl))
      try simp only [Act.put, List.setIfInBounds_toArray, List.set_cons_zero, List.set_cons_succ]
      (refine wpPl_read (v := ?_) rfl ?_ (fun w1 h1 => ?_) ?_; rotate_left 1; rfl; (obtain ⟨os1, d1, rfl⟩ := h1.more; go_simp; first | done | rfl))
      try simp only [Act.put, List.setIfInBounds_toArray, List.set_cons_zero, List.set_cons_succ]
      refine wpPl_nil ?_
      go_wp2_with (go_at_call 72; refine (bare_rest base _ _ _ rest _ HL.out (HR.out.ext (by repeat (first | exact Ext.refl _ | apply Ext.drew | apply Ext.alloc | apply Ext.more_))) hrb).mono ?_; rintro e w' ⟨⟨A', cap', rfl⟩, rfl⟩; rw [HS.out])
      go_ret
      exact ⟨rfl, by repeat (first | exact Ext.refl _ | apply Ext.drew | apply Ext.alloc | apply Ext.more_)⟩

theorem ne_len {l : List Nat} (h : 0 < l.length) : l ≠ [] := fun he => by rw [he] at h; exact absurd h (by simp)
theorem take_at {hd : List Nat} {j d : Nat} (h : hd[j]? = some d) : hd.take (j + 1) = hd.take j ++ [d] := by
  have hj : j < hd.length := by
    rcases Nat.lt_or_ge j hd.length with h1 | h1
    · exact h1
    · rw [List.getElem?_eq_none h1] at h; cases h
  rw [List.take_succ_eq_append_getElem hj]
  rw [List.getElem?_eq_getElem hj] at h
  rw [Option.some.inj h]
theorem set_at {hd R : List Nat} {j d : Nat} (x : Nat) (h : hd[j]? = some d) : (hd.take (j + 1) ++ R).set j x = hd.take j ++ x :: R := by
  have hj : j < hd.length := by
    rcases Nat.lt_or_ge j hd.length with h1 | h1
    · exact h1
    · rw [List.getElem?_eq_none h1] at h; cases h
  have hl : (hd.take j).length = j := by simp; omega
  rw [take_at h, List.append_assoc, List.singleton_append, List.set_append_right _ _ (by omega), hl, Nat.sub_self, List.set_cons_zero]
/-- What the list tells, one more. -/
theorem cut_val {hd : List Nat} {j n d : Nat} (hn : hd.length = n) (hj : j < n) (h : hd[j]? = some d) (he : hd = hd.take (j + 1) ++ List.replicate (n - (j + 1)) 9) (ha : AllD hd) (h9 : d < 9) :
    AllD (hd.take j ++ (d + 1) :: List.replicate (n - (j + 1)) 0) ∧ val (hd.take j ++ (d + 1) :: List.replicate (n - (j + 1)) 0) = val hd + 1 ∧ (hd.take j ++ (d + 1) :: List.replicate (n - (j + 1)) 0).length = n := by
  refine ⟨(ha.take j).append (AllD.cons (by omega) (AllD.rep _ _ (by omega))), ?_, by simp; omega⟩
  rw [val_incr]
  rw [take_at h, List.append_assoc, List.singleton_append] at he
  rw [← he]
theorem over_own {w : World} {base n : Nat} {v : Value} (hn : 0 < n) (h : w.ownsRow base 5 1 v (n + 1) ((1 :: List.replicate (n - 1) 0).map (fun d : Nat => Value.int .u8 (d : Int)) ++ [.int .u8 0])) :
    ∃ A' cap', v = .slice A' (n + 1) cap' ∧ Dg .u8 5 base w A' cap' (1 :: List.replicate n 0) := by
  have e : (1 :: List.replicate (n - 1) 0).map (fun d : Nat => Value.int .u8 (d : Int)) ++ [.int .u8 0] = (1 :: List.replicate n 0).map (fun d : Nat => Value.int .u8 (d : Int)) := by
    rw [show n = (n - 1) + 1 by omega, List.replicate_succ']
    simp
  rw [e] at h
  obtain ⟨A, c, rfl, h1, _⟩ := Dg.of_own h
  exact ⟨A, c, by simp, h1⟩
/-- One more. -/
def CutUp (base : Nat) (w : World) (n : Nat) (hd : List Nat) (e : Ending) (w' : World) : Prop :=
  ∃ A' cap' r, e = .returned (.slice A' r.length cap') ∧ Dg .u8 5 base w' A' cap' r ∧ AllD r ∧ val r = val hd + 1 ∧ (r.length = n ∨ r.length = n + 1 ∧ val r = T n) ∧ Kp base w w'
/-- 'rest[1:]', for the walk to take. -/
theorem CutIn.slice1 {base : Nat} {w : World} {b off cap n len : Nat} {hd : List Nat} {r0 : Nat} {rest : List Nat} (h : CutIn base w b off cap n len hd r0 rest) :
    ∃ A1 c1, (∀ W, (Instr.sliceAt 50 (.slice (some ⟨b, off + n, none⟩) (len - n) (cap - n)) (some (.int .i64 1)) none none).run Tryd.prog W = .ok (.slice A1 (len - n - 1) c1) W) ∧ Dg .u8 5 base w A1 c1 rest := by
  obtain ⟨hn1, hn2, hn3, hn4, hn5, hn6, hn7, hb, hbw, hc⟩ := h.facts
  obtain ⟨hrl, hr1, hr2⟩ := h.rest_
  have hbig := h.big
  by_cases hc1 : cap - n = 1
  · refine ⟨_, _, fun W => ?_, hr1 hc1⟩
    go_simp
    intro hx
    omega
  · refine ⟨_, _, fun W => ?_, hr2⟩
    go_simp
    intro hx
    omega
/-- Is it rounded up? As the code asks. -/
def UpIs (r0 : Nat) (hd rest : List Nat) : Prop := 5 < r0 ∨ r0 = 5 ∧ 0 < (strip rest).length ∨ r0 = 5 ∧ (strip rest).length = 0 ∧ val hd % 2 = 1
set_option maxRecDepth 100000 in
set_option maxHeartbeats 2000000 in
theorem cut_more (base b off cap n len r0 : Nat) (hd rest : List Nat) (w : World) (h : CutIn base w b off cap n len hd r0 rest) (hup : UpIs r0 hd rest) (hall : AllD hd) :
    Calls Tryd.prog 73 #[.slice (some ⟨b, off, none⟩) len cap, .int .i64 (n : Int)] w (CutUp base w n hd) := by
  have hbig := h.big
  have hdd := h.head n (Nat.le_refl _)
  have HN := Lib.hid h.hn
  obtain ⟨A1, c1, hsl, hr2⟩ := h.slice1
  obtain ⟨hrl, _, _⟩ := h.rest_
  have hrb : len - n - 1 ≤ 4611686018427387904 := by omega
  obtain ⟨hn1, hn2, hn3, hn4, hn5, hn6, hn7, hb, hbw, hc⟩ := h.facts; have H := Lib.hid h; clear h
  have HL := Lib.hid hrl
  have HR := Lib.hid hr2
  have HA := Lib.hid hall
  clear hrl hr2 hall
  rcases hup with hr | ⟨rfl, hr⟩ | ⟨rfl, hr, hq⟩
  · have h5 : ((r0 : Int) == 5) = false := by simp; omega
    have h6 : decide (5 < (r0 : Int)) = true := by simp; omega
    have HD := Lib.hid hdd
    clear hdd
    go_enter Tryd.func73, Tryd.ntmps73
    go_wp2
    refine wp_plan (S := Ext _) [(0, 0), (1, 0), (2, 0), (3, 0), (4, 0), (5, 0), (6, 0), (7, 0), (8, 0)] [] (by kernel_rfl) (by kernel_rfl) (by kernel_rfl) (fun _ _ d _ _ h => by cases d <;> exact h) (Ext.drew (Ext.refl _)) ?_
    (refine wpPl_read (v := ?_) rfl ?_ (fun w1 h1 => ?_) ?_; rotate_left 1; rfl; (obtain ⟨os1, d1, rfl⟩ := h1.more; go_simp; first | done | rfl))
    try simp only [Act.put, List.setIfInBounds_toArray, List.set_cons_zero, List.set_cons_succ]
    (refine wpPl_read (v := ?_) rfl ?_ (fun w1 h1 => ?_) ?_; rotate_left 1; rfl; (obtain ⟨os1, d1, rfl⟩ := h1.more; go_simp; first | done | rfl))
    try simp only [Act.put, List.setIfInBounds_toArray, List.set_cons_zero, List.set_cons_succ]
    (refine wpPl_read (v := ?_) rfl ?_ (fun w1 h1 => ?_) ?_; rotate_left 1; rfl; (obtain ⟨os1, d1, rfl⟩ := h1.more; go_simp; first | done | rfl))
    try simp only [Act.put, List.setIfInBounds_toArray, List.set_cons_zero, List.set_cons_succ]
    (refine wpPl_read (v := ?_) rfl ?_ (fun w1 h1 => ?_) ?_; rotate_left 1; rfl; (obtain ⟨os1, d1, rfl⟩ := h1.more; go_simp; first | done | rfl))
    try simp only [Act.put, List.setIfInBounds_toArray, List.set_cons_zero, List.set_cons_succ]
    (refine wpPl_read (v := ?_) rfl ?_ (fun w1 h1 => ?_) ?_; rotate_left 1; rfl; (obtain ⟨os1, d1, rfl⟩ := h1.more; go_simp; first | done | rfl))
    try simp only [Act.put, List.setIfInBounds_toArray, List.set_cons_zero, List.set_cons_succ]
    (refine wpPl_read (v := ?_) rfl ?_ (fun w1 h1 => ?_) ?_; rotate_left 1; rfl; (obtain ⟨os1, d1, rfl⟩ := h1.more; go_simp; first | done | rfl))
    try simp only [Act.put, List.setIfInBounds_toArray, List.set_cons_zero, List.set_cons_succ]
    (refine wpPl_read (v := ?_) rfl ?_ (fun w1 h1 => ?_) ?_; rotate_left 1; rfl; (obtain ⟨os1, d1, rfl⟩ := h1.more; go_simp; first | done | rfl))
    try simp only [Act.put, List.setIfInBounds_toArray, List.set_cons_zero, List.set_cons_succ]
    (refine wpPl_read (v := ?_) rfl ?_ (fun w1 h1 => ?_) ?_; rotate_left 1; rfl; (obtain ⟨os1, d1, rfl⟩ := h1.more; go_simp; first | done | rfl))
    try simp only [Act.put, List.setIfInBounds_toArray, List.set_cons_zero, List.set_cons_succ]
    (refine wpPl_read (v := ?_) rfl ?_ (fun w1 h1 => ?_) ?_; rotate_left 1; rfl; (obtain ⟨os1, d1, rfl⟩ := h1.more; go_simp; first | done | rfl))
    try simp only [Act.put, List.setIfInBounds_toArray, List.set_cons_zero, List.set_cons_succ]
    refine wpPl_nil ?_
    go_wp2_with fail
    go_loopw [8] (fun i wr => ∃ j : Nat, j ≤ n ∧ i = .int .i64 ((j : Int) - 1) ∧ Hid (hd = hd.take j ++ List.replicate (n - j) 9) ∧ Hid (Dg .u8 5 base wr (some ⟨b, off, none⟩) n (hd.take j ++ List.replicate (n - j) 0)) ∧ Kp base w wr) (fun i _ => (intOf i + 1).toNat)
    case atStart => exact ⟨n, Nat.le_refl _, rfl, by show _ = _; rw [← HN.out]; simp, by show Dg _ _ _ _ _ _ _; rw [Nat.sub_self, ← HN.out, List.take_length]; simp only [List.replicate_zero, List.append_nil]; rw [HN.out]; exact HD.out.ext (by repeat (first | exact Ext.refl _ | apply Ext.drew | apply Ext.alloc | apply Ext.more_)), (Kp.refl _ _).drew⟩
    case round =>
      obtain ⟨j, hj, rfl, HE, HW, hbel⟩ := hrel
      by_cases hj0 : j = 0
      · have e1 : ((j : Nat) : Int) - 1 = -1 := by omega
        simp only [e1]
        clear e1
        have HE0 : Hid (hd = List.replicate n 9) := by show _ = _; have := HE.out; rw [hj0] at this; simpa using this
        have HW0 : Hid (Dg .u8 5 base wr (some ⟨b, off, none⟩) n (List.replicate n 0)) := by show Dg _ _ _ _ _ _ _; have := HW.out; rw [hj0] at this; simpa using this
        clear hj0 HE HW hj
        by_cases hn0 : n = 0
        · have e0 : ((n : Int) == 0) = true := by simp [hn0]
          have e0b : (n == 0) = true := by simp [hn0]
          have HZ := Lib.hid hn0
          clear hn0
          go_wp2
          go_ret
          have hsz := hbel.size
          refine ⟨_, 1, [1], rfl, Dg.new [1] rfl rfl (by omega), AllD.cons (by omega) AllD.nil, ?_, Or.inr ⟨?_, ?_⟩, hbel.then_ext (by repeat (first | exact Ext.refl _ | apply Ext.drew | apply Ext.alloc | apply Ext.more_)) (by omega)⟩
          · rw [HE0.out, HZ.out]; rfl
          · rw [HZ.out]; rfl
          · rw [HZ.out]; rfl
        · have e0 : ((n : Int) == 0) = false := by simp [hn0]
          have e0b : (n == 0) = false := by simp [hn0]
          have hn0' : 0 < n := by omega
          obtain ⟨b', off', hA', _, hcj, hfj⟩ := HW0.out.at (i := 0) (d := 0) (by rw [List.getElem?_replicate, if_pos hn0'])
          simp only [Option.some.injEq, Addr.mk.injEq, and_true] at hA'
          obtain ⟨rfl, rfl⟩ := hA'
          rw [Nat.add_zero] at hcj hfj
          clear hn0
          obtain ⟨i0, hi, hz0, hz1, hz2⟩ := info_parts info_byte
          have HST : Hid (Dg .u8 5 base (wr.setCell ⟨b, off, none⟩ (.int .u8 1)) (some ⟨b, off, none⟩) n (1 :: List.replicate (n - 1) 0)) := by
            have := HW0.out.set (i := 0) (d := 1) (by simp; omega)
            rw [Nat.add_zero, show n = (n - 1) + 1 by omega, List.replicate_succ, List.set_cons_zero, ← show n = (n - 1) + 1 by omega] at this
            exact this
          go_wp2_with (at_builtin; refine wpList_append_grow _ rfl _ _ _ rfl 5 i0 (.int .u8 0) 1 1 Tryd.underlying50 hi hz0 hz1 hz2 rfl (by decide) ⟨b, off, none⟩ n n ((1 :: List.replicate (n - 1) 0).map fun d : Nat => Value.int .u8 (d : Int)) rfl (by simp; omega) ((HST.out.ext (by repeat (first | exact Ext.refl _ | apply Ext.drew | apply Ext.alloc | apply Ext.more_))).rd.mono (Nat.zero_le _)) _ 1 1 [.int .u8 0] rfl rfl (Rd.one_ _ _ (by simp)) (by omega) (Nat.le_refl _) (by simp [maxLen]; omega) (by omega) ?_; intro v' os d hown; obtain ⟨A', cap', rfl, hdg⟩ := over_own hn0' hown; clear hown)
          have hsz := hbel.size
          go_ret
          refine ⟨A', cap', 1 :: List.replicate n 0, ?_, hdg.mono (by simp; omega), AllD.cons (by omega) (AllD.rep _ _ (by omega)), ?_, Or.inr ⟨by simp, ?_⟩, (hbel.set (i := 0) HW0.out (ne_len (by rw [List.length_replicate]; omega)) _).then_ext (by repeat (first | exact Ext.refl _ | apply Ext.drew | apply Ext.alloc | apply Ext.more_)) (by omega)⟩
          · rw [List.length_cons, List.length_replicate]; rfl
          · rw [HE0.out, val_over]
          · rw [val_cons, val_rep0]; simp
      · obtain ⟨j, rfl⟩ : ∃ i, j = i + 1 := ⟨j - 1, by omega⟩
        obtain ⟨d, hdj⟩ : ∃ d, hd[j]? = some d := ⟨hd[j]'(by have := HN.out; omega), by rw [List.getElem?_eq_getElem]⟩
        have hd10 := HA.out.at hdj
        obtain ⟨b', off', hA', _, hcj, hfj⟩ := HW.out.at (i := j) (d := d) (by rw [List.getElem?_append_left (by have := HN.out; simp; omega), List.getElem?_take_of_lt (by omega)]; exact hdj)
        simp only [Option.some.injEq, Addr.mk.injEq, and_true] at hA'
        obtain ⟨rfl, rfl⟩ := hA'
        have e1 : ((j + 1 : Nat) : Int) - 1 = j := by omega
        simp only [e1]
        clear e1
        have hjn : j < n := by omega
        have HJ := Lib.hid hdj
        clear hdj
        by_cases h9 : d < 9
        · have e9 : decide ((d : Int) < 9) = true := by simp; omega
          go_wp2
          have hst := HW.out.set (i := j) (d := d + 1) (by have := HN.out; simp; omega)
          rw [set_at _ HJ.out] at hst
          obtain ⟨g1, g2, g3⟩ := cut_val HN.out hjn HJ.out HE.out HA.out h9
          rw [show ((d + 1 : Nat) : Int) = (d : Int) + 1 by omega] at hst
          go_ret
          refine ⟨_, n, _, ?_, hst, g1, g2, Or.inl g3, hbel.set HW.out (ne_len (by have := HN.out; rw [List.length_append, List.length_take, List.length_replicate]; omega)) _⟩
          rw [g3]; rfl
        · have e9 : decide ((d : Int) < 9) = false := by simp; omega
          go_wp2
          obtain rfl : d = 9 := by omega
          have hst := HW.out.set (i := j) (d := 0) (by have := HN.out; simp; omega)
          rw [set_at _ HJ.out] at hst
          refine ⟨⟨j, by omega, rfl, ?_, ?_, hbel.set HW.out (ne_len (by have := HN.out; rw [List.length_append, List.length_take, List.length_replicate]; omega)) _⟩, by simp [intOf]⟩
          · show _ = _
            have he := HE.out
            rw [take_at HJ.out, List.append_assoc, List.singleton_append, ← List.replicate_succ] at he
            rw [show n - j = n - (j + 1) + 1 by omega]; exact he
          · show Dg _ _ _ _ _ _ _
            rw [show n - j = n - (j + 1) + 1 by omega, List.replicate_succ]; exact hst
  · have HD := Lib.hid hdd
    clear hdd
    go_enter Tryd.func73, Tryd.ntmps73
    go_wp2
    refine wp_plan (S := Ext _) [(0, 0), (1, 0), (2, 0), (3, 0), (4, 0), (5, 0), (6, 0), (7, 0), (8, 0)] [] (by kernel_rfl) (by kernel_rfl) (by kernel_rfl) (fun _ _ d _ _ h => by cases d <;> exact h) (Ext.drew (Ext.refl _)) ?_
    (refine wpPl_read (v := ?_) rfl ?_ (fun w1 h1 => ?_) ?_; rotate_left 1; rfl; (obtain ⟨os1, d1, rfl⟩ := h1.more; go_simp; first | done | rfl))
    try simp only [Act.put, List.setIfInBounds_toArray, List.set_cons_zero, List.set_cons_succ]
    (refine wpPl_read (v := ?_) rfl ?_ (fun w1 h1 => ?_) ?_; rotate_left 1; rfl; (obtain ⟨os1, d1, rfl⟩ := h1.more; go_simp; first | done | rfl))
    try simp only [Act.put, List.setIfInBounds_toArray, List.set_cons_zero, List.set_cons_succ]
    (refine wpPl_read (v := ?_) rfl ?_ (fun w1 h1 => ?_) ?_; rotate_left 1; rfl; (obtain ⟨os1, d1, rfl⟩ := h1.more; go_simp; first | done | rfl))
    try simp only [Act.put, List.setIfInBounds_toArray, List.set_cons_zero, List.set_cons_succ]
    (refine wpPl_read (v := ?_) rfl ?_ (fun w1 h1 => ?_) ?_; rotate_left 1; rfl; (obtain ⟨os1, d1, rfl⟩ := h1.more; go_simp; first | done | rfl))
    try simp only [Act.put, List.setIfInBounds_toArray, List.set_cons_zero, List.set_cons_succ]
    (refine wpPl_read (v := ?_) rfl ?_ (fun w1 h1 => ?_) ?_; rotate_left 1; rfl; (obtain ⟨os1, d1, rfl⟩ := h1.more; go_simp; first | done | rfl))
    try simp only [Act.put, List.setIfInBounds_toArray, List.set_cons_zero, List.set_cons_succ]
    (refine wpPl_read (v := ?_) rfl ?_ (fun w1 h1 => ?_) ?_; rotate_left 1; rfl; (obtain ⟨os1, d1, rfl⟩ := h1.more; go_simp; first | done | rfl))
    try simp only [Act.put, List.setIfInBounds_toArray, List.set_cons_zero, List.set_cons_succ]
    (refine wpPl_read (v := ?_) rfl ?_ (fun w1 h1 => ?_) ?_; rotate_left 1; rfl; (obtain ⟨os1, d1, rfl⟩ := h1.more; go_simp; first | done | rfl))
    try simp only [Act.put, List.setIfInBounds_toArray, List.set_cons_zero, List.set_cons_succ]
    (refine wpPl_read (v := ?_) rfl ?_ (fun w1 h1 => ?_) ?_; rotate_left 1; rfl; (obtain ⟨os1, d1, rfl⟩ := h1.more; go_simp; first | done | rfl))
    try simp only [Act.put, List.setIfInBounds_toArray, List.set_cons_zero, List.set_cons_succ]
    (refine wpPl_read (v := ?_) rfl ?_ (fun w1 h1 => ?_) ?_; rotate_left 1; rfl; (obtain ⟨os1, d1, rfl⟩ := h1.more; go_simp; first | done | rfl))
    try simp only [Act.put, List.setIfInBounds_toArray, List.set_cons_zero, List.set_cons_succ]
    refine wpPl_nil ?_
    go_wp2_with (go_at_call 72; refine (bare_rest base _ _ _ rest _ HL.out (HR.out.ext (by repeat (first | exact Ext.refl _ | apply Ext.drew | apply Ext.alloc | apply Ext.more_))) hrb).mono ?_; rintro e w' ⟨⟨A', cap', rfl⟩, rfl⟩)
    go_loopw [8] (fun i wr => ∃ j : Nat, j ≤ n ∧ i = .int .i64 ((j : Int) - 1) ∧ Hid (hd = hd.take j ++ List.replicate (n - j) 9) ∧ Hid (Dg .u8 5 base wr (some ⟨b, off, none⟩) n (hd.take j ++ List.replicate (n - j) 0)) ∧ Kp base w wr) (fun i _ => (intOf i + 1).toNat)
    case atStart => exact ⟨n, Nat.le_refl _, rfl, by show _ = _; rw [← HN.out]; simp, by show Dg _ _ _ _ _ _ _; rw [Nat.sub_self, ← HN.out, List.take_length]; simp only [List.replicate_zero, List.append_nil]; rw [HN.out]; exact HD.out.ext (by repeat (first | exact Ext.refl _ | apply Ext.drew | apply Ext.alloc | apply Ext.more_)), (Kp.refl _ _).drew⟩
    case round =>
      obtain ⟨j, hj, rfl, HE, HW, hbel⟩ := hrel
      by_cases hj0 : j = 0
      · have e1 : ((j : Nat) : Int) - 1 = -1 := by omega
        simp only [e1]
        clear e1
        have HE0 : Hid (hd = List.replicate n 9) := by show _ = _; have := HE.out; rw [hj0] at this; simpa using this
        have HW0 : Hid (Dg .u8 5 base wr (some ⟨b, off, none⟩) n (List.replicate n 0)) := by show Dg _ _ _ _ _ _ _; have := HW.out; rw [hj0] at this; simpa using this
        clear hj0 HE HW hj
        by_cases hn0 : n = 0
        · have e0 : ((n : Int) == 0) = true := by simp [hn0]
          have e0b : (n == 0) = true := by simp [hn0]
          have HZ := Lib.hid hn0
          clear hn0
          go_wp2
          go_ret
          have hsz := hbel.size
          refine ⟨_, 1, [1], rfl, Dg.new [1] rfl rfl (by omega), AllD.cons (by omega) AllD.nil, ?_, Or.inr ⟨?_, ?_⟩, hbel.then_ext (by repeat (first | exact Ext.refl _ | apply Ext.drew | apply Ext.alloc | apply Ext.more_)) (by omega)⟩
          · rw [HE0.out, HZ.out]; rfl
          · rw [HZ.out]; rfl
          · rw [HZ.out]; rfl
        · have e0 : ((n : Int) == 0) = false := by simp [hn0]
          have e0b : (n == 0) = false := by simp [hn0]
          have hn0' : 0 < n := by omega
          obtain ⟨b', off', hA', _, hcj, hfj⟩ := HW0.out.at (i := 0) (d := 0) (by rw [List.getElem?_replicate, if_pos hn0'])
          simp only [Option.some.injEq, Addr.mk.injEq, and_true] at hA'
          obtain ⟨rfl, rfl⟩ := hA'
          rw [Nat.add_zero] at hcj hfj
          clear hn0
          obtain ⟨i0, hi, hz0, hz1, hz2⟩ := info_parts info_byte
          have HST : Hid (Dg .u8 5 base (wr.setCell ⟨b, off, none⟩ (.int .u8 1)) (some ⟨b, off, none⟩) n (1 :: List.replicate (n - 1) 0)) := by
            have := HW0.out.set (i := 0) (d := 1) (by simp; omega)
            rw [Nat.add_zero, show n = (n - 1) + 1 by omega, List.replicate_succ, List.set_cons_zero, ← show n = (n - 1) + 1 by omega] at this
            exact this
          go_wp2_with (at_builtin; refine wpList_append_grow _ rfl _ _ _ rfl 5 i0 (.int .u8 0) 1 1 Tryd.underlying50 hi hz0 hz1 hz2 rfl (by decide) ⟨b, off, none⟩ n n ((1 :: List.replicate (n - 1) 0).map fun d : Nat => Value.int .u8 (d : Int)) rfl (by simp; omega) ((HST.out.ext (by repeat (first | exact Ext.refl _ | apply Ext.drew | apply Ext.alloc | apply Ext.more_))).rd.mono (Nat.zero_le _)) _ 1 1 [.int .u8 0] rfl rfl (Rd.one_ _ _ (by simp)) (by omega) (Nat.le_refl _) (by simp [maxLen]; omega) (by omega) ?_; intro v' os d hown; obtain ⟨A', cap', rfl, hdg⟩ := over_own hn0' hown; clear hown)
          have hsz := hbel.size
          go_ret
          refine ⟨A', cap', 1 :: List.replicate n 0, ?_, hdg.mono (by simp; omega), AllD.cons (by omega) (AllD.rep _ _ (by omega)), ?_, Or.inr ⟨by simp, ?_⟩, (hbel.set (i := 0) HW0.out (ne_len (by rw [List.length_replicate]; omega)) _).then_ext (by repeat (first | exact Ext.refl _ | apply Ext.drew | apply Ext.alloc | apply Ext.more_)) (by omega)⟩
          · rw [List.length_cons, List.length_replicate]; rfl
          · rw [HE0.out, val_over]
          · rw [val_cons, val_rep0]; simp
      · obtain ⟨j, rfl⟩ : ∃ i, j = i + 1 := ⟨j - 1, by omega⟩
        obtain ⟨d, hdj⟩ : ∃ d, hd[j]? = some d := ⟨hd[j]'(by have := HN.out; omega), by rw [List.getElem?_eq_getElem]⟩
        have hd10 := HA.out.at hdj
        obtain ⟨b', off', hA', _, hcj, hfj⟩ := HW.out.at (i := j) (d := d) (by rw [List.getElem?_append_left (by have := HN.out; simp; omega), List.getElem?_take_of_lt (by omega)]; exact hdj)
        simp only [Option.some.injEq, Addr.mk.injEq, and_true] at hA'
        obtain ⟨rfl, rfl⟩ := hA'
        have e1 : ((j + 1 : Nat) : Int) - 1 = j := by omega
        simp only [e1]
        clear e1
        have hjn : j < n := by omega
        have HJ := Lib.hid hdj
        clear hdj
        by_cases h9 : d < 9
        · have e9 : decide ((d : Int) < 9) = true := by simp; omega
          go_wp2
          have hst := HW.out.set (i := j) (d := d + 1) (by have := HN.out; simp; omega)
          rw [set_at _ HJ.out] at hst
          obtain ⟨g1, g2, g3⟩ := cut_val HN.out hjn HJ.out HE.out HA.out h9
          rw [show ((d + 1 : Nat) : Int) = (d : Int) + 1 by omega] at hst
          go_ret
          refine ⟨_, n, _, ?_, hst, g1, g2, Or.inl g3, hbel.set HW.out (ne_len (by have := HN.out; rw [List.length_append, List.length_take, List.length_replicate]; omega)) _⟩
          rw [g3]; rfl
        · have e9 : decide ((d : Int) < 9) = false := by simp; omega
          go_wp2
          obtain rfl : d = 9 := by omega
          have hst := HW.out.set (i := j) (d := 0) (by have := HN.out; simp; omega)
          rw [set_at _ HJ.out] at hst
          refine ⟨⟨j, by omega, rfl, ?_, ?_, hbel.set HW.out (ne_len (by have := HN.out; rw [List.length_append, List.length_take, List.length_replicate]; omega)) _⟩, by simp [intOf]⟩
          · show _ = _
            have he := HE.out
            rw [take_at HJ.out, List.append_assoc, List.singleton_append, ← List.replicate_succ] at he
            rw [show n - j = n - (j + 1) + 1 by omega]; exact he
          · show Dg _ _ _ _ _ _ _
            rw [show n - j = n - (j + 1) + 1 by omega, List.replicate_succ]; exact hst
  · have HS := Lib.hid hr
    have hn0' : 1 ≤ n := by
      rcases Nat.eq_zero_or_pos n with h0 | h0
      · have : hd = [] := List.eq_nil_of_length_eq_zero (by rw [HN.out, h0])
        rw [this] at hq; cases hq
      · exact h0
    have e0 : decide (0 < n) = true := by simp; omega
    obtain ⟨dl, hdl, hdm⟩ := last_of HN.out hn0' hdd
    have e1 : (((dl : Int)) % 2 == 1) = true := by simp; omega
    have HD := Lib.hid hdd
    clear hdd hq hdm hr
    go_enter Tryd.func73, Tryd.ntmps73
    go_wp2
    refine wp_plan (S := Ext _) [(0, 0), (1, 0), (2, 0), (3, 0), (4, 0), (5, 0), (6, 0), (7, 0), (8, 0)] [] (by kernel_rfl) (by kernel_rfl) (by kernel_rfl) (fun _ _ d _ _ h => by cases d <;> exact h) (Ext.drew (Ext.refl _)) ?_
    (refine wpPl_read (v := ?_) rfl ?_ (fun w1 h1 => ?_) ?_; rotate_left 1; rfl; (obtain ⟨os1, d1, rfl⟩ := h1.more; go_simp; first | done | rfl))
    try simp only [Act.put, List.setIfInBounds_toArray, List.set_cons_zero, List.set_cons_succ]
    (refine wpPl_read (v := ?_) rfl ?_ (fun w1 h1 => ?_) ?_; rotate_left 1; rfl; (obtain ⟨os1, d1, rfl⟩ := h1.more; go_simp; first | done | rfl))
    try simp only [Act.put, List.setIfInBounds_toArray, List.set_cons_zero, List.set_cons_succ]
    (refine wpPl_read (v := ?_) rfl ?_ (fun w1 h1 => ?_) ?_; rotate_left 1; rfl; (obtain ⟨os1, d1, rfl⟩ := h1.more; go_simp; first | done | rfl))
    try simp only [Act.put, List.setIfInBounds_toArray, List.set_cons_zero, List.set_cons_succ]
    (refine wpPl_read (v := ?_) rfl ?_ (fun w1 h1 => ?_) ?_; rotate_left 1; rfl; (obtain ⟨os1, d1, rfl⟩ := h1.more; go_simp; first | done | rfl))
    try simp only [Act.put, List.setIfInBounds_toArray, List.set_cons_zero, List.set_cons_succ]
    (refine wpPl_read (v := ?_) rfl ?_ (fun w1 h1 => ?_) ?_; rotate_left 1; rfl; (obtain ⟨os1, d1, rfl⟩ := h1.more; go_simp; first | done | rfl))
    try simp only [Act.put, List.setIfInBounds_toArray, List.set_cons_zero, List.set_cons_succ]
    (refine wpPl_read (v := ?_) rfl ?_ (fun w1 h1 => ?_) ?_; rotate_left 1; rfl; (obtain ⟨os1, d1, rfl⟩ := h1.more; go_simp; first | done | rfl))
    try simp only [Act.put, List.setIfInBounds_toArray, List.set_cons_zero, List.set_cons_succ]
    (refine wpPl_read (v := ?_) rfl ?_ (fun w1 h1 => ?_) ?_; rotate_left 1; rfl; (obtain ⟨os1, d1, rfl⟩ := h1.more; go_simp; first | done | rfl))
    try simp only [Act.put, List.setIfInBounds_toArray, List.set_cons_zero, List.set_cons_succ]
    (refine wpPl_read (v := ?_) rfl ?_ (fun w1 h1 => ?_) ?_; rotate_left 1; rfl; (obtain ⟨os1, d1, rfl⟩ := h1.more; go_simp; first | done | rfl))
    try simp only [Act.put, List.setIfInBounds_toArray, List.set_cons_zero, List.set_cons_succ]
    (refine wpPl_read (v := ?_) rfl ?_ (fun w1 h1 => ?_) ?_; rotate_left 1; rfl; (obtain ⟨os1, d1, rfl⟩ := h1.more; go_simp; first | done | rfl))
    try simp only [Act.put, List.setIfInBounds_toArray, List.set_cons_zero, List.set_cons_succ]
    refine wpPl_nil ?_
    go_wp2_with (go_at_call 72; refine (bare_rest base _ _ _ rest _ HL.out (HR.out.ext (by repeat (first | exact Ext.refl _ | apply Ext.drew | apply Ext.alloc | apply Ext.more_))) hrb).mono ?_; rintro e w' ⟨⟨A', cap', rfl⟩, rfl⟩; rw [HS.out])
    go_loopw [8] (fun i wr => ∃ j : Nat, j ≤ n ∧ i = .int .i64 ((j : Int) - 1) ∧ Hid (hd = hd.take j ++ List.replicate (n - j) 9) ∧ Hid (Dg .u8 5 base wr (some ⟨b, off, none⟩) n (hd.take j ++ List.replicate (n - j) 0)) ∧ Kp base w wr) (fun i _ => (intOf i + 1).toNat)
    case atStart => exact ⟨n, Nat.le_refl _, rfl, by show _ = _; rw [← HN.out]; simp, by show Dg _ _ _ _ _ _ _; rw [Nat.sub_self, ← HN.out, List.take_length]; simp only [List.replicate_zero, List.append_nil]; rw [HN.out]; exact HD.out.ext (by repeat (first | exact Ext.refl _ | apply Ext.drew | apply Ext.alloc | apply Ext.more_)), (Kp.refl _ _).drew⟩
    case round =>
      obtain ⟨j, hj, rfl, HE, HW, hbel⟩ := hrel
      by_cases hj0 : j = 0
      · have e1 : ((j : Nat) : Int) - 1 = -1 := by omega
        simp only [e1]
        clear e1
        have HE0 : Hid (hd = List.replicate n 9) := by show _ = _; have := HE.out; rw [hj0] at this; simpa using this
        have HW0 : Hid (Dg .u8 5 base wr (some ⟨b, off, none⟩) n (List.replicate n 0)) := by show Dg _ _ _ _ _ _ _; have := HW.out; rw [hj0] at this; simpa using this
        clear hj0 HE HW hj
        by_cases hn0 : n = 0
        · have e0 : ((n : Int) == 0) = true := by simp [hn0]
          have e0b : (n == 0) = true := by simp [hn0]
          have HZ := Lib.hid hn0
          clear hn0
          go_wp2
          go_ret
          have hsz := hbel.size
          refine ⟨_, 1, [1], rfl, Dg.new [1] rfl rfl (by omega), AllD.cons (by omega) AllD.nil, ?_, Or.inr ⟨?_, ?_⟩, hbel.then_ext (by repeat (first | exact Ext.refl _ | apply Ext.drew | apply Ext.alloc | apply Ext.more_)) (by omega)⟩
          · rw [HE0.out, HZ.out]; rfl
          · rw [HZ.out]; rfl
          · rw [HZ.out]; rfl
        · have e0 : ((n : Int) == 0) = false := by simp [hn0]
          have e0b : (n == 0) = false := by simp [hn0]
          have hn0' : 0 < n := by omega
          obtain ⟨b', off', hA', _, hcj, hfj⟩ := HW0.out.at (i := 0) (d := 0) (by rw [List.getElem?_replicate, if_pos hn0'])
          simp only [Option.some.injEq, Addr.mk.injEq, and_true] at hA'
          obtain ⟨rfl, rfl⟩ := hA'
          rw [Nat.add_zero] at hcj hfj
          clear hn0
          obtain ⟨i0, hi, hz0, hz1, hz2⟩ := info_parts info_byte
          have HST : Hid (Dg .u8 5 base (wr.setCell ⟨b, off, none⟩ (.int .u8 1)) (some ⟨b, off, none⟩) n (1 :: List.replicate (n - 1) 0)) := by
            have := HW0.out.set (i := 0) (d := 1) (by simp; omega)
            rw [Nat.add_zero, show n = (n - 1) + 1 by omega, List.replicate_succ, List.set_cons_zero, ← show n = (n - 1) + 1 by omega] at this
            exact this
          go_wp2_with (at_builtin; refine wpList_append_grow _ rfl _ _ _ rfl 5 i0 (.int .u8 0) 1 1 Tryd.underlying50 hi hz0 hz1 hz2 rfl (by decide) ⟨b, off, none⟩ n n ((1 :: List.replicate (n - 1) 0).map fun d : Nat => Value.int .u8 (d : Int)) rfl (by simp; omega) ((HST.out.ext (by repeat (first | exact Ext.refl _ | apply Ext.drew | apply Ext.alloc | apply Ext.more_))).rd.mono (Nat.zero_le _)) _ 1 1 [.int .u8 0] rfl rfl (Rd.one_ _ _ (by simp)) (by omega) (Nat.le_refl _) (by simp [maxLen]; omega) (by omega) ?_; intro v' os d hown; obtain ⟨A', cap', rfl, hdg⟩ := over_own hn0' hown; clear hown)
          have hsz := hbel.size
          go_ret
          refine ⟨A', cap', 1 :: List.replicate n 0, ?_, hdg.mono (by simp; omega), AllD.cons (by omega) (AllD.rep _ _ (by omega)), ?_, Or.inr ⟨by simp, ?_⟩, (hbel.set (i := 0) HW0.out (ne_len (by rw [List.length_replicate]; omega)) _).then_ext (by repeat (first | exact Ext.refl _ | apply Ext.drew | apply Ext.alloc | apply Ext.more_)) (by omega)⟩
          · rw [List.length_cons, List.length_replicate]; rfl
          · rw [HE0.out, val_over]
          · rw [val_cons, val_rep0]; simp
      · obtain ⟨j, rfl⟩ : ∃ i, j = i + 1 := ⟨j - 1, by omega⟩
        obtain ⟨d, hdj⟩ : ∃ d, hd[j]? = some d := ⟨hd[j]'(by have := HN.out; omega), by rw [List.getElem?_eq_getElem]⟩
        have hd10 := HA.out.at hdj
        obtain ⟨b', off', hA', _, hcj, hfj⟩ := HW.out.at (i := j) (d := d) (by rw [List.getElem?_append_left (by have := HN.out; simp; omega), List.getElem?_take_of_lt (by omega)]; exact hdj)
        simp only [Option.some.injEq, Addr.mk.injEq, and_true] at hA'
        obtain ⟨rfl, rfl⟩ := hA'
        have e1 : ((j + 1 : Nat) : Int) - 1 = j := by omega
        simp only [e1]
        clear e1
        have hjn : j < n := by omega
        have HJ := Lib.hid hdj
        clear hdj
        by_cases h9 : d < 9
        · have e9 : decide ((d : Int) < 9) = true := by simp; omega
          go_wp2
          have hst := HW.out.set (i := j) (d := d + 1) (by have := HN.out; simp; omega)
          rw [set_at _ HJ.out] at hst
          obtain ⟨g1, g2, g3⟩ := cut_val HN.out hjn HJ.out HE.out HA.out h9
          rw [show ((d + 1 : Nat) : Int) = (d : Int) + 1 by omega] at hst
          go_ret
          refine ⟨_, n, _, ?_, hst, g1, g2, Or.inl g3, hbel.set HW.out (ne_len (by have := HN.out; rw [List.length_append, List.length_take, List.length_replicate]; omega)) _⟩
          rw [g3]; rfl
        · have e9 : decide ((d : Int) < 9) = false := by simp; omega
          go_wp2
          obtain rfl : d = 9 := by omega
          have hst := HW.out.set (i := j) (d := 0) (by have := HN.out; simp; omega)
          rw [set_at _ HJ.out] at hst
          refine ⟨⟨j, by omega, rfl, ?_, ?_, hbel.set HW.out (ne_len (by have := HN.out; rw [List.length_append, List.length_take, List.length_replicate]; omega)) _⟩, by simp [intOf]⟩
          · show _ = _
            have he := HE.out
            rw [take_at HJ.out, List.append_assoc, List.singleton_append, ← List.replicate_succ] at he
            rw [show n - j = n - (j + 1) + 1 by omega]; exact he
          · show Dg _ _ _ _ _ _ _
            rw [show n - j = n - (j + 1) + 1 by omega, List.replicate_succ]; exact hst

/-- What a cut hands back. -/
def CutOut (base : Nat) (w : World) (n : Nat) (l : List Nat) (e : Ending) (w' : World) : Prop :=
  ∃ A' cap' r, e = .returned (.slice A' r.length cap') ∧ Dg .u8 5 base w' A' cap' r ∧ AllD r ∧ val r = cutN (val l) (l.length - n) false ∧ (r.length = n ∨ r.length = n + 1 ∧ val r = T n) ∧ Kp base w w'
theorem cut_any (base cap n len : Nat) (A : Option Addr) (l : List Nat) (w : World) (h : Dg .u8 5 base w A cap l) (hlen : l.length = len) (hn : n < len) (hbig : len ≤ 1000000) (hall : AllD l) :
    Calls Tryd.prog 73 #[.slice A len cap, .int .i64 (n : Int)] w (CutOut base w n l) := by
  obtain ⟨r0, hr0⟩ : ∃ r0, l[n]? = some r0 := ⟨l[n]'(by omega), by rw [List.getElem?_eq_getElem]⟩
  have hnl : n < l.length := by omega
  have hdrop : l.drop n = r0 :: l.drop (n + 1) := by
    rw [List.drop_eq_getElem_cons hnl]
    rw [List.getElem?_eq_getElem hnl] at hr0
    rw [Option.some.inj hr0]
  obtain ⟨b, off, rfl, hb, _, _⟩ := h.at hr0
  have hin : CutIn base w b off cap n len (l.take n) r0 (l.drop (n + 1)) := ⟨by rw [← hdrop, List.take_append_drop]; exact h, by simp; omega, by simp; omega, hbig⟩
  have hv := cut_up hall n r0 (l.drop (n + 1)) false hdrop
  have hbw := hin.facts.2.2.2.2.2.2.2.2.1
  have hrest := hall.drop (n + 1)
  have htk := hall.take n
  have hdd := hin.head n (Nat.le_refl _)
  have stay : upB (val (l.take n)) r0 (l.drop (n + 1)) false = false → ∀ e w', (e = .returned (.slice (some ⟨b, off, none⟩) n n) ∧ Ext w w') → CutOut base w n l e w' := fun hu e w' ⟨he, hx⟩ => by
    rw [hu] at hv
    have hl : (l.take n).length = n := by simp; omega
    refine ⟨some ⟨b, off, none⟩, n, l.take n, by rw [hl]; exact he, hdd.ext hx, htk, by rw [hv]; rfl, Or.inl hl, Kp.of_ext hx (by omega)⟩
  have go : upB (val (l.take n)) r0 (l.drop (n + 1)) false = true → UpIs r0 (l.take n) (l.drop (n + 1)) → Calls Tryd.prog 73 #[.slice (some ⟨b, off, none⟩) len cap, .int .i64 (n : Int)] w (CutOut base w n l) := fun hu hup =>
    (cut_more base b off cap n len r0 _ _ w hin hup htk).mono fun e w' ⟨A', cap', r, h1, h2, h3, h4, h5, h6⟩ => by
      rw [hu] at hv
      exact ⟨A', cap', r, h1, h2, h3, by rw [hv, h4]; rfl, h5, h6⟩
  by_cases h1 : r0 < 5
  · exact (cut_less base b off cap n len r0 _ _ w hin h1).mono (stay (by unfold upB; simp; omega))
  · by_cases h2 : 5 < r0
    · exact go (by unfold upB; simp [h2]) (Or.inl h2)
    · obtain rfl : r0 = 5 := by omega
      by_cases h3 : val (l.drop (n + 1)) = 0
      · have hs := strip_of_zero hrest h3
        by_cases h4 : val (l.take n) % 2 = 0
        · exact (cut_tie base b off cap n len _ _ w hin hs h4).mono (stay (by unfold upB; simp [h3, h4]))
        · exact go (by unfold upB; simp [h3]; omega) (Or.inr (Or.inr ⟨rfl, by rw [hs]; rfl, by omega⟩))
      · exact go (by unfold upB; simp [h3]) (Or.inr (Or.inl ⟨rfl, strip_ne h3⟩))
end Go.Proofs.YtihfiegopnjeiaaDoor
