/- counterpaneref01.power. -/
import Derived.Test.YtihfiegopnjeiaaDoorRRun
namespace Go.Proofs.YtihfiegopnjeiaaDoor
set_option linter.unusedSimpArgs false
set_option linter.unusedVariables false
open Go.RowKit NM

def oV (r : Option Int) : Value := .tuple #[.int .i64 (r.getD 0), .bool r.isSome]
/-- Digits to the end, or not. -/
theorem run_end (l : List Nat) : (l = [] ∨ ¬ (∀ c ∈ l, isD c = true)) ↔ ((l.takeWhile isD).length = 0 ∨ (l.takeWhile isD).length ≠ l.length) := by
  constructor
  · rintro (rfl | h)
    · exact Or.inl rfl
    · refine Or.inr fun he => h ?_
      have h1 : l.takeWhile isD = l := (List.takeWhile_prefix isD).eq_of_length he
      intro c hc
      rw [← h1] at hc
      exact take_d l c hc
  · intro h
    by_cases h0 : l = []
    · exact Or.inl h0
    · refine Or.inr fun hall => ?_
      have h1 : (l.takeWhile isD).length = l.length := by
        have h2 := tw_le l
        by_cases h3 : (l.takeWhile isD).length < l.length
        · have h4 := tw_eq l (List.getElem?_eq_getElem h3)
          rw [hall _ (List.getElem_mem h3)] at h4
          cases h4
        · omega
      rcases h with h | h
      · exact h0 (List.length_eq_zero_iff.1 (by omega))
      · exact h h1
abbrev stepN (n c : Nat) : Nat := min 1000 (10 * n + (c - 48))
theorem fold_bd (l : List Nat) : ∀ n, n ≤ 1000 → l.foldl (fun n c => min 1000 (10 * n + (c - 48))) n ≤ 1000 := by
  induction l with
  | nil => intro n h; exact h
  | cons c l ih => intro n h; exact ih _ (by show min 1000 (10 * n + (c - 48)) ≤ 1000; omega)
theorem powR_tail (c : Nat) (t u : List Nat) (ng : Bool) (hc : c = 101 ∨ c = 69) (h : (t.head? = some 43 ∨ t.head? = some 45) ∧ u = t.tail ∧ ng = decide (t.head? = some 45) ∨ ¬ (t.head? = some 43 ∨ t.head? = some 45) ∧ u = t ∧ ng = false) :
    powR (c :: t) = if (u.takeWhile isD).length = 0 ∨ (u.takeWhile isD).length ≠ u.length then none else some (if ng then -((u.foldl (fun n c => min 1000 (10 * n + (c - 48))) 0 : Nat) : Int) else (u.foldl (fun n c => min 1000 (10 * n + (c - 48))) 0 : Nat)) := by
  rw [powR_cons]
  unfold powC
  rw [if_neg (by omega)]
  simp only
  rcases h with ⟨h1, rfl, rfl⟩ | ⟨h1, rfl, rfl⟩
  · rw [if_pos h1]
    rw [ite_iff _ _ (run_end t.tail)]
    congr 2
    by_cases h45 : t.head? = some 45 <;> simp [h45]
  · rw [if_neg h1, ite_iff _ _ (run_end u)]
    congr 2
    rw [if_neg (fun h => h1 (Or.inr h))]
    simp
set_option maxRecDepth 100000 in
set_option maxHeartbeats 1000000 in
theorem rpower_any (s : ByteArray) (w : World) (hs : s.size ≤ 1000) :
    Calls Tryd.prog 55 #[.string s] w fun r w' => r = .returned (oV (powR (bl s))) ∧ w' = w := by
  by_cases h0 : s.size = 0
  · have : s = ⟨#[]⟩ := by
      cases s with | mk d => cases d with | mk l => cases l with
        | nil => rfl
        | cons a l => simp [ByteArray.size] at h0
    subst this
    go_enter Tryd.func55, Tryd.ntmps55
    go_wp2_with fail
    exact bodyPost_ret (v := .tuple #[.int .i64 0, .bool true]) (by simp [results, Tryd.results55, go_sem]; done) rfl ⟨rfl, rfl⟩
  · have h0' : 0 < s.size := by omega
    have hne : s.toList.isEmpty = false := by
      rw [ByteArray.toList_eq]
      cases h : s.data.toList with
      | nil => have h1 : s.data.toList.length = s.size := rfl
               rw [h] at h1; simp at h1; omega
      | cons a l => rfl
    have hb := bl_at s 0 h0'
    obtain ⟨c, t, hct⟩ : ∃ c t, bl s = c :: t := by
      cases h : bl s with
      | nil => have := bl_length s; rw [h] at this; simp at this; omega
      | cons c t => exact ⟨c, t, rfl⟩
    have hc0 : (s[0]'h0').toNat = c := by rw [hct] at hb; simpa using hb.symm
    have hdr : (bl s).drop 1 = t := by rw [hct]; rfl
    by_cases hce : c = 101 ∨ c = 69
    · generalize hR : powR (bl s) = R
      have HR := Lib.hid hR
      clear hR
      have HE : Hid (((s[0]'h0').toNat : Int) = 101 ∨ (((s[0]'h0').toNat : Int) != 101) = true ∧ (((s[0]'h0').toNat : Int) != 69) = false) := by
        rcases hce with h | h
        · exact Or.inl (by omega)
        · exact Or.inr ⟨by simp; omega, by simp; omega⟩
      have HT : Hid (∀ (u : List Nat) (ng : Bool), (t.head? = some 43 ∨ t.head? = some 45) ∧ u = t.tail ∧ ng = decide (t.head? = some 45) ∨ ¬ (t.head? = some 43 ∨ t.head? = some 45) ∧ u = t ∧ ng = false → R = if (u.takeWhile isD).length = 0 ∨ (u.takeWhile isD).length ≠ u.length then none else some (if ng then -((u.foldl (fun n c => min 1000 (10 * n + (c - 48))) 0 : Nat) : Int) else (u.foldl (fun n c => min 1000 (10 * n + (c - 48))) 0 : Nat))) := by
        intro u ng h
        rw [← HR.out, hct]
        exact powR_tail c t u ng hce h
      have hc1 : ∀ h : 1 < s.size, t.head? = some (s[1]'h).toNat := by
        intro h
        have := bl_at s 1 h
        rw [hct] at this
        rw [List.head?_eq_getElem?]
        simpa using this
      have hc2 : s.size ≤ 1 → t = [] := by
        intro h
        have := bl_length s
        rw [hct] at this
        simp at this
        exact List.length_eq_zero_iff.1 (by omega)
      have hd2 : (bl s).drop 2 = t.tail := by rw [hct]; cases t <;> rfl
      have HC1 := Lib.hid hc1
      have HC2 := Lib.hid hc2
      have HD1 := Lib.hid hdr
      have HD2 := Lib.hid hd2
      clear hct hb hc0 hdr hc1 hc2 hd2 hce HR
      go_enter Tryd.func55, Tryd.ntmps55
      go_upto_region 3 with fail
      go_cut [18] (fun s18 wx => s18 = .bool false ∧ wx = w)
      case first =>
        rcases HE.out with h | ⟨h, h'⟩
        · have e1 : (((s[0]'h0').toNat : Int) != 101) = false := by simp [h]
          clear h
          go_wp2_with fail
          go_meet
          exact ⟨rfl, rfl⟩
        · go_wp2_with fail
          go_meet
          exact ⟨rfl, rfl⟩
      case rest =>
      obtain ⟨rfl, hwc⟩ := hcut
      rw [hwc]
      clear hwc wc
      go_upto_region 7 with fail
      obtain ⟨B, hB⟩ : ∃ B, B = decide (t.head? = some 43 ∨ t.head? = some 45) := ⟨_, rfl⟩
      have HB := Lib.hid hB
      clear hB
      go_cut [31] (fun s31 wx => s31 = .bool B ∧ wx = w)
      case first =>
        by_cases h1 : 1 < s.size
        · have hh := HC1.out h1
          by_cases h43 : ((s[1]'h1).toNat : Int) = 43
          · have hBt : B = true := by rw [HB.out, hh]; exact decide_eq_true (Or.inl (by congr 1; omega))
            subst hBt
            have e1 : (((s[1]'h1).toNat : Int) == 43) = true := by simp [h43]
            clear hh h43
            go_wp2_with fail
            go_meet
            exact ⟨rfl, rfl⟩
          · have e1 : (((s[1]'h1).toNat : Int) == 43) = false := by simpa using h43
            by_cases h45 : ((s[1]'h1).toNat : Int) = 45
            · have hBt : B = true := by rw [HB.out, hh]; exact decide_eq_true (Or.inr (by congr 1; omega))
              subst hBt
              have e2 : (((s[1]'h1).toNat : Int) == 45) = true := by simp [h45]
              clear hh h43 h45
              go_wp2_with fail
              go_meet
              exact ⟨rfl, rfl⟩
            · have hBt : B = false := by rw [HB.out, hh]; exact decide_eq_false (by simp; omega)
              subst hBt
              have e2 : (((s[1]'h1).toNat : Int) == 45) = false := by simpa using h45
              clear hh h43 h45
              go_wp2_with fail
              go_meet
              exact ⟨rfl, rfl⟩
        · have hBt : B = false := by rw [HB.out, HC2.out (by omega)]; rfl
          subst hBt
          go_wp2_with fail
          go_meet
          exact ⟨rfl, rfl⟩
      case rest =>
      obtain ⟨rfl, hwc⟩ := hcut
      rw [hwc]
      clear hwc wc
      go_upto_if 31 with fail
      go_cut [4, 5] (fun s4 s5 wx => ∃ (i : Nat) (ng : Bool), s4 = .int .i64 (i : Int) ∧ s5 = .bool ng ∧ wx = w ∧ i ≤ s.size ∧ Hid (R = if (((bl s).drop i).takeWhile isD).length = 0 ∨ (((bl s).drop i).takeWhile isD).length ≠ ((bl s).drop i).length then none else some (if ng then -((((bl s).drop i).foldl (fun n c => min 1000 (10 * n + (c - 48))) 0 : Nat) : Int) else (((bl s).drop i).foldl (fun n c => min 1000 (10 * n + (c - 48))) 0 : Nat))))
      case first =>
        cases B with
        | true =>
          have h1 : 1 < s.size := by
            have h2 := of_decide_eq_true HB.out.symm
            by_cases h1 : 1 < s.size
            · exact h1
            · rw [HC2.out (by omega)] at h2; simp at h2
          have hh := HC1.out h1
          go_wp2_with fail
          go_meet
          refine ⟨2, _, rfl, rfl, rfl, by omega, ?_⟩
          have h2 := of_decide_eq_true HB.out.symm
          rw [HD2.out]
          refine HT.out t.tail _ (Or.inl ⟨h2, rfl, ?_⟩)
          rw [hh]
          by_cases h45 : (s[1]'h1).toNat = 45 <;> simp [h45] <;> omega
        | false =>
          have h2 := of_decide_eq_false HB.out.symm
          have HH := Lib.hid h2
          clear h2
          go_wp2_with fail
          go_meet
          refine ⟨1, _, rfl, rfl, rfl, by omega, ?_⟩
          rw [HD1.out]
          exact HT.out t _ (Or.inr ⟨HH.out, rfl, rfl⟩)
      case rest =>
      obtain ⟨i, ng, rfl, rfl, hwc, hi, HRI⟩ := hcut
      rw [hwc]
      clear hwc wc HT HC1 HC2 HD1 HD2 HB HE
      have hrun := run_any s i w hs hi
      have hDl : ((bl s).drop i).length = s.size - i := by rw [List.length_drop, bl_length]
      have HAT : Hid (∀ (m : Nat) (h : i + m < s.size), ((bl s).drop i)[m]? = some (s[i + m]'h).toNat) := fun m h => by rw [List.getElem?_drop]; exact bl_at s (i + m) h
      generalize (bl s).drop i = D at *
      have HTW : Hid (∀ m c, m < (D.takeWhile isD).length → D[m]? = some c → isD c = true) := fun m c h1 h2 => tw_lt D h1 h2
      have hLle := tw_le D
      generalize (D.takeWhile isD).length = L at *
      by_cases hbad : L = 0 ∨ L ≠ D.length
      · have hRn : R = none := by rw [HRI.out]; exact if_pos hbad
        subst hRn
        by_cases hL0 : L = 0
        · have e1 : ((L : Int) == 0) = true := by simp [hL0]
          clear hL0 hbad
          go_wp2_with (go_at_call 54; (with_reducible refine hrun.mono ?_); rintro e w' ⟨rfl, rfl⟩)
          exact bodyPost_ret (v := .tuple #[.int .i64 0, .bool false]) (by simp [results, Tryd.results55, go_sem]; done) rfl ⟨rfl, rfl⟩
        · have e1 : ((L : Int) == 0) = false := by simp [hL0]
          have e2 : ((i : Int) + (L : Int) != (s.size : Int)) = true := by simp; omega
          clear hL0 hbad
          go_wp2_with (go_at_call 54; (with_reducible refine hrun.mono ?_); rintro e w' ⟨rfl, rfl⟩)
          exact bodyPost_ret (v := .tuple #[.int .i64 0, .bool false]) (by simp [results, Tryd.results55, go_sem]; done) rfl ⟨rfl, rfl⟩
      · have hRn : R = some (if ng then -((D.foldl (fun n c => min 1000 (10 * n + (c - 48))) 0 : Nat) : Int) else (D.foldl (fun n c => min 1000 (10 * n + (c - 48))) 0 : Nat)) := by rw [HRI.out]; exact if_neg hbad
        have e1 : ((L : Int) == 0) = false := by simp; omega
        have e2 : ((i : Int) + (L : Int) != (s.size : Int)) = false := by simp; omega
        have HRN := Lib.hid hRn
        have hLs : Hid (L = D.length ∧ i + L = s.size) := by show L = D.length ∧ i + L = s.size; omega
        have hLb : L ≤ 1000 := by omega
        clear hRn hbad hDl HRI
        go_wp2_with (go_at_call 54; (with_reducible refine hrun.mono ?_); rintro e w' ⟨rfl, rfl⟩)
        go_loop [7, 8] (fun v7 v8 => ∃ m : Nat, i + m ≤ s.size ∧ v8 = .int .i64 ((i + m : Nat) : Int) ∧ v7 = .int .i64 (((D.take m).foldl (fun n c => min 1000 (10 * n + (c - 48))) 0 : Nat) : Int)) (fun _ v8 => s.size - (intOf v8).toNat)
        case atStart => exact ⟨0, by omega, rfl, rfl⟩
        case round =>
          obtain ⟨m, hm, rfl, rfl⟩ := hrel
          have hn := fold_bd (D.take m) 0 (by omega)
          by_cases hms : i + m < s.size
          · have hb := HAT.out m hms
            obtain ⟨g1, g2⟩ := isD_yes (HTW.out m _ (by have := hLs.out.2; omega) hb)
            have HF : Hid ((D.take (m + 1)).foldl (fun n c => min 1000 (10 * n + (c - 48))) 0 = min 1000 (10 * (D.take m).foldl (fun n c => min 1000 (10 * n + (c - 48))) 0 + ((s[i + m]'hms).toNat - 48))) := by
              show List.foldl _ _ _ = _
              rw [take_at hb, List.foldl_append]; rfl
            generalize (D.take m).foldl (fun n c => min 1000 (10 * n + (c - 48))) 0 = n at *
            clear hb
            by_cases hbig : 1000 < 10 * n + ((s[i + m]'hms).toNat - 48)
            · have hbig' : (1000 : Int) < 10 * (n : Int) + ((s[i + m]'hms).toNat : Int) - 48 := by omega
              go_wp2_with fail
              refine ⟨⟨m + 1, by omega, by go_num, ?_⟩, by simp [intOf]; omega⟩
              rw [HF.out, Nat.min_eq_left (by omega)]; rfl
            · have hbig' : ¬ (1000 : Int) < 10 * (n : Int) + ((s[i + m]'hms).toNat : Int) - 48 := by omega
              go_wp2_with fail
              refine ⟨⟨m + 1, by omega, by go_num, ?_⟩, by simp [intOf]; omega⟩
              rw [HF.out, Nat.min_eq_right (by omega)]
              congr 1; omega
          · have HM : Hid (D.take m = D) := by
              show D.take m = D
              apply List.take_of_length_le
              have := hLs.out
              omega
            have HR2 : Hid (R = some (if ng then -(((D.take m).foldl (fun n c => min 1000 (10 * n + (c - 48))) 0 : Nat) : Int) else ((D.take m).foldl (fun n c => min 1000 (10 * n + (c - 48))) 0 : Nat))) := by
              show R = _
              rw [HM.out]; exact HRN.out
            clear HRN
            generalize (D.take m).foldl (fun n c => min 1000 (10 * n + (c - 48))) 0 = n at *
            have hms' : ¬ ((i : Int) + (m : Int) < (s.size : Int)) := by omega
            cases ng with
            | true =>
              go_wp2_with fail
              exact bodyPost_ret (v := .tuple #[.int .i64 (-(n : Int)), .bool true]) (by simp [results, Tryd.results55, go_sem]; done) rfl ⟨by rw [HR2.out]; rfl, rfl⟩
            | false =>
              go_wp2_with fail
              exact bodyPost_ret (v := .tuple #[.int .i64 (n : Int), .bool true]) (by simp [results, Tryd.results55, go_sem]; done) rfl ⟨by rw [HR2.out]; rfl, rfl⟩
    · have hR : powR (bl s) = none := by rw [hct, powR_cons]; unfold powC; rw [if_pos (by omega)]
      rw [hR]
      have e1 : (((s[0]'h0').toNat : Int) != 101) = true := by simp; omega
      have e2 : (((s[0]'h0').toNat : Int) != 69) = true := by simp; omega
      clear hR hct hb hc0 hdr
      go_enter Tryd.func55, Tryd.ntmps55
      go_wp2_with fail
      exact bodyPost_ret (v := .tuple #[.int .i64 0, .bool false]) (by simp [results, Tryd.results55, go_sem]; done) rfl ⟨rfl, rfl⟩
end Go.Proofs.YtihfiegopnjeiaaDoor
