/- counterpaneref01.run, power. -/
import Derived.Test.YtihfiegopnjeiaaDoorParse
namespace Go.Proofs.YtihfiegopnjeiaaDoor
set_option linter.unusedSimpArgs false
set_option linter.unusedVariables false
open Go.RowKit NM

theorem tw_lt : ∀ (l : List Nat) {j c : Nat}, j < (l.takeWhile isD).length → l[j]? = some c → isD c = true
  | [], j, c, h, _ => by simp at h
  | d :: l, j, c, h, hc => by
    rw [List.takeWhile_cons] at h
    by_cases hd : isD d = true
    · rw [if_pos hd, List.length_cons] at h
      cases j with
      | zero => rw [List.getElem?_cons_zero] at hc; cases hc; exact hd
      | succ j => rw [List.getElem?_cons_succ] at hc; exact tw_lt l (by omega) hc
    · rw [if_neg hd] at h; simp at h
theorem tw_eq : ∀ (l : List Nat) {c : Nat}, l[(l.takeWhile isD).length]? = some c → isD c = false
  | [], c, h => by simp at h
  | d :: l, c, h => by
    rw [List.takeWhile_cons] at h
    by_cases hd : isD d = true
    · rw [if_pos hd, List.length_cons, List.getElem?_cons_succ] at h
      exact tw_eq l h
    · rw [if_neg hd, List.length_nil, List.getElem?_cons_zero] at h
      cases h
      simpa using hd
theorem tw_le (l : List Nat) : (l.takeWhile isD).length ≤ l.length := (List.takeWhile_sublist _).length_le
theorem isD_yes {c : Nat} (h : isD c = true) : 48 ≤ c ∧ c ≤ 57 := of_decide_eq_true h
theorem isD_no {c : Nat} (h : isD c = false) : c < 48 ∨ 57 < c := by
  have := of_decide_eq_false h; omega
set_option maxRecDepth 100000 in
set_option maxHeartbeats 1000000 in
theorem run_any (s : ByteArray) (i : Nat) (w : World) (hs : s.size ≤ 1000) (hi : i ≤ s.size) :
    Calls Tryd.prog 54 #[.string s, .int .i64 (i : Int)] w fun r w' => r = .returned (.int .i64 ((((bl s).drop i).takeWhile isD).length : Int)) ∧ w' = w := by
  generalize hL : (((bl s).drop i).takeWhile isD).length = L
  have HL := Lib.hid hL
  have hLs : i + L ≤ s.size := by
    have h1 := tw_le ((bl s).drop i)
    rw [hL, List.length_drop, bl_length] at h1
    omega
  clear hL
  go_enter Tryd.func54, Tryd.ntmps54
  go_wp2_with fail
  go_loop [5] (fun v => ∃ j : Nat, v = .int .i64 (j : Int) ∧ j ≤ L) (fun v => L - (intOf v).toNat)
  case atStart => exact ⟨0, rfl, Nat.zero_le _⟩
  case round =>
    obtain ⟨j, rfl, hj⟩ := hrel
    by_cases hjs : i + j < s.size
    · have hb := bl_at s (i + j) hjs
      have hb' : ((bl s).drop i)[j]? = some (s[i + j]'hjs).toNat := by rw [List.getElem?_drop]; exact hb
      clear hb
      by_cases hjL : j < L
      · obtain ⟨g1, g2⟩ := isD_yes (tw_lt _ (by rw [HL.out]; exact hjL) hb')
        have g1' : (48 : Int) ≤ ((s[i + j]'hjs).toNat : Int) := by omega
        have g2' : ((s[i + j]'hjs).toNat : Int) ≤ 57 := by omega
        clear hb' g1 g2
        go_wp2_with fail
        exact ⟨⟨j + 1, by go_num, by omega⟩, by simp [intOf]; omega⟩
      · have hjL' : Hid (j = L) := by show j = L; omega
        have hd := isD_no (tw_eq ((bl s).drop i) (by rw [HL.out, ← hjL'.out]; exact hb'))
        rcases hd with hd | hd
        · have g1 : ¬ (48 : Int) ≤ ((s[i + j]'hjs).toNat : Int) := by omega
          clear hb' hd
          go_wp2_with fail
          exact bodyPost_ret (v := .int .i64 (j : Int)) (by simp [results, Tryd.results54, go_sem]; done) rfl ⟨by rw [hjL'.out], rfl⟩
        · have g1 : (48 : Int) ≤ ((s[i + j]'hjs).toNat : Int) := by omega
          have g2 : ¬ ((s[i + j]'hjs).toNat : Int) ≤ 57 := by omega
          clear hb' hd
          go_wp2_with fail
          exact bodyPost_ret (v := .int .i64 (j : Int)) (by simp [results, Tryd.results54, go_sem]; done) rfl ⟨by rw [hjL'.out], rfl⟩
    · have hjL' : Hid (j = L) := by
        show j = L
        have h1 := tw_le ((bl s).drop i)
        rw [HL.out, List.length_drop, bl_length] at h1
        omega
      have hjs' : ¬ ((i : Int) + (j : Int) < (s.size : Int)) := by omega
      go_wp2_with fail
      exact bodyPost_ret (v := .int .i64 (j : Int)) (by simp [results, Tryd.results54, go_sem]; done) rfl ⟨by rw [hjL'.out], rfl⟩
end Go.Proofs.YtihfiegopnjeiaaDoor
