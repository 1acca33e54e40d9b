/- counterpaneref01.Text. -/
import Derived.Test.YtihfiegopnjeiaaDoorNMakes
import Derived.Test.YtihfiegopnjeiaaDoorText
import Derived.Test.YtihfiegopnjeiaaDoorRMake
namespace Go.Proofs.YtihfiegopnjeiaaDoor
set_option linter.unusedSimpArgs false
set_option linter.unusedVariables false
open Go.RowKit NM

def tl (t : ByteArray) : List UInt8 := t.data.toList
theorem tl_append (a b : ByteArray) : tl (a ++ b) = tl a ++ tl b := by unfold tl; simp
theorem tl_size (a : ByteArray) : (tl a).length = a.size := rfl
theorem tl_eq {a : ByteArray} {l : List UInt8} (h : tl a = l) : a = ⟨l.toArray⟩ := bytes_eq h
theorem tl_extract (s : ByteArray) (i j : Nat) (hj : j ≤ s.size) : tl (s.extract i j) = ((tl s).take j).drop i := by
  unfold tl
  rw [ByteArray.data_extract, Array.toList_extract, List.extract_eq_take_drop, List.drop_take]
theorem digit_at {d : Nat} (h : d < 10) : tl ((⟨#[48, 49, 50, 51, 52, 53, 54, 55, 56, 57]⟩ : ByteArray).extract d (d + 1)) = [UInt8.ofNat (48 + d)] := by
  rw [tl_extract _ _ _ (by show d + 1 ≤ 10; omega)]
  match d, h with
  | 0, _ => rfl
  | 1, _ => rfl
  | 2, _ => rfl
  | 3, _ => rfl
  | 4, _ => rfl
  | 5, _ => rfl
  | 6, _ => rfl
  | 7, _ => rfl
  | 8, _ => rfl
  | 9, _ => rfl
theorem text_neg {m ex : Int} {n k E c5 : Nat} (hn : (Lib.decDigits m.natAbs).length = n) (hex : ex = -(E : Int)) (hE : 0 < E) (hk : n + k ≤ max n (E + 1)) (hc : ¬ n + k ≤ E) (h5 : n + k = E + c5) :
    (if m < 0 then [45] else []) ++ ((List.replicate k 48 ++ Lib.decDigits m.natAbs).take c5 ++ 46 :: (List.replicate k 48 ++ Lib.decDigits m.natAbs).drop c5) = textL m ex := by
  unfold textL
  congr 1
  rw [if_neg (show ¬ 0 ≤ ex by omega), hn]
  by_cases hnE : E < n
  · obtain rfl : k = 0 := by omega
    rw [if_pos (by omega), List.replicate_zero, List.nil_append]
    have : ((n : Int) + ex).toNat = c5 := by omega
    rw [this]
  · rw [if_neg (by omega)]
    obtain ⟨k', rfl⟩ : ∃ k', k = k' + 1 := ⟨k - 1, by omega⟩
    have h1 : c5 = 1 := by omega
    have h2 : (-((n : Int) + ex)).toNat = k' := by omega
    rw [h1, h2, List.replicate_succ]
    rfl
theorem text_pos {m ex : Int} {j : Nat} (hex : 0 ≤ ex) (hj : j = ex.toNat) : (if m < 0 then [45] else []) ++ (Lib.decDigits m.natAbs ++ List.replicate j 48) = textL m ex := by
  unfold textL
  rw [if_pos hex, hj]
def strLen : Value → Nat
  | .string t => t.size
  | _ => 0
set_option maxRecDepth 100000 in
set_option maxHeartbeats 2000000 in
theorem rtext_any (m ex : Int) (w : World) (hm : I64 m) :
    Calls Tryd.prog 22 #[NV m ex] w fun e w' => e = .returned (.string (textS m ex)) ∧ Ext w w' := by
  unfold textS
  by_cases h : Rt m ex
  · rw [if_pos h]
    have r1 := rtB_yes h
    by_cases h0 : m = 0
    · obtain rfl : ex = 0 := by
        rcases h with h | h
        · exact h.2
        · exact absurd h0 h.1
      subst h0
      have ht : textB 0 0 = ⟨#[48]⟩ := by
        unfold textB textL
        rw [show (0 : Int).natAbs = 0 from rfl, Lib.decDigits_one (by decide)]
        rfl
      rw [ht]
      clear ht h
      go_enter Tryd.func22, Tryd.ntmps22
      go_wp2_with (go_at_call 18; (with_reducible refine (rright_rt _ _ _ (by assumption)).mono ?_); rintro e w' ⟨rfl, hbr⟩; obtain ⟨osr, dr, rfl⟩ := hbr.more)
      exact bodyPost_ret (v := .string ⟨#[48]⟩) (by simp [results, Tryd.results22, go_sem]; done) rfl ⟨rfl, by repeat (first | with_reducible exact Ext.refl _ | with_reducible apply Ext.drew | with_reducible apply Ext.alloc | with_reducible apply Ext.more_)⟩
    · obtain ⟨b1, b2, b3⟩ := Rt_bd h
      have hL : Lib.decDigits m.natAbs = (dig m.natAbs).map fun d => UInt8.ofNat (48 + d) := by rw [dec_dig, dig0_pos (by omega)]
      have hndp : 0 < nd m.natAbs := by
        rcases Nat.eq_zero_or_pos (nd m.natAbs) with h1 | h1
        · have := nd_eq_zero.1 h1; omega
        · exact h1
      have hdl := dig_length m.natAbs
      have hda := dig_all m.natAbs
      have hnd : nd m.natAbs ≤ 15 := (nd_le_iff _ _).2 (by have : T 15 = 1000000000000000 := by decide
                                                           omega)
      generalize hTX : textB m ex = TX
      have HTX := Lib.hid hTX
      have HL := Lib.hid hL
      have HDL := Lib.hid hdl
      have HDA := Lib.hid hda
      have h0' : (m == 0) = false := by simp [h0]
      have hdg := fun W => rdigits m W hm
      clear hTX hL hdl hda h h0
      generalize nd m.natAbs = n at *
      go_enter Tryd.func22, Tryd.ntmps22
      go_upto_block 0 with (first | (go_at_call 18; (with_reducible refine (rright_rt _ _ _ (by assumption)).mono ?_); rintro e w' ⟨rfl, hbr⟩; obtain ⟨osr, dr, rfl⟩ := hbr.more) | (go_at_call 51; (with_reducible refine (hdg _).mono ?_); rintro e w' ⟨A, c, rfl, hrd, hcap, hx⟩; obtain ⟨osd, dd, rfl⟩ := hx.more))
      refine wp_world fun W hW => ?_
      have a0 : W.cell? ⟨w.heap.size, 0, none⟩ = some (.int .i64 m) := by rw [hW]; go_simp
      have a1 : W.cell? ⟨w.heap.size, 1, none⟩ = some (.int .i64 ex) := by rw [hW]; go_simp
      have hz : w.heap.size < W.heap.size := by rw [hW]; simp; try omega
      have hxW : Ext w W := by rw [hW]; exact by repeat (first | with_reducible exact Ext.refl _ | with_reducible apply Ext.drew | with_reducible apply Ext.alloc | with_reducible apply Ext.more_)
      have HRD : Hid (Rd 0 W A (i6 (dig m.natAbs))) := by show Rd _ _ _ _; rw [hW]; rw [more_more] at hrd; exact hrd.mono (Nat.zero_le _)
      clear hW hrd hx hbr
      go_wp2_with fail
      go_loopw [4, 5] (fun s4 s5 wr => ∃ (j : Nat) (t : ByteArray), j ≤ n ∧ s4 = .string t ∧ s5 = .int .i64 (j : Int) ∧ t.size = j ∧ Ext W wr ∧ Hid (tl t = ((dig m.natAbs).take j).map fun d => UInt8.ofNat (48 + d))) (fun _ s5 _ => n - (intOf s5).toNat)
      case atStart => exact ⟨0, ⟨#[]⟩, Nat.zero_le _, rfl, rfl, rfl, Ext.refl _, by show _ = _; rfl⟩
      case round =>
        obtain ⟨j, t, hj, rfl, rfl, htj, hxr, HT⟩ := hrel
        by_cases hjn : j < n
        · obtain ⟨d, hd⟩ : ∃ d, (dig m.natAbs)[j]? = some d := ⟨_, List.getElem?_eq_getElem (by rw [HDL.out]; exact hjn)⟩
          have hd10 : d < 10 := HDA.out d (List.mem_of_getElem? hd)
          obtain ⟨b, off, rfl, hb, hcell⟩ := Rd.at_ (HRD.out.ext hxr) hd
          have hbl := lt_of_cell hcell
          have HD := Lib.hid hd
          have HTJ := Lib.hid htj
          clear hd htj
          have w1 : IntKind.i64.wrap ((d : Int) + 1) = ((d + 1 : Nat) : Int) := i64w (by omega) (by omega)
          have g1 : (0 : Int) ≤ (d : Int) + 1 ∧ (d : Int) + 1 ≤ 10 := by omega
          have g2 : (d : Int) ≤ (d : Int) + 1 := by omega
          have g3 : t.size ≤ 15 := by have := HTJ.out; omega
          have g4 : min (d + 1) 10 - d = 1 := by omega
          have g5 : ¬ 9223372036854775807 < t.size + 1 := by omega
          go_upto_region 10 with fail
          refine wp_plan (S := Ext _) [(0, 0), (1, 0), (2, 0), (3, 0), (4, 0), (5, 0), (6, 0), (7, 0), (8, 0), (9, 0), (10, 0), (11, 0), (12, 0)] [] (by kernel_rfl) (by kernel_rfl) (by kernel_rfl) (fun _ _ d _ _ h => by cases d <;> exact h) (Ext.drew (Ext.refl _)) ?_
          (refine wpPl_read (v := ?_) rfl ?_ (fun w1 h1 => ?_) ?_; rotate_left 1; rfl; (obtain ⟨os1, d1, rfl⟩ := h1.more; go_simp; first | done | rfl))
          try simp only [Act.put, List.setIfInBounds_toArray, List.set_cons_zero, List.set_cons_succ]
          (refine wpPl_read (v := ?_) rfl ?_ (fun w1 h1 => ?_) ?_; rotate_left 1; rfl; (obtain ⟨os1, d1, rfl⟩ := h1.more; go_simp; first | done | rfl))
          try simp only [Act.put, List.setIfInBounds_toArray, List.set_cons_zero, List.set_cons_succ]
          (refine wpPl_read (v := ?_) rfl ?_ (fun w1 h1 => ?_) ?_; rotate_left 1; rfl; (obtain ⟨os1, d1, rfl⟩ := h1.more; go_simp; first | done | rfl))
          try simp only [Act.put, List.setIfInBounds_toArray, List.set_cons_zero, List.set_cons_succ]
          (refine wpPl_read (v := ?_) rfl ?_ (fun w1 h1 => ?_) ?_; rotate_left 1; rfl; (obtain ⟨os1, d1, rfl⟩ := h1.more; go_simp; first | done | rfl))
          try simp only [Act.put, List.setIfInBounds_toArray, List.set_cons_zero, List.set_cons_succ]
          (refine wpPl_read (v := ?_) rfl ?_ (fun w1 h1 => ?_) ?_; rotate_left 1; rfl; (obtain ⟨os1, d1, rfl⟩ := h1.more; go_simp; first | done | rfl))
          try simp only [Act.put, List.setIfInBounds_toArray, List.set_cons_zero, List.set_cons_succ]
          (refine wpPl_read (v := ?_) rfl ?_ (fun w1 h1 => ?_) ?_; rotate_left 1; rfl; (obtain ⟨os1, d1, rfl⟩ := h1.more; go_simp; first | done | rfl))
          try simp only [Act.put, List.setIfInBounds_toArray, List.set_cons_zero, List.set_cons_succ]
          (refine wpPl_read (v := ?_) rfl ?_ (fun w1 h1 => ?_) ?_; rotate_left 1; rfl; (obtain ⟨os1, d1, rfl⟩ := h1.more; go_simp; first | done | rfl))
          try simp only [Act.put, List.setIfInBounds_toArray, List.set_cons_zero, List.set_cons_succ]
          (refine wpPl_read (v := ?_) rfl ?_ (fun w1 h1 => ?_) ?_; rotate_left 1; rfl; (obtain ⟨os1, d1, rfl⟩ := h1.more; go_simp; first | done | rfl))
          try simp only [Act.put, List.setIfInBounds_toArray, List.set_cons_zero, List.set_cons_succ]
          (refine wpPl_read (v := ?_) rfl ?_ (fun w1 h1 => ?_) ?_; rotate_left 1; rfl; (obtain ⟨os1, d1, rfl⟩ := h1.more; go_simp; first | done | rfl))
          try simp only [Act.put, List.setIfInBounds_toArray, List.set_cons_zero, List.set_cons_succ]
          (refine wpPl_read (v := ?_) rfl ?_ (fun w1 h1 => ?_) ?_; rotate_left 1; rfl; (obtain ⟨os1, d1, rfl⟩ := h1.more; go_simp; first | done | rfl))
          try simp only [Act.put, List.setIfInBounds_toArray, List.set_cons_zero, List.set_cons_succ]
          (refine wpPl_read (v := ?_) rfl ?_ (fun w1 h1 => ?_) ?_; rotate_left 1; rfl; (obtain ⟨os1, d1, rfl⟩ := h1.more; go_simp; first | done | rfl))
          try simp only [Act.put, List.setIfInBounds_toArray, List.set_cons_zero, List.set_cons_succ]
          (refine wpPl_read (v := ?_) rfl ?_ (fun w1 h1 => ?_) ?_; rotate_left 1; rfl; (obtain ⟨os1, d1, rfl⟩ := h1.more; go_simp; first | done | rfl))
          try simp only [Act.put, List.setIfInBounds_toArray, List.set_cons_zero, List.set_cons_succ]
          (refine wpPl_read (v := ?_) rfl ?_ (fun w1 h1 => ?_) ?_; rotate_left 1; rfl; (obtain ⟨os1, d1, rfl⟩ := h1.more; go_simp; first | done | rfl))
          try simp only [Act.put, List.setIfInBounds_toArray, List.set_cons_zero, List.set_cons_succ]
          refine wpPl_nil ?_
          go_wp2_with fail
          refine ⟨⟨j + 1, _, by omega, rfl, by go_num, ?_, by repeat (first | with_reducible exact hxr | with_reducible exact Ext.refl _ | with_reducible apply Ext.drew | with_reducible apply Ext.more_), ?_⟩, by simp [intOf]; omega⟩
          · have h1 := congrArg List.length (digit_at hd10)
            rw [tl_size] at h1
            rw [ByteArray.size_append, HTJ.out]
            exact congrArg (j + ·) h1
          · show tl _ = _
            rw [take_at HD.out, List.map_append, tl_append, HT.out]
            exact congrArg _ (digit_at hd10)
        · obtain rfl : n = j := by omega
          have HS : Hid (tl t = Lib.decDigits m.natAbs) := by
            show _ = _
            rw [HT.out, HL.out, List.take_of_length_le (by rw [HDL.out]; exact Nat.le_refl _)]
          have HN := Lib.hid htj
          have hxw := hxW.trans hxr
          have a0r := hxr.cell_some a0
          have a1r := hxr.cell_some a1
          have hzr : w.heap.size < wr.heap.size := by have := hxr.size; omega
          have ht15 : t.size ≤ 15 := by omega
          clear hj hjn htj HT hdg HRD hxW hxr a0 a1 hz HDA HDL
          go_wp2_with fail
          go_loopw [4, 6] (fun s4 s6 wx => wx = wr ∧ ∃ (j : Nat) (t : ByteArray), j ≤ ex.toNat ∧ s4 = .string t ∧ s6 = .int .i64 (j : Int) ∧ t.size ≤ 15 + j ∧ Hid (tl t = Lib.decDigits m.natAbs ++ List.replicate j 48)) (fun _ s6 _ => ex.toNat - (intOf s6).toNat)
          case atStart => exact ⟨rfl, 0, t, Nat.zero_le _, rfl, rfl, by omega, by show _ = _; rw [List.replicate_zero, List.append_nil]; exact HS.out⟩
          case round =>
            obtain ⟨hwx, j, t2, hj, rfl, rfl, ht2, HT2⟩ := hrel
            subst hwx
            have g5 : ¬ 9223372036854775807 < t2.size + 1 := by omega
            by_cases hje : (j : Int) < ex
            · go_wp2_with fail
              refine ⟨⟨trivial, j + 1, _, by omega, rfl, by go_num, by rw [ByteArray.size_append]; show t2.size + 1 ≤ _; omega, ?_⟩, by simp [intOf]; omega⟩
              show tl _ = _
              rw [tl_append, HT2.out, List.replicate_succ', List.append_assoc]; rfl
            · have hjx : Hid (j = ex.toNat) := by show _ = _; omega
              by_cases he : ex < 0
              · have hj0 : j = 0 := by have := hjx.out; omega
                subst hj0
                obtain ⟨E, hE⟩ : ∃ E : Nat, ex = -(E : Int) := ⟨(-ex).toNat, by omega⟩
                have hE0 : 0 < E ∧ E ≤ 40 := by omega
                have HE := Lib.hid hE
                have HT3 : Hid (tl t2 = Lib.decDigits m.natAbs) := by show _ = _; rw [HT2.out, List.replicate_zero, List.append_nil]
                have HN2 : Hid (t2.size = n) := by show _ = _; rw [← tl_size, HT3.out, ← HS.out, tl_size]; exact HN.out
                have w1 : IntKind.i64.wrap (-ex) = (E : Int) := by rw [i64w (by omega) (by omega)]; omega
                have w2 : -ex = (E : Int) := by omega
                clear hE HT2 hje
                go_wp2_with fail
                go_loopw [4] (fun s4 wx => wx = wr ∧ ∃ (k : Nat) (t : ByteArray), s4 = .string t ∧ t.size = n + k ∧ n + k ≤ max n (E + 1) ∧ Hid (tl t = List.replicate k 48 ++ Lib.decDigits m.natAbs)) (fun s4 _ => 100 - strLen s4)
                case atStart => exact ⟨rfl, 0, t2, rfl, HN2.out, by omega, HT3⟩
                case round =>
                  obtain ⟨hwx, k, t4, rfl, ht4, hk, HT4⟩ := hrel
                  subst hwx
                  have hk2 : n + k ≤ 56 := by omega
                  have HK := Lib.hid ht4
                  have ht4' : t4.size ≤ 56 := by omega
                  by_cases hc : n + k ≤ E
                  · have hc' : (t4.size : Int) ≤ (E : Int) := by omega
                    clear ht4
                    go_wp2_with fail
                    refine ⟨⟨trivial, k + 1, _, rfl, ?_, by omega, ?_⟩, ?_⟩
                    · rw [ByteArray.size_append, HK.out]; show 1 + (n + k) = _; omega
                    · show tl _ = _
                      rw [tl_append, HT4.out, List.replicate_succ]; rfl
                    · have h1 : (⟨#[48]⟩ ++ t4 : ByteArray).size = 1 + t4.size := by rw [ByteArray.size_append]; rfl
                      show 100 - (⟨#[48]⟩ ++ t4 : ByteArray).size < 100 - t4.size
                      omega
                  · have hc' : ¬ (t4.size : Int) ≤ (E : Int) := by omega
                    obtain ⟨c5, hc5⟩ : ∃ c5 : Nat, t4.size = E + c5 := ⟨t4.size - E, by omega⟩
                    have e5 : (t4.size : Int) + ex = (c5 : Int) := by have := HE.out; omega
                    have w3 : IntKind.i64.wrap ((t4.size : Int) + ex) = (c5 : Int) := by rw [e5]; exact i64w (by omega) (by omega)
                    have g6 : (0 : Int) ≤ (c5 : Int) ∧ (c5 : Int) ≤ (t4.size : Int) := by omega
                    have g7 : c5 ≤ t4.size := by omega
                    have HC5 : Hid (c5 = n + k - E) := by show _ = _; omega
                    have HX : Hid ((if m < 0 then [45] else []) ++ (tl (t4.extract 0 c5) ++ 46 :: tl (t4.extract c5 t4.size)) = textL m ex) := by
                      have hdl : (Lib.decDigits m.natAbs).length = n := by rw [← HS.out]; exact HN.out
                      rw [tl_extract _ _ _ g7, tl_extract _ _ _ (Nat.le_refl _), List.drop_zero, List.take_of_length_le (i := t4.size) (l := tl t4) (by rw [tl_size]; exact Nat.le_refl _), HT4.out]
                      exact text_neg hdl HE.out hE0.1 hk hc (by omega)
                    have g8 : ¬ 9223372036854775807 < c5 + 1 := by omega
                    have g9 : ¬ 9223372036854775807 < c5 + 1 + (t4.size - c5) := by omega
                    clear ht4 hc HK hc5 e5
                    go_upto_region 18 with fail
                    refine wp_plan (S := Ext _) [(0, 0), (1, 0), (2, 0), (3, 0), (4, 0), (5, 0), (6, 0), (7, 0), (8, 0), (9, 0), (10, 0), (11, 0), (12, 0), (13, 0), (14, 0), (15, 0), (16, 0)] [] (by kernel_rfl) (by kernel_rfl) (by kernel_rfl) (fun _ _ d _ _ h => by cases d <;> exact h) (Ext.drew (Ext.refl _)) ?_
                    (refine wpPl_read (v := ?_) rfl ?_ (fun w1 h1 => ?_) ?_; rotate_left 1; rfl; (obtain ⟨os1, d1, rfl⟩ := h1.more; go_simp; first | done | rfl))
                    try simp only [Act.put, List.setIfInBounds_toArray, List.set_cons_zero, List.set_cons_succ]
                    (refine wpPl_read (v := ?_) rfl ?_ (fun w1 h1 => ?_) ?_; rotate_left 1; rfl; (obtain ⟨os1, d1, rfl⟩ := h1.more; go_simp; first | done | rfl))
                    try simp only [Act.put, List.setIfInBounds_toArray, List.set_cons_zero, List.set_cons_succ]
                    (refine wpPl_read (v := ?_) rfl ?_ (fun w1 h1 => ?_) ?_; rotate_left 1; rfl; (obtain ⟨os1, d1, rfl⟩ := h1.more; go_simp; first | done | rfl))
                    try simp only [Act.put, List.setIfInBounds_toArray, List.set_cons_zero, List.set_cons_succ]
                    (refine wpPl_read (v := ?_) rfl ?_ (fun w1 h1 => ?_) ?_; rotate_left 1; rfl; (obtain ⟨os1, d1, rfl⟩ := h1.more; go_simp; first | done | rfl))
                    try simp only [Act.put, List.setIfInBounds_toArray, List.set_cons_zero, List.set_cons_succ]
                    (refine wpPl_read (v := ?_) rfl ?_ (fun w1 h1 => ?_) ?_; rotate_left 1; rfl; (obtain ⟨os1, d1, rfl⟩ := h1.more; go_simp; first | done | rfl))
                    try simp only [Act.put, List.setIfInBounds_toArray, List.set_cons_zero, List.set_cons_succ]
                    (refine wpPl_read (v := ?_) rfl ?_ (fun w1 h1 => ?_) ?_; rotate_left 1; rfl; (obtain ⟨os1, d1, rfl⟩ := h1.more; go_simp; first | done | rfl))
                    try simp only [Act.put, List.setIfInBounds_toArray, List.set_cons_zero, List.set_cons_succ]
                    (refine wpPl_read (v := ?_) rfl ?_ (fun w1 h1 => ?_) ?_; rotate_left 1; rfl; (obtain ⟨os1, d1, rfl⟩ := h1.more; go_simp; first | done | rfl))
                    try simp only [Act.put, List.setIfInBounds_toArray, List.set_cons_zero, List.set_cons_succ]
                    (refine wpPl_read (v := ?_) rfl ?_ (fun w1 h1 => ?_) ?_; rotate_left 1; rfl; (obtain ⟨os1, d1, rfl⟩ := h1.more; go_simp; first | done | rfl))
                    try simp only [Act.put, List.setIfInBounds_toArray, List.set_cons_zero, List.set_cons_succ]
                    (refine wpPl_read (v := ?_) rfl ?_ (fun w1 h1 => ?_) ?_; rotate_left 1; rfl; (obtain ⟨os1, d1, rfl⟩ := h1.more; go_simp; first | done | rfl))
                    try simp only [Act.put, List.setIfInBounds_toArray, List.set_cons_zero, List.set_cons_succ]
                    (refine wpPl_read (v := ?_) rfl ?_ (fun w1 h1 => ?_) ?_; rotate_left 1; rfl; (obtain ⟨os1, d1, rfl⟩ := h1.more; go_simp; first | done | rfl))
                    try simp only [Act.put, List.setIfInBounds_toArray, List.set_cons_zero, List.set_cons_succ]
                    (refine wpPl_read (v := ?_) rfl ?_ (fun w1 h1 => ?_) ?_; rotate_left 1; rfl; (obtain ⟨os1, d1, rfl⟩ := h1.more; go_simp; first | done | rfl))
                    try simp only [Act.put, List.setIfInBounds_toArray, List.set_cons_zero, List.set_cons_succ]
                    (refine wpPl_read (v := ?_) rfl ?_ (fun w1 h1 => ?_) ?_; rotate_left 1; rfl; (obtain ⟨os1, d1, rfl⟩ := h1.more; go_simp; first | done | rfl))
                    try simp only [Act.put, List.setIfInBounds_toArray, List.set_cons_zero, List.set_cons_succ]
                    (refine wpPl_read (v := ?_) rfl ?_ (fun w1 h1 => ?_) ?_; rotate_left 1; rfl; (obtain ⟨os1, d1, rfl⟩ := h1.more; go_simp; first | done | rfl))
                    try simp only [Act.put, List.setIfInBounds_toArray, List.set_cons_zero, List.set_cons_succ]
                    (refine wpPl_read (v := ?_) rfl ?_ (fun w1 h1 => ?_) ?_; rotate_left 1; rfl; (obtain ⟨os1, d1, rfl⟩ := h1.more; go_simp; first | done | rfl))
                    try simp only [Act.put, List.setIfInBounds_toArray, List.set_cons_zero, List.set_cons_succ]
                    (refine wpPl_read (v := ?_) rfl ?_ (fun w1 h1 => ?_) ?_; rotate_left 1; rfl; (obtain ⟨os1, d1, rfl⟩ := h1.more; go_simp; first | done | rfl))
                    try simp only [Act.put, List.setIfInBounds_toArray, List.set_cons_zero, List.set_cons_succ]
                    (refine wpPl_read (v := ?_) rfl ?_ (fun w1 h1 => ?_) ?_; rotate_left 1; rfl; (obtain ⟨os1, d1, rfl⟩ := h1.more; go_simp; first | done | rfl))
                    try simp only [Act.put, List.setIfInBounds_toArray, List.set_cons_zero, List.set_cons_succ]
                    (refine wpPl_read (v := ?_) rfl ?_ (fun w1 h1 => ?_) ?_; rotate_left 1; rfl; (obtain ⟨os1, d1, rfl⟩ := h1.more; go_simp; first | done | rfl))
                    try simp only [Act.put, List.setIfInBounds_toArray, List.set_cons_zero, List.set_cons_succ]
                    refine wpPl_nil ?_
                    by_cases hneg : m < 0
                    · have HNG := Lib.hid hneg
                      go_wp2_with fail
                      go_ret
                      refine ⟨ret_str ?_, hxw.drew⟩
                      rw [← HTX.out]
                      apply tl_eq
                      rw [← HX.out, if_pos HNG.out, tl_append, tl_append, tl_append, List.append_assoc]; rfl
                    · have HNG := Lib.hid hneg
                      go_wp2_with fail
                      go_ret
                      refine ⟨ret_str ?_, hxw.drew⟩
                      rw [← HTX.out]
                      apply tl_eq
                      rw [← HX.out, if_neg (by have := HNG.out; omega), tl_append, tl_append, List.append_assoc]; rfl
              · have HX : Hid ((if m < 0 then [45] else []) ++ tl t2 = textL m ex) := by
                  show _ = _
                  rw [HT2.out]; exact text_pos (by omega) hjx.out
                have ht2' : t2.size ≤ 55 := by omega
                by_cases hneg : m < 0
                · have HNG := Lib.hid hneg
                  go_wp2_with fail
                  go_ret
                  refine ⟨ret_str ?_, hxw⟩
                  rw [← HTX.out]
                  apply tl_eq
                  rw [← HX.out, if_pos HNG.out, tl_append]; rfl
                · have HNG := Lib.hid hneg
                  go_wp2_with fail
                  go_ret
                  refine ⟨ret_str ?_, hxw⟩
                  rw [← HTX.out]
                  apply tl_eq
                  rw [← HX.out, if_neg (by have := HNG.out; omega)]; rfl
  · rw [if_neg h]
    have r1 := rtB_no h
    clear h
    go_enter Tryd.func22, Tryd.ntmps22
    go_wp2_with (go_at_call 18; (with_reducible refine (rright_rt _ _ _ (by assumption)).mono ?_); rintro e w' ⟨rfl, hbr⟩; obtain ⟨osr, dr, rfl⟩ := hbr.more)
    exact bodyPost_ret (v := .string ⟨#[]⟩) (by simp [results, Tryd.results22, go_sem]; done) rfl ⟨rfl, by repeat (first | with_reducible exact Ext.refl _ | with_reducible apply Ext.drew | with_reducible apply Ext.alloc | with_reducible apply Ext.more_)⟩
end Go.Proofs.YtihfiegopnjeiaaDoor
