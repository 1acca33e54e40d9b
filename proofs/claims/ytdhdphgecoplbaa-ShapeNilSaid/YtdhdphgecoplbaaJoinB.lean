/- Contracts: Beside, Below. -/
import Derived.Test.YtdhdphgecoplbaaJoin
namespace Go.Proofs.Ytdhdphgecoplbaa
open Go.RowKit
def besideL (R C : Nat) (l : List Val) (R' C' : Nat) (l' : List Val) : List Val := vals (fun i j => if j < C then orNoneV R C l i j else orNoneV R' C' l' i ((j : Int) - (C : Int))) (C + C') (max R R' * (C + C'))
def belowL (R C : Nat) (l : List Val) (R' C' : Nat) (l' : List Val) : List Val := vals (fun i j => if i < R then orNoneV R C l i j else orNoneV R' C' l' ((i : Int) - (R : Int)) j) (max C C') ((R + R') * max C C')
theorem right_bd {R C : Nat} {l : List Val} (h : rightA R C l = true) : 1 ≤ R ∧ 1 ≤ C ∧ R * C ≤ 4096 ∧ l.length = R * C ∧ R ≤ 4096 ∧ C ≤ 4096 := by
  obtain ⟨R', C', e1, e2, r1, r2, r3, r4, _⟩ := right_parts h
  obtain rfl : R = R' := by omega
  obtain rfl : C = C' := by omega
  have h1 : R * 1 ≤ R * C := Nat.mul_le_mul_left R r2
  have h2 : 1 * C ≤ R * C := Nat.mul_le_mul_right C r1
  exact ⟨r1, r2, r3, r4, by omega, by omega⟩
theorem fits_nat {a b : Nat} : fitsB a b = true ↔ 1 ≤ a ∧ 1 ≤ b ∧ a * b ≤ 4096 := by
  constructor
  · intro h
    obtain ⟨f1, f2, f3, f4, f5, f6⟩ := fits_mul h
    rw [← Int.natCast_mul] at f6
    exact ⟨by omega, by omega, by omega⟩
  · intro ⟨h1, h2, h3⟩
    have ha : a * 1 ≤ a * b := Nat.mul_le_mul_left a h2
    have hq : b ≤ 4096 / a := (Nat.le_div_iff_mul_le (by omega)).2 (by rw [Nat.mul_comm]; exact h3)
    simp only [fitsB, Bool.and_eq_true, decide_eq_true_eq]
    refine ⟨⟨⟨by omega, by omega⟩, by omega⟩, ?_⟩
    have : ((b : Nat) : Int) ≤ ((4096 / a : Nat) : Int) := by omega
    simpa using this


set_option maxHeartbeats 600000 in
theorem beside_gt (R C R' C' : Nat) (A B : Option Addr) (n cap n' cap' : Nat) (l l' : List Val) (w : World) (h : ArrIn w A n cap l) (h' : ArrIn w B n' cap' l') (hr : rightA R C l = true) (hr' : rightA R' C' l' = true) (hlt : R' < R) (hf : R * (C + C') ≤ 4096) :
    Calls Try.prog 35 #[AV R C (.slice A n cap), AV R' C' (.slice B n' cap')] w fun e w' => ∃ D c, e = .returned (.tuple #[AV (R : Nat) (C + C' : Nat) (.slice D (R * (C + C')) c), .bool true]) ∧ SlV w.heap.size w' D (vals (fun i j => if j < C then orNoneV R C l i j else orNoneV R' C' l' i ((j : Int) - (C : Int))) (C + C') (R * (C + C'))) ∧ R * (C + C') ≤ c ∧ Ext w w' := by
  obtain ⟨r1, r2, r3, r4, r5, r6⟩ := right_bd hr
  obtain ⟨s1, s2, s3, s4, s5, s6⟩ := right_bd hr'
  have hln := h.len
  have hln' := h'.len
  have HN := Lib.hid (show n = R * C by omega)
  have HN' := Lib.hid (show n' = R' * C' by omega)
  have hN : n ≤ 4096 := by omega
  have hN' : n' ≤ 4096 := by omega
  clear r4 s4 hln hln'
  have hfit : fitsB ((R : Nat) : Int) ((C + C' : Nat) : Int) = true := fits_nat.2 ⟨by omega, by omega, hf⟩
  have hcc : (C : Int) + (C' : Int) = ((C + C' : Nat) : Int) := by omega
  rw [← hcc] at hfit
  generalize hL : vals (fun i j => if j < C then orNoneV R C l i j else orNoneV R' C' l' i ((j : Int) - (C : Int))) (C + C') (R * (C + C')) = LL
  have HL := Lib.hid hL
  generalize hT : R * (C + C') = T at *
  have HT := Lib.hid hT
  clear hT hL hcc
  go_enter Try.func35, Try.ntmps35
  go_wp2_with fail
  refine (right_any _ _ _ _ _ _ _ (h.ext (by repeat (first | exact Ext.refl _ | exact ext_app _ _ _ _ _ | exact ext_app2 _ _ _ _ _ _ | apply Ext.drew | apply Ext.alloc | apply Ext.more_)))).mono ?_; rintro e w' ⟨rfl, hb⟩; obtain ⟨os1, d1, rfl⟩ := hb.more; clear hb
  go_wp2_with fail
  refine (right_any _ _ _ _ _ _ _ (h'.ext (by repeat (first | exact Ext.refl _ | exact ext_app _ _ _ _ _ | exact ext_app2 _ _ _ _ _ _ | apply Ext.drew | apply Ext.alloc | apply Ext.more_)))).mono ?_; rintro e w' ⟨rfl, hb⟩; obtain ⟨os2, d2, rfl⟩ := hb.more; clear hb
  go_wp2_with fail
  refine (fits_any _ _ _).mono ?_
  rintro e w' ⟨rfl, rfl⟩
  go_wp2_with fail
  rw [show (C : Int) + (C' : Int) = ((C + C' : Nat) : Int) by omega]
  refine (build_pure R (C + C') 61 #[.pointer (some ⟨w.heap.size, 0, none⟩), .pointer (some ⟨w.heap.size + 1, 0, none⟩)] (fun i j => if j < C then orNoneV R C l i j else orNoneV R' C' l' i ((j : Int) - (C : Int))) _ (by omega) (by omega) (by rw [HT.out]; exact hf) (fun _ _ => by kernel_rfl) ?_).mono ?_
  · intro i j W hi hj hx
    refine beside1_any w.heap.size (w.heap.size + 1) R C R' C' A B n cap n' cap' l l' i j W (ABox.ext ?_ hx) (ABox.ext ?_ hx) (h.ext (Ext.trans ?_ hx)) (h'.ext (Ext.trans ?_ hx)) HN.out HN'.out hN hN' (by omega) (by omega) (by omega) _ rfl
    · refine ⟨?_, ?_, ?_, ?_⟩ <;> simp [go_sem]
    · refine ⟨?_, ?_, ?_, ?_⟩ <;> simp [go_sem]
    · exact (by repeat (first | exact Ext.refl _ | exact ext_app _ _ _ _ _ | exact ext_app2 _ _ _ _ _ _ | apply Ext.drew | apply Ext.alloc | apply Ext.more_))
    · exact (by repeat (first | exact Ext.refl _ | exact ext_app _ _ _ _ _ | exact ext_app2 _ _ _ _ _ _ | apply Ext.drew | apply Ext.alloc | apply Ext.more_))
  rintro e w' ⟨D, c', rfl, hs, hc', hb⟩
  obtain ⟨os', d', rfl⟩ := hb.more
  rw [HT.out] at hs hc' ⊢
  rw [HL.out] at hs
  go_wp2
  exact bodyPost_ret (v := .tuple #[AV (R : Nat) (C + C' : Nat) (.slice D T c'), .bool true]) (by simp [results, Try.results35, go_sem]; done) rfl ⟨D, c', rfl, (by (try simp only [more_more] at hs); (try simp only [drew_more] at hs); (try simp only [more_drew] at hs); (try simp only [Array.append_assoc] at hs); exact Rd.swap hs (by first | (simp; done) | (simp; omega) | omega) (by first | (simp; done) | (simp; omega) | omega) (by first | (simp; done) | (simp; omega) | omega)), hc', by repeat (first | exact Ext.refl _ | exact ext_app _ _ _ _ _ | exact ext_app2 _ _ _ _ _ _ | apply Ext.drew | apply Ext.alloc | apply Ext.more_)⟩

set_option maxHeartbeats 600000 in
theorem beside_eq (R C C' : Nat) (A B : Option Addr) (n cap n' cap' : Nat) (l l' : List Val) (w : World) (h : ArrIn w A n cap l) (h' : ArrIn w B n' cap' l') (hr : rightA R C l = true) (hr' : rightA R C' l' = true)  (hf : R * (C + C') ≤ 4096) :
    Calls Try.prog 35 #[AV R C (.slice A n cap), AV R C' (.slice B n' cap')] w fun e w' => ∃ D c, e = .returned (.tuple #[AV (R : Nat) (C + C' : Nat) (.slice D (R * (C + C')) c), .bool true]) ∧ SlV w.heap.size w' D (vals (fun i j => if j < C then orNoneV R C l i j else orNoneV R C' l' i ((j : Int) - (C : Int))) (C + C') (R * (C + C'))) ∧ R * (C + C') ≤ c ∧ Ext w w' := by
  obtain ⟨r1, r2, r3, r4, r5, r6⟩ := right_bd hr
  obtain ⟨s1, s2, s3, s4, s5, s6⟩ := right_bd hr'
  have hln := h.len
  have hln' := h'.len
  have HN := Lib.hid (show n = R * C by omega)
  have HN' := Lib.hid (show n' = R * C' by omega)
  have hN : n ≤ 4096 := by omega
  have hN' : n' ≤ 4096 := by omega
  clear r4 s4 hln hln'
  have hfit : fitsB ((R : Nat) : Int) ((C + C' : Nat) : Int) = true := fits_nat.2 ⟨by omega, by omega, hf⟩
  have hcc : (C : Int) + (C' : Int) = ((C + C' : Nat) : Int) := by omega
  rw [← hcc] at hfit
  generalize hL : vals (fun i j => if j < C then orNoneV R C l i j else orNoneV R C' l' i ((j : Int) - (C : Int))) (C + C') (R * (C + C')) = LL
  have HL := Lib.hid hL
  generalize hT : R * (C + C') = T at *
  have HT := Lib.hid hT
  clear hT hL hcc
  go_enter Try.func35, Try.ntmps35
  go_wp2_with fail
  refine (right_any _ _ _ _ _ _ _ (h.ext (by repeat (first | exact Ext.refl _ | exact ext_app _ _ _ _ _ | exact ext_app2 _ _ _ _ _ _ | apply Ext.drew | apply Ext.alloc | apply Ext.more_)))).mono ?_; rintro e w' ⟨rfl, hb⟩; obtain ⟨os1, d1, rfl⟩ := hb.more; clear hb
  go_wp2_with fail
  refine (right_any _ _ _ _ _ _ _ (h'.ext (by repeat (first | exact Ext.refl _ | exact ext_app _ _ _ _ _ | exact ext_app2 _ _ _ _ _ _ | apply Ext.drew | apply Ext.alloc | apply Ext.more_)))).mono ?_; rintro e w' ⟨rfl, hb⟩; obtain ⟨os2, d2, rfl⟩ := hb.more; clear hb
  go_wp2_with fail
  refine (fits_any _ _ _).mono ?_
  rintro e w' ⟨rfl, rfl⟩
  go_wp2_with fail
  rw [show (C : Int) + (C' : Int) = ((C + C' : Nat) : Int) by omega]
  refine (build_pure R (C + C') 61 #[.pointer (some ⟨w.heap.size, 0, none⟩), .pointer (some ⟨w.heap.size + 1, 0, none⟩)] (fun i j => if j < C then orNoneV R C l i j else orNoneV R C' l' i ((j : Int) - (C : Int))) _ (by omega) (by omega) (by rw [HT.out]; exact hf) (fun _ _ => by kernel_rfl) ?_).mono ?_
  · intro i j W hi hj hx
    refine beside1_any w.heap.size (w.heap.size + 1) R C R C' A B n cap n' cap' l l' i j W (ABox.ext ?_ hx) (ABox.ext ?_ hx) (h.ext (Ext.trans ?_ hx)) (h'.ext (Ext.trans ?_ hx)) HN.out HN'.out hN hN' (by omega) (by omega) (by omega) _ rfl
    · refine ⟨?_, ?_, ?_, ?_⟩ <;> simp [go_sem]
    · refine ⟨?_, ?_, ?_, ?_⟩ <;> simp [go_sem]
    · exact (by repeat (first | exact Ext.refl _ | exact ext_app _ _ _ _ _ | exact ext_app2 _ _ _ _ _ _ | apply Ext.drew | apply Ext.alloc | apply Ext.more_))
    · exact (by repeat (first | exact Ext.refl _ | exact ext_app _ _ _ _ _ | exact ext_app2 _ _ _ _ _ _ | apply Ext.drew | apply Ext.alloc | apply Ext.more_))
  rintro e w' ⟨D, c', rfl, hs, hc', hb⟩
  obtain ⟨os', d', rfl⟩ := hb.more
  rw [HT.out] at hs hc' ⊢
  rw [HL.out] at hs
  go_wp2
  exact bodyPost_ret (v := .tuple #[AV (R : Nat) (C + C' : Nat) (.slice D T c'), .bool true]) (by simp [results, Try.results35, go_sem]; done) rfl ⟨D, c', rfl, (by (try simp only [more_more] at hs); (try simp only [drew_more] at hs); (try simp only [more_drew] at hs); (try simp only [Array.append_assoc] at hs); exact Rd.swap hs (by first | (simp; done) | (simp; omega) | omega) (by first | (simp; done) | (simp; omega) | omega) (by first | (simp; done) | (simp; omega) | omega)), hc', by repeat (first | exact Ext.refl _ | exact ext_app _ _ _ _ _ | exact ext_app2 _ _ _ _ _ _ | apply Ext.drew | apply Ext.alloc | apply Ext.more_)⟩

set_option maxHeartbeats 600000 in
theorem beside_lt (R C R' C' : Nat) (A B : Option Addr) (n cap n' cap' : Nat) (l l' : List Val) (w : World) (h : ArrIn w A n cap l) (h' : ArrIn w B n' cap' l') (hr : rightA R C l = true) (hr' : rightA R' C' l' = true) (hlt : R < R') (hf : R' * (C + C') ≤ 4096) :
    Calls Try.prog 35 #[AV R C (.slice A n cap), AV R' C' (.slice B n' cap')] w fun e w' => ∃ D c, e = .returned (.tuple #[AV (R' : Nat) (C + C' : Nat) (.slice D (R' * (C + C')) c), .bool true]) ∧ SlV w.heap.size w' D (vals (fun i j => if j < C then orNoneV R C l i j else orNoneV R' C' l' i ((j : Int) - (C : Int))) (C + C') (R' * (C + C'))) ∧ R' * (C + C') ≤ c ∧ Ext w w' := by
  obtain ⟨r1, r2, r3, r4, r5, r6⟩ := right_bd hr
  obtain ⟨s1, s2, s3, s4, s5, s6⟩ := right_bd hr'
  have hln := h.len
  have hln' := h'.len
  have HN := Lib.hid (show n = R * C by omega)
  have HN' := Lib.hid (show n' = R' * C' by omega)
  have hN : n ≤ 4096 := by omega
  have hN' : n' ≤ 4096 := by omega
  clear r4 s4 hln hln'
  have hfit : fitsB ((R' : Nat) : Int) ((C + C' : Nat) : Int) = true := fits_nat.2 ⟨by omega, by omega, hf⟩
  have hcc : (C : Int) + (C' : Int) = ((C + C' : Nat) : Int) := by omega
  rw [← hcc] at hfit
  generalize hL : vals (fun i j => if j < C then orNoneV R C l i j else orNoneV R' C' l' i ((j : Int) - (C : Int))) (C + C') (R' * (C + C')) = LL
  have HL := Lib.hid hL
  generalize hT : R' * (C + C') = T at *
  have HT := Lib.hid hT
  clear hT hL hcc
  go_enter Try.func35, Try.ntmps35
  go_wp2_with fail
  refine (right_any _ _ _ _ _ _ _ (h.ext (by repeat (first | exact Ext.refl _ | exact ext_app _ _ _ _ _ | exact ext_app2 _ _ _ _ _ _ | apply Ext.drew | apply Ext.alloc | apply Ext.more_)))).mono ?_; rintro e w' ⟨rfl, hb⟩; obtain ⟨os1, d1, rfl⟩ := hb.more; clear hb
  go_wp2_with fail
  refine (right_any _ _ _ _ _ _ _ (h'.ext (by repeat (first | exact Ext.refl _ | exact ext_app _ _ _ _ _ | exact ext_app2 _ _ _ _ _ _ | apply Ext.drew | apply Ext.alloc | apply Ext.more_)))).mono ?_; rintro e w' ⟨rfl, hb⟩; obtain ⟨os2, d2, rfl⟩ := hb.more; clear hb
  go_wp2_with fail
  refine (fits_any _ _ _).mono ?_
  rintro e w' ⟨rfl, rfl⟩
  go_wp2_with fail
  rw [show (C : Int) + (C' : Int) = ((C + C' : Nat) : Int) by omega]
  refine (build_pure R' (C + C') 61 #[.pointer (some ⟨w.heap.size, 0, none⟩), .pointer (some ⟨w.heap.size + 1, 0, none⟩)] (fun i j => if j < C then orNoneV R C l i j else orNoneV R' C' l' i ((j : Int) - (C : Int))) _ (by omega) (by omega) (by rw [HT.out]; exact hf) (fun _ _ => by kernel_rfl) ?_).mono ?_
  · intro i j W hi hj hx
    refine beside1_any w.heap.size (w.heap.size + 1) R C R' C' A B n cap n' cap' l l' i j W (ABox.ext ?_ hx) (ABox.ext ?_ hx) (h.ext (Ext.trans ?_ hx)) (h'.ext (Ext.trans ?_ hx)) HN.out HN'.out hN hN' (by omega) (by omega) (by omega) _ rfl
    · refine ⟨?_, ?_, ?_, ?_⟩ <;> simp [go_sem]
    · refine ⟨?_, ?_, ?_, ?_⟩ <;> simp [go_sem]
    · exact (by repeat (first | exact Ext.refl _ | exact ext_app _ _ _ _ _ | exact ext_app2 _ _ _ _ _ _ | apply Ext.drew | apply Ext.alloc | apply Ext.more_))
    · exact (by repeat (first | exact Ext.refl _ | exact ext_app _ _ _ _ _ | exact ext_app2 _ _ _ _ _ _ | apply Ext.drew | apply Ext.alloc | apply Ext.more_))
  rintro e w' ⟨D, c', rfl, hs, hc', hb⟩
  obtain ⟨os', d', rfl⟩ := hb.more
  rw [HT.out] at hs hc' ⊢
  rw [HL.out] at hs
  go_wp2
  exact bodyPost_ret (v := .tuple #[AV (R' : Nat) (C + C' : Nat) (.slice D T c'), .bool true]) (by simp [results, Try.results35, go_sem]; done) rfl ⟨D, c', rfl, (by (try simp only [more_more] at hs); (try simp only [drew_more] at hs); (try simp only [more_drew] at hs); (try simp only [Array.append_assoc] at hs); exact Rd.swap hs (by first | (simp; done) | (simp; omega) | omega) (by first | (simp; done) | (simp; omega) | omega) (by first | (simp; done) | (simp; omega) | omega)), hc', by repeat (first | exact Ext.refl _ | exact ext_app _ _ _ _ _ | exact ext_app2 _ _ _ _ _ _ | apply Ext.drew | apply Ext.alloc | apply Ext.more_)⟩

set_option maxHeartbeats 600000 in
theorem below_gt (R C R' C' : Nat) (A B : Option Addr) (n cap n' cap' : Nat) (l l' : List Val) (w : World) (h : ArrIn w A n cap l) (h' : ArrIn w B n' cap' l') (hr : rightA R C l = true) (hr' : rightA R' C' l' = true) (hlt : C' < C) (hf : (R + R') * C ≤ 4096) :
    Calls Try.prog 36 #[AV R C (.slice A n cap), AV R' C' (.slice B n' cap')] w fun e w' => ∃ D c, e = .returned (.tuple #[AV (R + R' : Nat) (C : Nat) (.slice D ((R + R') * C) c), .bool true]) ∧ SlV w.heap.size w' D (vals (fun i j => if i < R then orNoneV R C l i j else orNoneV R' C' l' ((i : Int) - (R : Int)) j) C ((R + R') * C)) ∧ (R + R') * C ≤ c ∧ Ext w w' := by
  obtain ⟨r1, r2, r3, r4, r5, r6⟩ := right_bd hr
  obtain ⟨s1, s2, s3, s4, s5, s6⟩ := right_bd hr'
  have hln := h.len
  have hln' := h'.len
  have HN := Lib.hid (show n = R * C by omega)
  have HN' := Lib.hid (show n' = R' * C' by omega)
  have hN : n ≤ 4096 := by omega
  have hN' : n' ≤ 4096 := by omega
  clear r4 s4 hln hln'
  have hfit : fitsB ((R + R' : Nat) : Int) ((C : Nat) : Int) = true := fits_nat.2 ⟨by omega, by omega, hf⟩
  have hcc : (R : Int) + (R' : Int) = ((R + R' : Nat) : Int) := by omega
  rw [← hcc] at hfit
  generalize hL : vals (fun i j => if i < R then orNoneV R C l i j else orNoneV R' C' l' ((i : Int) - (R : Int)) j) C ((R + R') * C) = LL
  have HL := Lib.hid hL
  generalize hT : (R + R') * C = T at *
  have HT := Lib.hid hT
  clear hT hL hcc
  go_enter Try.func36, Try.ntmps36
  go_wp2_with fail
  refine (right_any _ _ _ _ _ _ _ (h.ext (by repeat (first | exact Ext.refl _ | exact ext_app _ _ _ _ _ | exact ext_app2 _ _ _ _ _ _ | apply Ext.drew | apply Ext.alloc | apply Ext.more_)))).mono ?_; rintro e w' ⟨rfl, hb⟩; obtain ⟨os1, d1, rfl⟩ := hb.more; clear hb
  go_wp2_with fail
  refine (right_any _ _ _ _ _ _ _ (h'.ext (by repeat (first | exact Ext.refl _ | exact ext_app _ _ _ _ _ | exact ext_app2 _ _ _ _ _ _ | apply Ext.drew | apply Ext.alloc | apply Ext.more_)))).mono ?_; rintro e w' ⟨rfl, hb⟩; obtain ⟨os2, d2, rfl⟩ := hb.more; clear hb
  go_wp2_with fail
  refine (fits_any _ _ _).mono ?_
  rintro e w' ⟨rfl, rfl⟩
  go_wp2_with fail
  rw [show (R : Int) + (R' : Int) = ((R + R' : Nat) : Int) by omega]
  refine (build_pure (R + R') C 63 #[.pointer (some ⟨w.heap.size, 0, none⟩), .pointer (some ⟨w.heap.size + 1, 0, none⟩)] (fun i j => if i < R then orNoneV R C l i j else orNoneV R' C' l' ((i : Int) - (R : Int)) j) _ (by omega) (by omega) (by rw [HT.out]; exact hf) (fun _ _ => by kernel_rfl) ?_).mono ?_
  · intro i j W hi hj hx
    refine below1_any w.heap.size (w.heap.size + 1) R C R' C' A B n cap n' cap' l l' i j W (ABox.ext ?_ hx) (ABox.ext ?_ hx) (h.ext (Ext.trans ?_ hx)) (h'.ext (Ext.trans ?_ hx)) HN.out HN'.out hN hN' (by omega) (by omega) (by omega) _ rfl
    · refine ⟨?_, ?_, ?_, ?_⟩ <;> simp [go_sem]
    · refine ⟨?_, ?_, ?_, ?_⟩ <;> simp [go_sem]
    · exact (by repeat (first | exact Ext.refl _ | exact ext_app _ _ _ _ _ | exact ext_app2 _ _ _ _ _ _ | apply Ext.drew | apply Ext.alloc | apply Ext.more_))
    · exact (by repeat (first | exact Ext.refl _ | exact ext_app _ _ _ _ _ | exact ext_app2 _ _ _ _ _ _ | apply Ext.drew | apply Ext.alloc | apply Ext.more_))
  rintro e w' ⟨D, c', rfl, hs, hc', hb⟩
  obtain ⟨os', d', rfl⟩ := hb.more
  rw [HT.out] at hs hc' ⊢
  rw [HL.out] at hs
  go_wp2
  exact bodyPost_ret (v := .tuple #[AV (R + R' : Nat) (C : Nat) (.slice D T c'), .bool true]) (by simp [results, Try.results36, go_sem]; done) rfl ⟨D, c', rfl, (by (try simp only [more_more] at hs); (try simp only [drew_more] at hs); (try simp only [more_drew] at hs); (try simp only [Array.append_assoc] at hs); exact Rd.swap hs (by first | (simp; done) | (simp; omega) | omega) (by first | (simp; done) | (simp; omega) | omega) (by first | (simp; done) | (simp; omega) | omega)), hc', by repeat (first | exact Ext.refl _ | exact ext_app _ _ _ _ _ | exact ext_app2 _ _ _ _ _ _ | apply Ext.drew | apply Ext.alloc | apply Ext.more_)⟩

set_option maxHeartbeats 600000 in
theorem below_eq (R C R' : Nat) (A B : Option Addr) (n cap n' cap' : Nat) (l l' : List Val) (w : World) (h : ArrIn w A n cap l) (h' : ArrIn w B n' cap' l') (hr : rightA R C l = true) (hr' : rightA R' C l' = true)  (hf : (R + R') * C ≤ 4096) :
    Calls Try.prog 36 #[AV R C (.slice A n cap), AV R' C (.slice B n' cap')] w fun e w' => ∃ D c, e = .returned (.tuple #[AV (R + R' : Nat) (C : Nat) (.slice D ((R + R') * C) c), .bool true]) ∧ SlV w.heap.size w' D (vals (fun i j => if i < R then orNoneV R C l i j else orNoneV R' C l' ((i : Int) - (R : Int)) j) C ((R + R') * C)) ∧ (R + R') * C ≤ c ∧ Ext w w' := by
  obtain ⟨r1, r2, r3, r4, r5, r6⟩ := right_bd hr
  obtain ⟨s1, s2, s3, s4, s5, s6⟩ := right_bd hr'
  have hln := h.len
  have hln' := h'.len
  have HN := Lib.hid (show n = R * C by omega)
  have HN' := Lib.hid (show n' = R' * C by omega)
  have hN : n ≤ 4096 := by omega
  have hN' : n' ≤ 4096 := by omega
  clear r4 s4 hln hln'
  have hfit : fitsB ((R + R' : Nat) : Int) ((C : Nat) : Int) = true := fits_nat.2 ⟨by omega, by omega, hf⟩
  have hcc : (R : Int) + (R' : Int) = ((R + R' : Nat) : Int) := by omega
  rw [← hcc] at hfit
  generalize hL : vals (fun i j => if i < R then orNoneV R C l i j else orNoneV R' C l' ((i : Int) - (R : Int)) j) C ((R + R') * C) = LL
  have HL := Lib.hid hL
  generalize hT : (R + R') * C = T at *
  have HT := Lib.hid hT
  clear hT hL hcc
  go_enter Try.func36, Try.ntmps36
  go_wp2_with fail
  refine (right_any _ _ _ _ _ _ _ (h.ext (by repeat (first | exact Ext.refl _ | exact ext_app _ _ _ _ _ | exact ext_app2 _ _ _ _ _ _ | apply Ext.drew | apply Ext.alloc | apply Ext.more_)))).mono ?_; rintro e w' ⟨rfl, hb⟩; obtain ⟨os1, d1, rfl⟩ := hb.more; clear hb
  go_wp2_with fail
  refine (right_any _ _ _ _ _ _ _ (h'.ext (by repeat (first | exact Ext.refl _ | exact ext_app _ _ _ _ _ | exact ext_app2 _ _ _ _ _ _ | apply Ext.drew | apply Ext.alloc | apply Ext.more_)))).mono ?_; rintro e w' ⟨rfl, hb⟩; obtain ⟨os2, d2, rfl⟩ := hb.more; clear hb
  go_wp2_with fail
  refine (fits_any _ _ _).mono ?_
  rintro e w' ⟨rfl, rfl⟩
  go_wp2_with fail
  rw [show (R : Int) + (R' : Int) = ((R + R' : Nat) : Int) by omega]
  refine (build_pure (R + R') C 63 #[.pointer (some ⟨w.heap.size, 0, none⟩), .pointer (some ⟨w.heap.size + 1, 0, none⟩)] (fun i j => if i < R then orNoneV R C l i j else orNoneV R' C l' ((i : Int) - (R : Int)) j) _ (by omega) (by omega) (by rw [HT.out]; exact hf) (fun _ _ => by kernel_rfl) ?_).mono ?_
  · intro i j W hi hj hx
    refine below1_any w.heap.size (w.heap.size + 1) R C R' C A B n cap n' cap' l l' i j W (ABox.ext ?_ hx) (ABox.ext ?_ hx) (h.ext (Ext.trans ?_ hx)) (h'.ext (Ext.trans ?_ hx)) HN.out HN'.out hN hN' (by omega) (by omega) (by omega) _ rfl
    · refine ⟨?_, ?_, ?_, ?_⟩ <;> simp [go_sem]
    · refine ⟨?_, ?_, ?_, ?_⟩ <;> simp [go_sem]
    · exact (by repeat (first | exact Ext.refl _ | exact ext_app _ _ _ _ _ | exact ext_app2 _ _ _ _ _ _ | apply Ext.drew | apply Ext.alloc | apply Ext.more_))
    · exact (by repeat (first | exact Ext.refl _ | exact ext_app _ _ _ _ _ | exact ext_app2 _ _ _ _ _ _ | apply Ext.drew | apply Ext.alloc | apply Ext.more_))
  rintro e w' ⟨D, c', rfl, hs, hc', hb⟩
  obtain ⟨os', d', rfl⟩ := hb.more
  rw [HT.out] at hs hc' ⊢
  rw [HL.out] at hs
  go_wp2
  exact bodyPost_ret (v := .tuple #[AV (R + R' : Nat) (C : Nat) (.slice D T c'), .bool true]) (by simp [results, Try.results36, go_sem]; done) rfl ⟨D, c', rfl, (by (try simp only [more_more] at hs); (try simp only [drew_more] at hs); (try simp only [more_drew] at hs); (try simp only [Array.append_assoc] at hs); exact Rd.swap hs (by first | (simp; done) | (simp; omega) | omega) (by first | (simp; done) | (simp; omega) | omega) (by first | (simp; done) | (simp; omega) | omega)), hc', by repeat (first | exact Ext.refl _ | exact ext_app _ _ _ _ _ | exact ext_app2 _ _ _ _ _ _ | apply Ext.drew | apply Ext.alloc | apply Ext.more_)⟩

set_option maxHeartbeats 600000 in
theorem below_lt (R C R' C' : Nat) (A B : Option Addr) (n cap n' cap' : Nat) (l l' : List Val) (w : World) (h : ArrIn w A n cap l) (h' : ArrIn w B n' cap' l') (hr : rightA R C l = true) (hr' : rightA R' C' l' = true) (hlt : C < C') (hf : (R + R') * C' ≤ 4096) :
    Calls Try.prog 36 #[AV R C (.slice A n cap), AV R' C' (.slice B n' cap')] w fun e w' => ∃ D c, e = .returned (.tuple #[AV (R + R' : Nat) (C' : Nat) (.slice D ((R + R') * C') c), .bool true]) ∧ SlV w.heap.size w' D (vals (fun i j => if i < R then orNoneV R C l i j else orNoneV R' C' l' ((i : Int) - (R : Int)) j) C' ((R + R') * C')) ∧ (R + R') * C' ≤ c ∧ Ext w w' := by
  obtain ⟨r1, r2, r3, r4, r5, r6⟩ := right_bd hr
  obtain ⟨s1, s2, s3, s4, s5, s6⟩ := right_bd hr'
  have hln := h.len
  have hln' := h'.len
  have HN := Lib.hid (show n = R * C by omega)
  have HN' := Lib.hid (show n' = R' * C' by omega)
  have hN : n ≤ 4096 := by omega
  have hN' : n' ≤ 4096 := by omega
  clear r4 s4 hln hln'
  have hfit : fitsB ((R + R' : Nat) : Int) ((C' : Nat) : Int) = true := fits_nat.2 ⟨by omega, by omega, hf⟩
  have hcc : (R : Int) + (R' : Int) = ((R + R' : Nat) : Int) := by omega
  rw [← hcc] at hfit
  generalize hL : vals (fun i j => if i < R then orNoneV R C l i j else orNoneV R' C' l' ((i : Int) - (R : Int)) j) C' ((R + R') * C') = LL
  have HL := Lib.hid hL
  generalize hT : (R + R') * C' = T at *
  have HT := Lib.hid hT
  clear hT hL hcc
  go_enter Try.func36, Try.ntmps36
  go_wp2_with fail
  refine (right_any _ _ _ _ _ _ _ (h.ext (by repeat (first | exact Ext.refl _ | exact ext_app _ _ _ _ _ | exact ext_app2 _ _ _ _ _ _ | apply Ext.drew | apply Ext.alloc | apply Ext.more_)))).mono ?_; rintro e w' ⟨rfl, hb⟩; obtain ⟨os1, d1, rfl⟩ := hb.more; clear hb
  go_wp2_with fail
  refine (right_any _ _ _ _ _ _ _ (h'.ext (by repeat (first | exact Ext.refl _ | exact ext_app _ _ _ _ _ | exact ext_app2 _ _ _ _ _ _ | apply Ext.drew | apply Ext.alloc | apply Ext.more_)))).mono ?_; rintro e w' ⟨rfl, hb⟩; obtain ⟨os2, d2, rfl⟩ := hb.more; clear hb
  go_wp2_with fail
  refine (fits_any _ _ _).mono ?_
  rintro e w' ⟨rfl, rfl⟩
  go_wp2_with fail
  rw [show (R : Int) + (R' : Int) = ((R + R' : Nat) : Int) by omega]
  refine (build_pure (R + R') C' 63 #[.pointer (some ⟨w.heap.size, 0, none⟩), .pointer (some ⟨w.heap.size + 1, 0, none⟩)] (fun i j => if i < R then orNoneV R C l i j else orNoneV R' C' l' ((i : Int) - (R : Int)) j) _ (by omega) (by omega) (by rw [HT.out]; exact hf) (fun _ _ => by kernel_rfl) ?_).mono ?_
  · intro i j W hi hj hx
    refine below1_any w.heap.size (w.heap.size + 1) R C R' C' A B n cap n' cap' l l' i j W (ABox.ext ?_ hx) (ABox.ext ?_ hx) (h.ext (Ext.trans ?_ hx)) (h'.ext (Ext.trans ?_ hx)) HN.out HN'.out hN hN' (by omega) (by omega) (by omega) _ rfl
    · refine ⟨?_, ?_, ?_, ?_⟩ <;> simp [go_sem]
    · refine ⟨?_, ?_, ?_, ?_⟩ <;> simp [go_sem]
    · exact (by repeat (first | exact Ext.refl _ | exact ext_app _ _ _ _ _ | exact ext_app2 _ _ _ _ _ _ | apply Ext.drew | apply Ext.alloc | apply Ext.more_))
    · exact (by repeat (first | exact Ext.refl _ | exact ext_app _ _ _ _ _ | exact ext_app2 _ _ _ _ _ _ | apply Ext.drew | apply Ext.alloc | apply Ext.more_))
  rintro e w' ⟨D, c', rfl, hs, hc', hb⟩
  obtain ⟨os', d', rfl⟩ := hb.more
  rw [HT.out] at hs hc' ⊢
  rw [HL.out] at hs
  go_wp2
  exact bodyPost_ret (v := .tuple #[AV (R + R' : Nat) (C' : Nat) (.slice D T c'), .bool true]) (by simp [results, Try.results36, go_sem]; done) rfl ⟨D, c', rfl, (by (try simp only [more_more] at hs); (try simp only [drew_more] at hs); (try simp only [more_drew] at hs); (try simp only [Array.append_assoc] at hs); exact Rd.swap hs (by first | (simp; done) | (simp; omega) | omega) (by first | (simp; done) | (simp; omega) | omega) (by first | (simp; done) | (simp; omega) | omega)), hc', by repeat (first | exact Ext.refl _ | exact ext_app _ _ _ _ _ | exact ext_app2 _ _ _ _ _ _ | apply Ext.drew | apply Ext.alloc | apply Ext.more_)⟩
end Go.Proofs.Ytdhdphgecoplbaa
