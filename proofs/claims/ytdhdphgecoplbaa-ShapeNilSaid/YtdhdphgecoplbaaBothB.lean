/- Contract: Both as a whole. -/
import Derived.Test.YtdhdphgecoplbaaBoth
namespace Go.Proofs.Ytdhdphgecoplbaa
open Go.RowKit
def cntB (g : Nat → Nat → Nat) (C k : Nat) : Nat := ((List.range k).map fun t => g (t / C) (t % C)).sum
theorem cntB_succ (g : Nat → Nat → Nat) (C i j : Nat) (hj : j < C) : cntB g C (i * C + j + 1) = cntB g C (i * C + j) + g i j := by
  unfold cntB
  rw [List.range_succ, List.map_append, List.sum_append]
  have h1 : (i * C + j) / C = i := by rw [Nat.add_comm, Nat.add_mul_div_right _ _ (by omega), Nat.div_eq_of_lt hj]; omega
  have h2 : (i * C + j) % C = j := by rw [Nat.add_comm, Nat.add_mul_mod_self_right, Nat.mod_eq_of_lt hj]
  simp [h1, h2]
theorem cntB_le {g : Nat → Nat → Nat} (hg : ∀ i j, g i j ≤ 1) (C : Nat) : ∀ k, cntB g C k ≤ k
  | 0 => by simp [cntB]
  | k + 1 => by
    have ih := cntB_le hg C k
    unfold cntB at *
    rw [List.range_succ, List.map_append, List.sum_append]
    have := hg (k / C) (k % C)
    simp
    omega
theorem bothN_le (a b : Option Val) : bothN a b ≤ 1 := by unfold bothN; split <;> omega
theorem ABox.of_block {pb : Nat} {r c : Int} {A : Option Addr} {n cap : Nat} {W : World} (h : W.heap[pb]? = some (.cells #[.int .i64 r, .int .i64 c, .slice A n cap] 25)) : ABox pb r c A n cap W :=
  ⟨lt_of_block h, cell_of_row _ _ 0 _ _ _ h, cell_of_row _ _ 1 _ _ _ h, cell_of_row _ _ 2 _ _ _ h⟩
def bothG (R C : Nat) (l : List Val) (R' C' : Nat) (l' : List Val) (i j : Nat) : Nat := bothN (spreadO R C l i j) (spreadO R' C' l' i j)
def bothL (t : Val → Val → Val) (R C : Nat) (l : List Val) (R' C' : Nat) (l' : List Val) : List Val := vals (fun i j => bothV t (spreadO R C l i j) (spreadO R' C' l' i j)) (max C C') (max R R' * max C C')
set_option maxHeartbeats 2000000 in
theorem both_yes (R C R' C' n cap n' cap' pa : Nat) (A B : Option Addr) (l l' : List Val) (fid : FuncId) (capt : Array Value) (t : Val → Val → Val) (Js : Nat → Nat → World → Prop) (w : World) (h : ArrIn w A n cap l) (h' : ArrIn w B n' cap' l') (hr : rightA R C l = true) (hr' : rightA R' C' l' = true) (hf : max R R' * max C C' ≤ 4096) (hpa : pa < w.heap.size) (hA : ∀ b off, A = some ⟨b, off, none⟩ → b ≠ pa) (hB : ∀ b off, B = some ⟨b, off, none⟩ → b ≠ pa)
    (hent : ∀ (args : Array Value) (W : World), (callFunc fid args).run Try.prog W = .ok (.enter fid args) W) (spec : ∀ s0, w.heap.size ≤ s0 → FSpec2 fid capt t w.heap.size (s0 + 3) pa (Js s0)) (hJ0 : ∀ s0, w.heap.size ≤ s0 → Js s0 0 w) :
    Calls Try.prog 41 #[AV R C (.slice A n cap), AV R' C' (.slice B n' cap'), .func (.func fid) #[] capt] w fun e w' => ∃ D c s0, e = .returned (AV (max R R' : Nat) (max C C' : Nat) (.slice D (max R R' * max C C') c)) ∧ SlV w.heap.size w' D (bothL t R C l R' C' l') ∧ max R R' * max C C' ≤ c ∧ w.heap.size ≤ s0 ∧ Js s0 (cntB (bothG R C l R' C' l') (max C C') (max R R' * max C C')) w' ∧ ExtBut pa w w' := by
  obtain ⟨r1, r2, r3, r4, r5, r6⟩ := right_bd hr
  obtain ⟨s1, s2, s3, s4, s5, s6⟩ := right_bd hr'
  have hln := h.len
  have hln' := h'.len
  have HN := Lib.hid (And.intro (show n = R * C by omega) (show n' = R' * C' by omega))
  have hN : n ≤ 4096 := by omega
  have hN' : n' ≤ 4096 := by omega
  have HL := Lib.hid (And.intro r4 s4)
  have HCM : Hid ((commonO R C R' C').getD (0, 0) = (max R R', max C C') ∧ (commonO R C R' C').isSome = true) := by show _ ∧ _; simp [commonO, hf]
  unfold bothL
  have hm1 : 1 ≤ max R R' := by omega
  have hm2 : 1 ≤ max C C' := by omega
  have hm3 : max R R' ≤ 4096 := by omega
  have hm4 : max C C' ≤ 4096 := by omega
  generalize max R R' = M at *
  generalize max C C' = N at *
  clear r3 r4 s3 s4 hln hln'
  have HS := Lib.hid spec
  have HJ := Lib.hid hJ0
  have HA := Lib.hid (And.intro hA hB)
  clear spec hJ0 hA hB
  go_enter Try.func41, Try.ntmps41
  go_wp2_with fail
  refine (right_any _ _ _ _ _ _ _ (h.ext (by repeat (first | with_reducible exact Ext.refl _ | with_reducible exact hX | with_reducible exact ext_d _ _ _ _ | with_reducible exact ext_app _ _ _ _ _ | ((with_reducible refine ext_suffix ⟨_, ?_⟩); (try simp only [Array.append_assoc]); rfl) | with_reducible apply Ext.drew | with_reducible apply Ext.alloc | with_reducible apply Ext.more_)))).mono ?_; rintro e w' ⟨rfl, hb⟩; obtain ⟨os1, d1, rfl⟩ := hb.more; clear hb
  go_wp2_with fail
  refine (right_any _ _ _ _ _ _ _ (h'.ext (by repeat (first | with_reducible exact Ext.refl _ | with_reducible exact hX | with_reducible exact ext_d _ _ _ _ | with_reducible exact ext_app _ _ _ _ _ | ((with_reducible refine ext_suffix ⟨_, ?_⟩); (try simp only [Array.append_assoc]); rfl) | with_reducible apply Ext.drew | with_reducible apply Ext.alloc | with_reducible apply Ext.more_)))).mono ?_; rintro e w' ⟨rfl, hb⟩; obtain ⟨os2, d2, rfl⟩ := hb.more; clear hb
  go_wp2_with fail
  refine (common_c R C R' C' _ _ _ _ _ _ l l' _ (h.ext (by repeat (first | with_reducible exact Ext.refl _ | with_reducible exact hX | with_reducible exact ext_d _ _ _ _ | with_reducible exact ext_app _ _ _ _ _ | ((with_reducible refine ext_suffix ⟨_, ?_⟩); (try simp only [Array.append_assoc]); rfl) | with_reducible apply Ext.drew | with_reducible apply Ext.alloc | with_reducible apply Ext.more_))) (h'.ext (by repeat (first | with_reducible exact Ext.refl _ | with_reducible exact hX | with_reducible exact ext_d _ _ _ _ | with_reducible exact ext_app _ _ _ _ _ | ((with_reducible refine ext_suffix ⟨_, ?_⟩); (try simp only [Array.append_assoc]); rfl) | with_reducible apply Ext.drew | with_reducible apply Ext.alloc | with_reducible apply Ext.more_))) hr hr' M N true HCM.out.1 HCM.out.2).mono ?_; rintro e w' ⟨rfl, hb⟩; obtain ⟨os3, d3, rfl⟩ := hb.more; clear hb
  go_wp2_with fail
  refine calls_world fun W hW => ?_
  have hX : Ext w W := by rw [hW]; exact by repeat (first | with_reducible exact Ext.refl _ | with_reducible exact hX | with_reducible exact ext_d _ _ _ _ | with_reducible exact ext_app _ _ _ _ _ | ((with_reducible refine ext_suffix ⟨_, ?_⟩); (try simp only [Array.append_assoc]); rfl) | with_reducible apply Ext.drew | with_reducible apply Ext.alloc | with_reducible apply Ext.more_)
  have hbx : W.heap[w.heap.size]? = some (.cells #[.int .i64 R, .int .i64 C, .slice A n cap] 25) := by
    rw [hW, (ext_more _ _ _).block (by first | (simp; done) | (simp; omega) | omega), Below.heap_alloc _ _ _ (by first | (simp; done) | (simp; omega) | omega), Below.heap_alloc _ _ _ (by first | (simp; done) | (simp; omega) | omega), Below.heap_alloc _ _ _ (by first | (simp; done) | (simp; omega) | omega)]
    exact heap_alloc_new _ _
  have hby : W.heap[w.heap.size + 1]? = some (.cells #[.int .i64 R', .int .i64 C', .slice B n' cap'] 25) := by
    rw [hW, (ext_more _ _ _).block (by first | (simp; done) | (simp; omega) | omega), Below.heap_alloc _ _ _ (by first | (simp; done) | (simp; omega) | omega), Below.heap_alloc _ _ _ (by first | (simp; done) | (simp; omega) | omega)]
    have := heap_alloc_new (w.alloc (.cells #[.int .i64 R, .int .i64 C, .slice A n cap] 25)) (.cells #[.int .i64 R', .int .i64 C', .slice B n' cap'] 25)
    simpa using this
  have hfx : W.heap[w.heap.size + 1 + 1]? = some (.cells #[.func (.func fid) #[] capt] 58) := by
    rw [hW, (ext_more _ _ _).block (by first | (simp; done) | (simp; omega) | omega), Below.heap_alloc _ _ _ (by first | (simp; done) | (simp; omega) | omega)]
    have := heap_alloc_new ((w.alloc (.cells #[.int .i64 R, .int .i64 C, .slice A n cap] 25)).alloc (.cells #[.int .i64 R', .int .i64 C', .slice B n' cap'] 25)) (.cells #[.func (.func fid) #[] capt] 58)
    simpa using this
  have hrx : W.heap[w.heap.size + 1 + 1 + 1]? = some (.cells #[.int .i64 0, .int .i64 0, .slice none 0 0] 25) := by
    rw [hW, (ext_more _ _ _).block (by first | (simp; done) | (simp; omega) | omega)]
    have := heap_alloc_new (((w.alloc (.cells #[.int .i64 R, .int .i64 C, .slice A n cap] 25)).alloc (.cells #[.int .i64 R', .int .i64 C', .slice B n' cap'] 25)).alloc (.cells #[.func (.func fid) #[] capt] 58)) (.cells #[.int .i64 0, .int .i64 0, .slice none 0 0] 25)
    simpa using this
  clear hW
  have hws := hX.size
  have sp := HS.out W.heap.size hws
  have z0 := lt_of_block hrx
  refine (build_any M N 65 #[.pointer (some ⟨w.heap.size, 0, none⟩), .pointer (some ⟨w.heap.size + 1, 0, none⟩), .pointer (some ⟨w.heap.size + 1 + 1, 0, none⟩)] (fun i j => bothV t (spreadO R C l i j) (spreadO R' C' l' i j)) W (fun k V => Js W.heap.size (cntB (bothG R C l R' C' l') N k) V ∧ ExtBut pa W V) hm1 hm2 hf hm3 hm4 (fun _ _ => by kernel_rfl) ⟨?_, ?_⟩ ?_ ?_).mono ?_
  · exact sp.ext _ _ _ hX (HJ.out _ hws)
  · exact ExtBut.of_ext (Ext.refl _)
  · rintro k V V' hk ⟨g1, g2⟩
    refine ⟨sp.keep _ _ _ (by simpa using hk) g1, hk.os.trans g2.os, hk.tape.trans g2.tape, hk.output.trans g2.output, Nat.le_trans g2.size hk.size, fun b hb hne => ?_⟩
    exact (hk.block b (Nat.lt_of_lt_of_le hb g2.size) (by omega) (by omega) (by omega)).trans (g2.block b hb hne)
  · rintro i j V hi hj ⟨g1, g2⟩ hsz
    have hkk := cell_prod M hi hj hf
    have hcl := cntB_le (g := bothG R C l R' C' l') (fun _ _ => bothN_le _ _) N (i * N + j)
    have cA := ABox.of_block ((g2.block w.heap.size (by omega) (by omega)).trans hbx)
    have cB := ABox.of_block ((g2.block (w.heap.size + 1) (by omega) (by omega)).trans hby)
    have cF := cell_of_row _ _ 0 _ _ _ ((g2.block (w.heap.size + 1 + 1) (by omega) (by omega)).trans hfx)
    have aA := (h.ext hX).but g2 HA.out.1
    have aB := (h'.ext hX).but g2 HA.out.2
    have fin : ∀ V', Js W.heap.size (cntB (bothG R C l R' C' l') N (i * N + j) + bothG R C l R' C' l' i j) V' → Still (W.heap.size + 3) pa V V V' → (Js W.heap.size (cntB (bothG R C l R' C' l') N (i * N + j + 1)) V' ∧ ExtBut pa W V') ∧ Leaves W.heap.size V V' := by
      intro V' hJ1 hst
      refine ⟨⟨by rw [cntB_succ _ _ _ _ hj]; exact hJ1, ⟨hst.os.trans g2.os, hst.tape.trans g2.tape, hst.output.trans g2.output, Nat.le_trans g2.size hst.size, fun b' hb' hne => (hst.block b' (Nat.lt_of_lt_of_le hb' g2.size) (.inl ⟨by omega, hne⟩)).trans (g2.block b' hb' hne)⟩⟩, ?_⟩
      exact ⟨hst.size, hst.block _ (by omega) (.inl ⟨by omega, by omega⟩), hst.block _ (by omega) (.inl ⟨by omega, by omega⟩), hst.block _ (by omega) (.inl ⟨by omega, by omega⟩)⟩
    have non : (spreadO R C l i j = none ∨ spreadO R' C' l' i j = none) → bothV t (spreadO R C l i j) (spreadO R' C' l' i j) = badV 6 ∧ bothG R C l R' C' l' i j = 0 := by
      intro hno
      unfold bothG bothN bothV
      rcases hno with e | e
      · rw [e]; simp
      · rw [e]; cases spreadO R C l i j <;> simp
    have nonc : (spreadO R C l i j = none ∨ spreadO R' C' l' i j = none) → Calls Try.prog 65 (#[.int .i64 i, .int .i64 j] ++ #[.pointer (some ⟨w.heap.size, 0, none⟩), .pointer (some ⟨w.heap.size + 1, 0, none⟩), .pointer (some ⟨w.heap.size + 1 + 1, 0, none⟩)]) V fun e W' => e = .returned (VV (bothV t (spreadO R C l i j) (spreadO R' C' l' i j)).kind (bothV t (spreadO R C l i j) (spreadO R' C' l' i j)).mant (bothV t (spreadO R C l i j) (spreadO R' C' l' i j)).exp (bothV t (spreadO R C l i j) (spreadO R' C' l' i j)).text (bothV t (spreadO R C l i j) (spreadO R' C' l' i j)).truth (bothV t (spreadO R C l i j) (spreadO R' C' l' i j)).fault) ∧ (Js W.heap.size (cntB (bothG R C l R' C' l') N (i * N + j + 1)) W' ∧ ExtBut pa W W') ∧ Leaves W.heap.size V W' := by
      intro hno
      obtain ⟨e1, e2⟩ := non hno
      refine (both1_none R C R' C' i j n cap n' cap' w.heap.size (w.heap.size + 1) (w.heap.size + 1 + 1) A B l l' V cA cB aA aB HN.out.1 HN.out.2 hN hN' hno).mono ?_
      rintro e V' ⟨rfl, hxx⟩
      rw [e1]
      exact ⟨rfl, fin V' (by rw [e2]; exact sp.ext _ _ _ hxx g1) (Still.of_ext hxx)⟩
    cases ha : spreadO R C l i j with
    | none => rw [← ha]; exact nonc (.inl ha)
    | some x =>
      cases hb : spreadO R' C' l' i j with
      | none => rw [← ha, ← hb]; exact nonc (.inr hb)
      | some y =>
        refine (both1_some fid capt t w.heap.size W.heap.size pa (Js W.heap.size) sp hent R C R' C' i j n cap n' cap' w.heap.size (w.heap.size + 1) (w.heap.size + 1 + 1) (cntB (bothG R C l R' C' l') N (i * N + j)) A B l l' x y V cA cB cF aA aB HN.out.1 HN.out.2 hN hN' g1 hsz (by omega) ha hb (spread_ok HL.out.1 h.ok ha) (spread_ok HL.out.2 h'.ok hb)).mono ?_
        rintro e V' ⟨he, hJ1, hst⟩
        have e2 : bothG R C l R' C' l' i j = 1 := by unfold bothG bothN; rw [ha, hb]; rfl
        exact ⟨he, fin V' (by rw [e2]; exact hJ1) hst⟩
  rintro e w' ⟨D, c, rfl, hs, hc, g1, g2⟩
  have hr1 : w'.heap[w.heap.size + 1 + 1 + 1]? = some (.cells #[.int .i64 0, .int .i64 0, .slice none 0 0] 25) := (g2.block _ (by omega) (by omega)).trans hrx
  have q0 := cell_of_row _ _ 0 _ _ _ hr1
  have q1 := cell_of_row _ _ 1 _ _ _ hr1
  have q2 := cell_of_row _ _ 2 _ _ _ hr1
  have f0 := frozen_of_row _ _ 0 _ _ hr1
  have f1 := frozen_of_row _ _ 1 _ _ hr1
  have f2 := frozen_of_row _ _ 2 _ _ hr1
  have hg2 := Lib.hid g2
  clear g2 hbx hby hfx hrx
  go_wp2
  refine bodyPost_ret (v := AV M N (.slice D (M * N) c)) (by simp [results, Try.results41, go_sem, q0, q1, q2]; done) rfl ⟨D, c, W.heap.size, rfl, ?_, hc, hws, ?_, ?_⟩
  · exact Rd.mono (((hs.set_far _ (by simp; omega)).set_far _ (by simp; omega)).set_far _ (by simp; omega)) (by omega)
  · exact sp.far _ _ _ _ (by simp only; omega) (by simp only; omega) (sp.far _ _ _ _ (by simp only; omega) (by simp only; omega) (sp.far _ _ _ _ (by simp only; omega) (by simp only; omega) g1))
  · exact ((((ExtBut.of_ext hX).trans hg2.out).set _ (by simp only; omega)).set _ (by simp only; omega)).set _ (by simp only; omega)
end Go.Proofs.Ytdhdphgecoplbaa
