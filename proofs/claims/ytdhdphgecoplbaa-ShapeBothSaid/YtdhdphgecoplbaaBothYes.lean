/- The law ShapeBoth, where there is a common shape: its walk. -/
import Derived.Test.YtdhdphgecoplbaaBothLaw
namespace Go.Proofs.Ytdhdphgecoplbaa
open Go.RowKit
theorem low_block {w : World} {A : Option Addr} {n cap : Nat} {l : List Val} (h : ArrIn w A n cap l) {pb : Nat} (hp : w.heap.size ≤ pb) : 0 < n → ∀ b off, A = some ⟨b, off, none⟩ → b ≠ pb := by
  intro hn b off e
  obtain ⟨b', off', e', hv, _⟩ := h.get (k := 0) hn
  rw [e] at e'
  simp only [Option.some.injEq, Addr.mk.injEq, and_true] at e'
  have := hv.lt
  omega
/-- What the document says of one place. -/
def wantV (by_ : Int) (oa ob : Option Val) : Val := match oa, ob with
  | some x, some y => refOneV (manyT by_ x y)
  | _, _ => badV 6
theorem want_eq {by_ : Int} {oa ob : Option Val} (ha : ∀ x, oa = some x → x.ok) (hb : ∀ y, ob = some y → y.ok) : bothV (manyT by_) oa ob = wantV by_ oa ob := by
  cases oa with
  | none => rfl
  | some x =>
    cases ob with
    | none => rfl
    | some y =>
      show oneV _ = refOneV _
      unfold oneV refOneV; rw [right_eq _ (manyT_ok by_ x y (ha x rfl) (hb y rfl))]
set_option maxRecDepth 100000 in
set_option maxHeartbeats 4000000 in
theorem bothLaw_yes (R1 C1 R2 C2 : Nat) (by_ : Int) (A1 A2 : Option Addr) (n1 cap1 n2 cap2 : Nat) (l1 l2 : List Val) (w : World) (h1 : ArrIn w A1 n1 cap1 l1) (h2 : ArrIn w A2 n2 cap2 l2) (hr1 : rightA R1 C1 l1 = true) (hr2 : rightA R2 C2 l2 = true) (hf : max R1 R2 * max C1 C2 ≤ 4096) (hb0 : 0 ≤ by_) (hb1 : by_ ≤ 255) :
    Calls Try.prog 9 #[AV R1 C1 (.slice A1 n1 cap1), AV R2 C2 (.slice A2 n2 cap2), .int .u8 by_] w fun e w' => e = .returned (.bool true) ∧ Ext w w' := by
  have hf1 : refRightA R1 C1 l1 = true := by rw [← rightA_eq _ _ l1 h1.ok]; exact hr1
  have hf2 : refRightA R2 C2 l2 = true := by rw [← rightA_eq _ _ l2 h2.ok]; exact hr2
  obtain ⟨i0, hi0, hz0, hz1, hz2⟩ := info_parts info_val
  obtain ⟨a1, a2, a3, a4, a5, a6⟩ := right_bd hr1
  obtain ⟨b1, b2, b3, b4, b5, b6⟩ := right_bd hr2
  have HN := Lib.hid (And.intro (show n1 = R1 * C1 by have := h1.len; omega) (show n2 = R2 * C2 by have := h2.len; omega))
  have hN1 : n1 ≤ 4096 := by have := HN.out; omega
  have hN2 : n2 ≤ 4096 := by have := HN.out; omega
  have hp1 : 0 < n1 := by have := HN.out.1; have := Nat.mul_le_mul a1 a2; omega
  have hp2 : 0 < n2 := by have := HN.out.2; have := Nat.mul_le_mul b1 b2; omega
  have HL := Lib.hid (And.intro a4 b4)
  have HCM : Hid ((commonO R1 C1 R2 C2).getD (0, 0) = (max R1 R2, max C1 C2) ∧ (commonO R1 C1 R2 C2).isSome = true) := by show _ ∧ _; simp [commonO, hf]
  have HBY := Lib.hid (both_yes R1 C1 R2 C2 n1 cap1 n2 cap2)
  clear a3 a4 b3 b4
  have hent : ∀ (args : Array Value) (W : World), (callFunc 42 args).run Try.prog W = .ok (.enter 42 args) W := fun args W => by go_simp
  have HF := Lib.hid hf
  have hm1 : 1 ≤ max R1 R2 := by omega
  have hm2 : 1 ≤ max C1 C2 := by omega
  have hm3 : max R1 R2 ≤ 4096 := by omega
  have hm4 : max C1 C2 ≤ 4096 := by omega
  have HG : Hid (bothL (manyT by_) R1 C1 l1 R2 C2 l2 = vals (fun i j => wantV by_ (spreadO R1 C1 l1 i j) (spreadO R2 C2 l2 i j)) (max C1 C2) (max R1 R2 * max C1 C2)) := by
    show _ = _
    unfold bothL
    congr 1
    funext i j
    exact want_eq (fun x e => spread_ok HL.out.1 h1.ok e) (fun y e => spread_ok HL.out.2 h2.ok e)
  have HOK := Lib.hid (bothL_ok (manyT_ok by_) HL.out.1 HL.out.2 h1.ok h2.ok)
  go_enter Try.func9, Try.ntmps9
  go_wp2_with fail
  refine (awake_any _).mono ?_; rintro e w' ⟨rfl, hb⟩; obtain ⟨os1, d1, rfl⟩ := hb.more; clear hb
  go_wp2_with fail
  refine (small_any _ _ _ _ _ _ _ (h1.ext (by repeat (first | with_reducible exact Ext.refl _ | with_reducible exact hX | with_reducible exact ext_d _ _ _ _ | with_reducible exact ext_app _ _ _ _ _ | with_reducible exact ext_app2 _ _ _ _ _ _ | with_reducible exact ext_app3 _ _ _ _ _ _ _ | with_reducible exact ext_app4 _ _ _ _ _ _ _ _ | with_reducible apply Ext.drew | with_reducible apply Ext.alloc | with_reducible apply Ext.more_)))).mono ?_; rintro e w' ⟨sm, rfl, hsm, hb⟩; obtain ⟨os2, d2, rfl⟩ := hb.more; clear hb; rcases hsm with rfl | ⟨rfl, hn, htx⟩; (focus go_wp2; go_ret; exact ⟨rfl, by repeat (first | with_reducible exact Ext.refl _ | with_reducible exact hX | with_reducible exact ext_d _ _ _ _ | with_reducible exact ext_app _ _ _ _ _ | with_reducible exact ext_app2 _ _ _ _ _ _ | with_reducible exact ext_app3 _ _ _ _ _ _ _ | with_reducible exact ext_app4 _ _ _ _ _ _ _ _ | with_reducible apply Ext.drew | with_reducible apply Ext.alloc | with_reducible apply Ext.more_)⟩); clear hn htx; go_wp2_with fail
  refine (small_any _ _ _ _ _ _ _ (h2.ext (by repeat (first | with_reducible exact Ext.refl _ | with_reducible exact hX | with_reducible exact ext_d _ _ _ _ | with_reducible exact ext_app _ _ _ _ _ | with_reducible exact ext_app2 _ _ _ _ _ _ | with_reducible exact ext_app3 _ _ _ _ _ _ _ | with_reducible exact ext_app4 _ _ _ _ _ _ _ _ | with_reducible apply Ext.drew | with_reducible apply Ext.alloc | with_reducible apply Ext.more_)))).mono ?_; rintro e w' ⟨sm, rfl, hsm, hb⟩; obtain ⟨os3, d3, rfl⟩ := hb.more; clear hb; rcases hsm with rfl | ⟨rfl, hn, htx⟩; (focus go_wp2; go_ret; exact ⟨rfl, by repeat (first | with_reducible exact Ext.refl _ | with_reducible exact hX | with_reducible exact ext_d _ _ _ _ | with_reducible exact ext_app _ _ _ _ _ | with_reducible exact ext_app2 _ _ _ _ _ _ | with_reducible exact ext_app3 _ _ _ _ _ _ _ | with_reducible exact ext_app4 _ _ _ _ _ _ _ _ | with_reducible apply Ext.drew | with_reducible apply Ext.alloc | with_reducible apply Ext.more_)⟩); clear hn htx; go_wp2_with fail
  refine calls_world fun W hW => ?_
  have hX0 : Ext w W := by rw [hW]; exact by repeat (first | with_reducible exact Ext.refl _ | with_reducible exact hX | with_reducible exact ext_d _ _ _ _ | with_reducible exact ext_app _ _ _ _ _ | with_reducible exact ext_app2 _ _ _ _ _ _ | with_reducible exact ext_app3 _ _ _ _ _ _ _ | with_reducible exact ext_app4 _ _ _ _ _ _ _ _ | with_reducible apply Ext.drew | with_reducible apply Ext.alloc | with_reducible apply Ext.more_)
  have x1 : W.heap[w.heap.size]? = some (.cells #[.int .i64 R1, .int .i64 C1, .slice A1 n1 cap1] 25) := by
    rw [hW, Below.heap_alloc _ _ _ (by first | (simp; done) | (simp; omega) | omega), (ext_more _ _ _).block (by first | (simp; done) | (simp; omega) | omega), Below.heap_alloc _ _ _ (by first | (simp; done) | (simp; omega) | omega), Below.heap_alloc _ _ _ (by first | (simp; done) | (simp; omega) | omega)]
    exact heap_alloc_new _ _
  have x2 : W.heap[w.heap.size + 1]? = some (.cells #[.int .i64 R2, .int .i64 C2, .slice A2 n2 cap2] 25) := by
    rw [hW, Below.heap_alloc _ _ _ (by first | (simp; done) | (simp; omega) | omega), (ext_more _ _ _).block (by first | (simp; done) | (simp; omega) | omega), Below.heap_alloc _ _ _ (by first | (simp; done) | (simp; omega) | omega)]
    have := heap_alloc_new (w.alloc (.cells #[.int .i64 R1, .int .i64 C1, .slice A1 n1 cap1] 25)) (.cells #[.int .i64 R2, .int .i64 C2, .slice A2 n2 cap2] 25)
    simpa using this
  have x3 : W.heap[w.heap.size + 1 + 1]? = some (.cells #[.int .u8 by_] 5) := by
    rw [hW, Below.heap_alloc _ _ _ (by first | (simp; done) | (simp; omega) | omega), (ext_more _ _ _).block (by first | (simp; done) | (simp; omega) | omega)]
    have := heap_alloc_new ((w.alloc (.cells #[.int .i64 R1, .int .i64 C1, .slice A1 n1 cap1] 25)).alloc (.cells #[.int .i64 R2, .int .i64 C2, .slice A2 n2 cap2] 25)) (.cells #[.int .u8 by_] 5)
    simpa using this
  have x4 : W.heap[w.heap.size + 1 + 1 + 1 + (os1.size + (os2.size + os3.size))]? = some (.cells #[.int .i64 (0 : Nat)] 3) := by
    rw [hW]
    have := heap_alloc_new (more (((w.alloc (.cells #[.int .i64 R1, .int .i64 C1, .slice A1 n1 cap1] 25)).alloc (.cells #[.int .i64 R2, .int .i64 C2, .slice A2 n2 cap2] 25)).alloc (.cells #[.int .u8 by_] 5)) (os1 ++ (os2 ++ os3)) d3) (.cells #[.int .i64 0] 3)
    simpa using this
  have hpl : w.heap.size + 1 + 1 < w.heap.size + 1 + 1 + 1 + (os1.size + (os2.size + os3.size)) := by omega
  clear hW
  generalize w.heap.size + 1 + 1 + 1 + (os1.size + (os2.size + os3.size)) = pm at *
  clear os1 os2 os3 d1 d2 d3
  have z3 := lt_of_block x4
  refine (HBY.out pm A1 A2 l1 l2 _ _ (manyT by_) (fun s0 k V => V.heap[pm]? = some (.cells #[.int .i64 k] 3) ∧ V.cell? ⟨w.heap.size + 1 + 1, 0, none⟩ = some (.int .u8 by_)) W (h1.ext hX0) (h2.ext hX0) hr1 hr2 HF.out z3 (low_block h1 (by omega) hp1) (low_block h2 (by omega) hp2) hent (fun s0 hs => many_spec W.heap.size s0 pm (w.heap.size + 1 + 1) by_ hs (by omega) z3 (by omega) hb0 hb1) (fun s0 hs => ⟨x4, cell_of_row _ _ 0 _ _ _ x3⟩)).mono ?_
  rintro e V ⟨D, c, s0, rfl, hDs, hc, hs0, ⟨hmany, hby⟩, hbut⟩
  have hDok := HOK.out
  have hDlen := bothL_length (manyT by_) R1 C1 l1 R2 C2 l2
  rw [HG.out] at hDs hDok hDlen
  have HCM2 := Lib.hid HCM.out
  generalize max R1 R2 = M at *
  generalize max C1 C2 = N at *
  have hMN := HF.out
  have hX : Ext w V := ⟨hbut.os.trans hX0.os, hbut.tape.trans hX0.tape, hbut.output.trans hX0.output, Nat.le_trans hX0.size hbut.size, fun b hb => (hbut.block b (Nat.lt_of_lt_of_le hb hX0.size) (by omega)).trans (hX0.block hb)⟩
  have t1 := (hbut.block w.heap.size (by omega) (by omega)).trans x1
  have t2 := (hbut.block (w.heap.size + 1) (by omega) (by omega)).trans x2
  have p0 := cell_of_row _ _ 0 _ _ _ t1
  have p1 := cell_of_row _ _ 1 _ _ _ t1
  have p2 := cell_of_row _ _ 2 _ _ _ t1
  have q0 := cell_of_row _ _ 0 _ _ _ t2
  have q1 := cell_of_row _ _ 1 _ _ _ t2
  have q2 := cell_of_row _ _ 2 _ _ _ t2
  have cm := cell_of_row _ _ 0 _ _ _ hmany
  have zV : pm < V.heap.size := lt_of_block hmany
  have zV0 : w.heap.size < V.heap.size := by omega
  have zV1 : w.heap.size + 1 < V.heap.size := by omega
  have zV2 : w.heap.size + 1 + 1 < V.heap.size := by omega
  have hA := h1.ext hX
  have hB := h2.ext hX
  generalize hGG : (fun i j => wantV by_ (spreadO R1 C1 l1 i j) (spreadO R2 C2 l2 i j)) = GG at *
  have HGG := Lib.hid hGG
  generalize hCN : cntB (bothG R1 C1 l1 R2 C2 l2) N (M * N) = CN at *
  have HCN := Lib.hid hCN
  have hD : ArrIn V D (M * N) c (vals GG N (M * N)) := ⟨Rd.mono hDs (Nat.zero_le _), vals_length _ _ _, hc, by omega, hDok⟩
  clear x1 x2 x3 x4 t1 t2 hbut hDs hX0 z3 hmany hGG hCN HBY HG HOK HF HCM hDok hDlen
  have hs1 : sameA M N (vals GG N (M * N)) M N (vals GG N (M * N)) = true := by simp [sameA]
  go_wp2_with fail
  refine (refRightA_any _ _ _ _ _ _ _ (hA.ext (by repeat (first | with_reducible exact Ext.refl _ | with_reducible exact hX | with_reducible exact ext_d _ _ _ _ | with_reducible exact ext_app _ _ _ _ _ | with_reducible exact ext_app2 _ _ _ _ _ _ | with_reducible exact ext_app3 _ _ _ _ _ _ _ | with_reducible exact ext_app4 _ _ _ _ _ _ _ _ | with_reducible apply Ext.drew | with_reducible apply Ext.alloc | with_reducible apply Ext.more_)))).mono ?_; rintro e w' ⟨rfl, hb⟩; obtain ⟨os6, d6, rfl⟩ := hb.more; clear hb
  go_wp2_with fail
  refine (refRightA_any _ _ _ _ _ _ _ (hB.ext (by repeat (first | with_reducible exact Ext.refl _ | with_reducible exact hX | with_reducible exact ext_d _ _ _ _ | with_reducible exact ext_app _ _ _ _ _ | with_reducible exact ext_app2 _ _ _ _ _ _ | with_reducible exact ext_app3 _ _ _ _ _ _ _ | with_reducible exact ext_app4 _ _ _ _ _ _ _ _ | with_reducible apply Ext.drew | with_reducible apply Ext.alloc | with_reducible apply Ext.more_)))).mono ?_; rintro e w' ⟨rfl, hb⟩; obtain ⟨os7, d7, rfl⟩ := hb.more; clear hb
  go_wp2_with fail
  refine (refCommon_c R1 C1 R2 C2 _ _ _ _ _ _ _ ⟨a1, a5⟩ ⟨a2, a6⟩ ⟨b1, b5⟩ ⟨b2, b6⟩ M N true HCM2.out.1 HCM2.out.2).mono ?_; rintro e w' ⟨rfl, hb⟩; obtain ⟨os8, d8, rfl⟩ := hb.more; clear hb
  go_wp2_with fail
  have hst := Acc.start (more (V.alloc (.cells #[.int .i64 M, .int .i64 N, .slice D (M * N) c] 25)) (os6 ++ (os7 ++ os8)) d8) M N
  have hsz0 : (more (V.alloc (.cells #[.int .i64 M, .int .i64 N, .slice D (M * N) c] 25)) (os6 ++ (os7 ++ os8)) d8).heap.size = V.heap.size + 1 + (os6.size + (os7.size + os8.size)) := by simp
  rw [hsz0] at hst
  generalize hps : V.heap.size + 1 + (os6.size + (os7.size + os8.size)) = ps at *
  have hpsV : V.heap.size < ps := by omega
  clear hps hsz0
  go_loopw [13, 70] (fun kk i wr => ∃ (r cp : Nat) (G : Option Addr), r ≤ M ∧ kk = .int .i64 (cntB (bothG R1 C1 l1 R2 C2 l2) N (r * N) : Nat) ∧ i = .int .i64 r ∧ Acc (more (V.alloc (.cells #[.int .i64 M, .int .i64 N, .slice D (M * N) c] 25)) (os6 ++ (os7 ++ os8)) d8) ps M N G cp (r * N) (vals GG N (r * N)) wr) (fun _ i _ => M - (intOf i).toNat)
  case atStart => exact ⟨0, 0, none, Nat.zero_le _, by simp [cntB], rfl, by simpa [vals] using hst⟩
  case round =>
    clear hst
    obtain ⟨r, cp, G, hr, rfl, rfl, hacc⟩ := hrel
    by_cases hlt : r < M
    · go_wp2
      obtain ⟨wo, rfl⟩ : ∃ wo : World, wo = wr := ⟨_, rfl⟩
      go_loopw [13, 74] (fun kk i wr => ∃ (j cp : Nat) (G : Option Addr), j ≤ N ∧ kk = .int .i64 (cntB (bothG R1 C1 l1 R2 C2 l2) N (r * N + j) : Nat) ∧ i = .int .i64 j ∧ Acc (more (V.alloc (.cells #[.int .i64 M, .int .i64 N, .slice D (M * N) c] 25)) (os6 ++ (os7 ++ os8)) d8) ps M N G cp (r * N + j) (vals GG N (r * N + j)) wr) (fun _ i _ => N - (intOf i).toNat)
      case atStart => exact ⟨0, cp, G, Nat.zero_le _, by simp, rfl, by simpa using hacc⟩
      case round =>
        clear hacc
        obtain ⟨j, cp, G, hj, rfl, rfl, hacc⟩ := hrel
        have hlt0 := hacc.lt
        by_cases hjt : j < N
        · have hVW : Ext V wr := Ext.trans (show Ext V (more (V.alloc (.cells #[.int .i64 M, .int .i64 N, .slice D (M * N) c] 25)) (os6 ++ (os7 ++ os8)) d8) from by repeat (first | with_reducible exact Ext.refl _ | with_reducible exact hX | with_reducible exact ext_d _ _ _ _ | with_reducible exact ext_app _ _ _ _ _ | with_reducible exact ext_app2 _ _ _ _ _ _ | with_reducible exact ext_app3 _ _ _ _ _ _ _ | with_reducible exact ext_app4 _ _ _ _ _ _ _ _ | with_reducible apply Ext.drew | with_reducible apply Ext.alloc | with_reducible apply Ext.more_)) hacc.ext
          have hk := (cell_prod M hlt hjt hMN).1
          have hcl := cntB_le (g := bothG R1 C1 l1 R2 C2 l2) (fun _ _ => bothN_le _ _) N (r * N + j)
          have g0 := hVW.cell_some p0
          have g1 := hVW.cell_some p1
          have g2 := hVW.cell_some p2
          have g3 := hVW.cell_some q0
          have g4 := hVW.cell_some q1
          have g5 := hVW.cell_some q2
          have g6 := hVW.cell_some hby
          have c2' := cell_of_row _ _ 2 _ _ _ hacc.row
          have hsz := hVW.size
          have y0 : w.heap.size < wr.heap.size := by omega
          have y1 : w.heap.size + 1 < wr.heap.size := by omega
          have y2 : w.heap.size + 1 + 1 < wr.heap.size := by omega
          have hA' := hA.ext hVW
          have hB' := hB.ext hVW
          have hGv : GG r j = wantV by_ (spreadO R1 C1 l1 r j) (spreadO R2 C2 l2 r j) := by rw [← HGG.out]
          have hCs := cntB_succ (bothG R1 C1 l1 R2 C2 l2) N r j hjt
          have HV := Lib.hid (And.intro hGv hCs)
          clear hGv hCs p0 p1 p2 q0 q1 q2 hby cm
          generalize hcn : cntB (bothG R1 C1 l1 R2 C2 l2) N (r * N + j) = kn at *
          have HKN := Lib.hid hcn
          clear hcn
          have hkn : kn ≤ 4096 := by omega
          generalize hrj : r * N + j = rj at *
          have HRJ := Lib.hid hrj
          clear hrj
          cases ha : spreadO R1 C1 l1 r j with
          | none =>
            generalize hx : orZero (spreadO R1 C1 l1 r j) = x
            have HA := Lib.hid (And.intro hx (show (spreadO R1 C1 l1 r j).isSome = false by rw [ha]; rfl))
            generalize hy : orZero (spreadO R2 C2 l2 r j) = y
            generalize hkb : (spreadO R2 C2 l2 r j).isSome = kb
            have HB := Lib.hid (And.intro hy hkb)
            have hzz : GG r j = badV 6 := by rw [HV.out.1, ha]; rfl
            have hc1 : cntB (bothG R1 C1 l1 R2 C2 l2) N (rj + 1) = kn := by rw [HV.out.2]; unfold bothG bothN; rw [ha]; rfl
            have HZ := Lib.hid (And.intro hzz hc1)
            clear hzz hc1 ha hx hy hkb
            go_wp2_with fail
            refine (refAt_c R1 C1 r j A1 n1 cap1 l1 _ (hA'.ext (by repeat (first | with_reducible exact Ext.refl _ | with_reducible exact hX | with_reducible exact ext_d _ _ _ _ | with_reducible exact ext_app _ _ _ _ _ | with_reducible exact ext_app2 _ _ _ _ _ _ | with_reducible exact ext_app3 _ _ _ _ _ _ _ | with_reducible exact ext_app4 _ _ _ _ _ _ _ _ | with_reducible apply Ext.drew | with_reducible apply Ext.alloc | with_reducible apply Ext.more_))) HN.out.1 hN1 x false HA.out.1 HA.out.2).mono ?_; rintro e w' ⟨rfl, hb⟩; obtain ⟨os11, d11, rfl⟩ := hb.more; clear hb
            go_wp2_with fail
            refine (refAt_c R2 C2 r j A2 n2 cap2 l2 _ (hB'.ext (by repeat (first | with_reducible exact Ext.refl _ | with_reducible exact hX | with_reducible exact ext_d _ _ _ _ | with_reducible exact ext_app _ _ _ _ _ | with_reducible exact ext_app2 _ _ _ _ _ _ | with_reducible exact ext_app3 _ _ _ _ _ _ _ | with_reducible exact ext_app4 _ _ _ _ _ _ _ _ | with_reducible apply Ext.drew | with_reducible apply Ext.alloc | with_reducible apply Ext.more_))) HN.out.2 hN2 y kb HB.out.1 HB.out.2).mono ?_; rintro e w' ⟨rfl, hb⟩; obtain ⟨os12, d12, rfl⟩ := hb.more; clear hb
            go_wp2_with (at_builtin; refine wpList_append_own _ rfl _ _ _ rfl _ 34 i0 (VV 0 0 0 ⟨#[]⟩ false 0) 6 56 Try.underlying22 hi0 hz0 hz1 hz2 rfl (by decide) _ _ _ rfl (own_ext hacc.own (by repeat (first | with_reducible exact Ext.refl _ | with_reducible exact hX | with_reducible exact ext_d _ _ _ _ | with_reducible exact ext_app _ _ _ _ _ | with_reducible exact ext_app2 _ _ _ _ _ _ | with_reducible exact ext_app3 _ _ _ _ _ _ _ | with_reducible exact ext_app4 _ _ _ _ _ _ _ _ | with_reducible apply Ext.drew | with_reducible apply Ext.alloc | with_reducible apply Ext.more_))) _ 1 1 (Val.cells (badV 6)) rfl rfl (new_cells_at _ _ _ (by simp) rfl _) (cells_one _) (by simp only [maxLen]; omega) (by omega) (by have := hacc.lt; simp; omega) ?_; intro v3 w3 ho3 hg3 _; obtain ⟨A2', cap2', rfl, hrow3, hex3, hacc2⟩ := hacc.step (by repeat (first | with_reducible exact Ext.refl _ | with_reducible exact hX | with_reducible exact ext_d _ _ _ _ | with_reducible exact ext_app _ _ _ _ _ | with_reducible exact ext_app2 _ _ _ _ _ _ | with_reducible exact ext_app3 _ _ _ _ _ _ _ | with_reducible exact ext_app4 _ _ _ _ _ _ _ _ | with_reducible apply Ext.drew | with_reducible apply Ext.alloc | with_reducible apply Ext.more_)) hg3 ho3; have c2 := cell_of_row _ _ 2 _ _ _ hrow3; have f2 := frozen_of_row _ _ 2 _ _ hrow3; clear hrow3 hex3 hg3 ho3)
            refine ⟨⟨j + 1, cap2', A2', by omega, ?_, by go_num, ?_⟩, by simp [intOf]; omega⟩; (focus rw [show r * N + (j + 1) = rj + 1 by rw [← HRJ.out]; omega, HZ.out.2]); rw [show r * N + (j + 1) = r * N + j + 1 by omega, vals_succ _ N r j hjt, HZ.out.1, HRJ.out]; exact hacc2
          | some x =>
            have hxo := spread_ok HL.out.1 h1.ok ha
            cases hb : spreadO R2 C2 l2 r j with
            | none =>
              generalize hx : orZero (spreadO R1 C1 l1 r j) = x1
              have HA := Lib.hid (And.intro hx (show (spreadO R1 C1 l1 r j).isSome = true by rw [ha]; rfl))
              generalize hy : orZero (spreadO R2 C2 l2 r j) = y
              have HB := Lib.hid (And.intro hy (show (spreadO R2 C2 l2 r j).isSome = false by rw [hb]; rfl))
              have hzz : GG r j = badV 6 := by rw [HV.out.1, ha, hb]; rfl
              have hc1 : cntB (bothG R1 C1 l1 R2 C2 l2) N (rj + 1) = kn := by rw [HV.out.2]; unfold bothG bothN; rw [ha, hb]; rfl
              have HZ := Lib.hid (And.intro hzz hc1)
              clear hzz hc1 ha hb hx hy
              go_wp2_with fail
              refine (refAt_c R1 C1 r j A1 n1 cap1 l1 _ (hA'.ext (by repeat (first | with_reducible exact Ext.refl _ | with_reducible exact hX | with_reducible exact ext_d _ _ _ _ | with_reducible exact ext_app _ _ _ _ _ | with_reducible exact ext_app2 _ _ _ _ _ _ | with_reducible exact ext_app3 _ _ _ _ _ _ _ | with_reducible exact ext_app4 _ _ _ _ _ _ _ _ | with_reducible apply Ext.drew | with_reducible apply Ext.alloc | with_reducible apply Ext.more_))) HN.out.1 hN1 x1 true HA.out.1 HA.out.2).mono ?_; rintro e w' ⟨rfl, hb⟩; obtain ⟨os11, d11, rfl⟩ := hb.more; clear hb
              go_wp2_with fail
              refine (refAt_c R2 C2 r j A2 n2 cap2 l2 _ (hB'.ext (by repeat (first | with_reducible exact Ext.refl _ | with_reducible exact hX | with_reducible exact ext_d _ _ _ _ | with_reducible exact ext_app _ _ _ _ _ | with_reducible exact ext_app2 _ _ _ _ _ _ | with_reducible exact ext_app3 _ _ _ _ _ _ _ | with_reducible exact ext_app4 _ _ _ _ _ _ _ _ | with_reducible apply Ext.drew | with_reducible apply Ext.alloc | with_reducible apply Ext.more_))) HN.out.2 hN2 y false HB.out.1 HB.out.2).mono ?_; rintro e w' ⟨rfl, hb⟩; obtain ⟨os12, d12, rfl⟩ := hb.more; clear hb
              go_wp2_with (at_builtin; refine wpList_append_own _ rfl _ _ _ rfl _ 34 i0 (VV 0 0 0 ⟨#[]⟩ false 0) 6 56 Try.underlying22 hi0 hz0 hz1 hz2 rfl (by decide) _ _ _ rfl (own_ext hacc.own (by repeat (first | with_reducible exact Ext.refl _ | with_reducible exact hX | with_reducible exact ext_d _ _ _ _ | with_reducible exact ext_app _ _ _ _ _ | with_reducible exact ext_app2 _ _ _ _ _ _ | with_reducible exact ext_app3 _ _ _ _ _ _ _ | with_reducible exact ext_app4 _ _ _ _ _ _ _ _ | with_reducible apply Ext.drew | with_reducible apply Ext.alloc | with_reducible apply Ext.more_))) _ 1 1 (Val.cells (badV 6)) rfl rfl (new_cells_at _ _ _ (by simp) rfl _) (cells_one _) (by simp only [maxLen]; omega) (by omega) (by have := hacc.lt; simp; omega) ?_; intro v3 w3 ho3 hg3 _; obtain ⟨A2', cap2', rfl, hrow3, hex3, hacc2⟩ := hacc.step (by repeat (first | with_reducible exact Ext.refl _ | with_reducible exact hX | with_reducible exact ext_d _ _ _ _ | with_reducible exact ext_app _ _ _ _ _ | with_reducible exact ext_app2 _ _ _ _ _ _ | with_reducible exact ext_app3 _ _ _ _ _ _ _ | with_reducible exact ext_app4 _ _ _ _ _ _ _ _ | with_reducible apply Ext.drew | with_reducible apply Ext.alloc | with_reducible apply Ext.more_)) hg3 ho3; have c2 := cell_of_row _ _ 2 _ _ _ hrow3; have f2 := frozen_of_row _ _ 2 _ _ hrow3; clear hrow3 hex3 hg3 ho3)
              refine ⟨⟨j + 1, cap2', A2', by omega, ?_, by go_num, ?_⟩, by simp [intOf]; omega⟩; (focus rw [show r * N + (j + 1) = rj + 1 by rw [← HRJ.out]; omega, HZ.out.2]); rw [show r * N + (j + 1) = r * N + j + 1 by omega, vals_succ _ N r j hjt, HZ.out.1, HRJ.out]; exact hacc2
            | some y =>
              have hyo := spread_ok HL.out.2 h2.ok hb
              have HA := Lib.hid (And.intro (show orZero (spreadO R1 C1 l1 r j) = x by rw [ha]; rfl) (show (spreadO R1 C1 l1 r j).isSome = true by rw [ha]; rfl))
              have HB := Lib.hid (And.intro (show orZero (spreadO R2 C2 l2 r j) = y by rw [hb]; rfl) (show (spreadO R2 C2 l2 r j).isSome = true by rw [hb]; rfl))
              generalize hz : refOneV (manyT by_ x y) = z
              have hzz : GG r j = z := by rw [HV.out.1, ha, hb]; exact hz
              have hc1 : cntB (bothG R1 C1 l1 R2 C2 l2) N (rj + 1) = kn + 1 := by rw [HV.out.2]; unfold bothG bothN; rw [ha, hb]; rfl
              have HZ := Lib.hid (And.intro hz (And.intro hzz hc1))
              clear hz hzz hc1 ha hb
              generalize hty : toldV y by_ = ty
              have hto : ty.ok := by rw [← hty]; exact toldV_ok hyo _
              by_cases h4 : by_ % 8 < 4
              · generalize htx : toldV x by_ = tx
                have htxo : tx.ok := by rw [← htx]; exact toldV_ok hxo _
                have hmz : refOneV tx = z := by rw [← HZ.out.1, ← htx]; simp [manyT, h4]
                go_wp2_with fail
                refine (refAt_c R1 C1 r j A1 n1 cap1 l1 _ (hA'.ext (by repeat (first | with_reducible exact Ext.refl _ | with_reducible exact hX | with_reducible exact ext_d _ _ _ _ | with_reducible exact ext_app _ _ _ _ _ | with_reducible exact ext_app2 _ _ _ _ _ _ | with_reducible exact ext_app3 _ _ _ _ _ _ _ | with_reducible exact ext_app4 _ _ _ _ _ _ _ _ | with_reducible apply Ext.drew | with_reducible apply Ext.alloc | with_reducible apply Ext.more_))) HN.out.1 hN1 x true HA.out.1 HA.out.2).mono ?_; rintro e w' ⟨rfl, hb⟩; obtain ⟨os11, d11, rfl⟩ := hb.more; clear hb
                go_wp2_with fail
                refine (refAt_c R2 C2 r j A2 n2 cap2 l2 _ (hB'.ext (by repeat (first | with_reducible exact Ext.refl _ | with_reducible exact hX | with_reducible exact ext_d _ _ _ _ | with_reducible exact ext_app _ _ _ _ _ | with_reducible exact ext_app2 _ _ _ _ _ _ | with_reducible exact ext_app3 _ _ _ _ _ _ _ | with_reducible exact ext_app4 _ _ _ _ _ _ _ _ | with_reducible apply Ext.drew | with_reducible apply Ext.alloc | with_reducible apply Ext.more_))) HN.out.2 hN2 y true HB.out.1 HB.out.2).mono ?_; rintro e w' ⟨rfl, hb⟩; obtain ⟨os12, d12, rfl⟩ := hb.more; clear hb
                go_wp2_with fail
                refine (told_any _ _ _ _ _ _ _ _ hyo.2.2.2.1 hb0 hb1 ty hty).mono ?_; rintro e w' ⟨rfl, hb⟩; obtain ⟨os13, d13, rfl⟩ := hb.more; clear hb
                go_wp2_with fail
                refine (told_any _ _ _ _ _ _ _ _ hxo.2.2.2.1 hb0 hb1 tx htx).mono ?_; rintro e w' ⟨rfl, hb⟩; obtain ⟨os14, d14, rfl⟩ := hb.more; clear hb
                go_wp2_with fail
                refine (may_any _ _ _ _ _ _ _ htxo.2.1 htxo.2.2.2.1 z hmz).mono ?_; rintro e w' ⟨rfl, hb⟩; obtain ⟨os15, d15, rfl⟩ := hb.more; clear hb
                go_wp2_with (at_builtin; refine wpList_append_own _ rfl _ _ _ rfl _ 34 i0 (VV 0 0 0 ⟨#[]⟩ false 0) 6 56 Try.underlying22 hi0 hz0 hz1 hz2 rfl (by decide) _ _ _ rfl (own_ext hacc.own (by repeat (first | with_reducible exact Ext.refl _ | with_reducible exact hX | with_reducible exact ext_d _ _ _ _ | with_reducible exact ext_app _ _ _ _ _ | with_reducible exact ext_app2 _ _ _ _ _ _ | with_reducible exact ext_app3 _ _ _ _ _ _ _ | with_reducible exact ext_app4 _ _ _ _ _ _ _ _ | with_reducible apply Ext.drew | with_reducible apply Ext.alloc | with_reducible apply Ext.more_))) _ 1 1 (Val.cells z) rfl rfl (new_cells_at _ _ _ (by simp) rfl _) (cells_one _) (by simp only [maxLen]; omega) (by omega) (by have := hacc.lt; simp; omega) ?_; intro v3 w3 ho3 hg3 _; obtain ⟨A2', cap2', rfl, hrow3, hex3, hacc2⟩ := hacc.step (by repeat (first | with_reducible exact Ext.refl _ | with_reducible exact hX | with_reducible exact ext_d _ _ _ _ | with_reducible exact ext_app _ _ _ _ _ | with_reducible exact ext_app2 _ _ _ _ _ _ | with_reducible exact ext_app3 _ _ _ _ _ _ _ | with_reducible exact ext_app4 _ _ _ _ _ _ _ _ | with_reducible apply Ext.drew | with_reducible apply Ext.alloc | with_reducible apply Ext.more_)) hg3 ho3; have c2 := cell_of_row _ _ 2 _ _ _ hrow3; have f2 := frozen_of_row _ _ 2 _ _ hrow3; clear hrow3 hex3 hg3 ho3)
                refine ⟨⟨j + 1, cap2', A2', by omega, ?_, by go_num, ?_⟩, by simp [intOf]; omega⟩; (focus rw [show r * N + (j + 1) = rj + 1 by rw [← HRJ.out]; omega, HZ.out.2.2]; go_num); rw [show r * N + (j + 1) = r * N + j + 1 by omega, vals_succ _ N r j hjt, HZ.out.2.1, HRJ.out]; exact hacc2
              · have hmz : refOneV ty = z := by rw [← HZ.out.1, ← hty]; simp [manyT, h4]
                go_wp2_with fail
                refine (refAt_c R1 C1 r j A1 n1 cap1 l1 _ (hA'.ext (by repeat (first | with_reducible exact Ext.refl _ | with_reducible exact hX | with_reducible exact ext_d _ _ _ _ | with_reducible exact ext_app _ _ _ _ _ | with_reducible exact ext_app2 _ _ _ _ _ _ | with_reducible exact ext_app3 _ _ _ _ _ _ _ | with_reducible exact ext_app4 _ _ _ _ _ _ _ _ | with_reducible apply Ext.drew | with_reducible apply Ext.alloc | with_reducible apply Ext.more_))) HN.out.1 hN1 x true HA.out.1 HA.out.2).mono ?_; rintro e w' ⟨rfl, hb⟩; obtain ⟨os11, d11, rfl⟩ := hb.more; clear hb
                go_wp2_with fail
                refine (refAt_c R2 C2 r j A2 n2 cap2 l2 _ (hB'.ext (by repeat (first | with_reducible exact Ext.refl _ | with_reducible exact hX | with_reducible exact ext_d _ _ _ _ | with_reducible exact ext_app _ _ _ _ _ | with_reducible exact ext_app2 _ _ _ _ _ _ | with_reducible exact ext_app3 _ _ _ _ _ _ _ | with_reducible exact ext_app4 _ _ _ _ _ _ _ _ | with_reducible apply Ext.drew | with_reducible apply Ext.alloc | with_reducible apply Ext.more_))) HN.out.2 hN2 y true HB.out.1 HB.out.2).mono ?_; rintro e w' ⟨rfl, hb⟩; obtain ⟨os12, d12, rfl⟩ := hb.more; clear hb
                go_wp2_with fail
                refine (told_any _ _ _ _ _ _ _ _ hyo.2.2.2.1 hb0 hb1 ty hty).mono ?_; rintro e w' ⟨rfl, hb⟩; obtain ⟨os13, d13, rfl⟩ := hb.more; clear hb
                go_wp2_with fail
                refine (may_any _ _ _ _ _ _ _ hto.2.1 hto.2.2.2.1 z hmz).mono ?_; rintro e w' ⟨rfl, hb⟩; obtain ⟨os15, d15, rfl⟩ := hb.more; clear hb
                go_wp2_with (at_builtin; refine wpList_append_own _ rfl _ _ _ rfl _ 34 i0 (VV 0 0 0 ⟨#[]⟩ false 0) 6 56 Try.underlying22 hi0 hz0 hz1 hz2 rfl (by decide) _ _ _ rfl (own_ext hacc.own (by repeat (first | with_reducible exact Ext.refl _ | with_reducible exact hX | with_reducible exact ext_d _ _ _ _ | with_reducible exact ext_app _ _ _ _ _ | with_reducible exact ext_app2 _ _ _ _ _ _ | with_reducible exact ext_app3 _ _ _ _ _ _ _ | with_reducible exact ext_app4 _ _ _ _ _ _ _ _ | with_reducible apply Ext.drew | with_reducible apply Ext.alloc | with_reducible apply Ext.more_))) _ 1 1 (Val.cells z) rfl rfl (new_cells_at _ _ _ (by simp) rfl _) (cells_one _) (by simp only [maxLen]; omega) (by omega) (by have := hacc.lt; simp; omega) ?_; intro v3 w3 ho3 hg3 _; obtain ⟨A2', cap2', rfl, hrow3, hex3, hacc2⟩ := hacc.step (by repeat (first | with_reducible exact Ext.refl _ | with_reducible exact hX | with_reducible exact ext_d _ _ _ _ | with_reducible exact ext_app _ _ _ _ _ | with_reducible exact ext_app2 _ _ _ _ _ _ | with_reducible exact ext_app3 _ _ _ _ _ _ _ | with_reducible exact ext_app4 _ _ _ _ _ _ _ _ | with_reducible apply Ext.drew | with_reducible apply Ext.alloc | with_reducible apply Ext.more_)) hg3 ho3; have c2 := cell_of_row _ _ 2 _ _ _ hrow3; have f2 := frozen_of_row _ _ 2 _ _ hrow3; clear hrow3 hex3 hg3 ho3)
                refine ⟨⟨j + 1, cap2', A2', by omega, ?_, by go_num, ?_⟩, by simp [intOf]; omega⟩; (focus rw [show r * N + (j + 1) = rj + 1 by rw [← HRJ.out]; omega, HZ.out.2.2]; go_num); rw [show r * N + (j + 1) = r * N + j + 1 by omega, vals_succ _ N r j hjt, HZ.out.2.1, HRJ.out]; exact hacc2
        · obtain rfl : j = N := by omega
          go_wp2
          refine ⟨⟨r + 1, cp, G, by omega, by rw [Nat.succ_mul], by go_num, by rw [Nat.succ_mul]; exact hacc⟩, by simp [intOf]; omega⟩
    · obtain rfl : M = r := by omega
      have hlt0 := hacc.lt
      obtain ⟨hwrd, hwcp⟩ := hacc.rd
      have hWant : ArrIn wr G (M * N) cp (vals GG N (M * N)) := ⟨Rd.mono hwrd (Nat.zero_le _), vals_length _ _ _, hwcp, by omega, hD.ok⟩
      have hVW : Ext V wr := Ext.trans (show Ext V (more (V.alloc (.cells #[.int .i64 M, .int .i64 N, .slice D (M * N) c] 25)) (os6 ++ (os7 ++ os8)) d8) from by repeat (first | with_reducible exact Ext.refl _ | with_reducible exact hX | with_reducible exact ext_d _ _ _ _ | with_reducible exact ext_app _ _ _ _ _ | with_reducible exact ext_app2 _ _ _ _ _ _ | with_reducible exact ext_app3 _ _ _ _ _ _ _ | with_reducible exact ext_app4 _ _ _ _ _ _ _ _ | with_reducible apply Ext.drew | with_reducible apply Ext.alloc | with_reducible apply Ext.more_)) hacc.ext
      have g3 := hVW.cell_some cm
      have k0 := cell_of_row _ _ 0 _ _ _ hacc.row
      have k1 := cell_of_row _ _ 1 _ _ _ hacc.row
      have k2 := cell_of_row _ _ 2 _ _ _ hacc.row
      have m0 : wr.cell? ⟨V.heap.size, 0, none⟩ = some (.int .i64 M) := hacc.ext.cell_some (by simp [go_sem])
      have m1 : wr.cell? ⟨V.heap.size, 1, none⟩ = some (.int .i64 N) := hacc.ext.cell_some (by simp [go_sem])
      have m2 : wr.cell? ⟨V.heap.size, 2, none⟩ = some (.slice D (M * N) c) := hacc.ext.cell_some (by simp [go_sem])
      have hsz := hVW.size
      have y0 : pm < wr.heap.size := by omega
      have hD' := hD.ext hVW
      rw [HCN.out]
      clear cm
      go_wp2_with fail
      refine (refSame_any _ _ _ _ _ _ _ _ _ _ (vals GG N (M * N)) (vals GG N (M * N)) _ (hD'.ext (by repeat (first | with_reducible exact Ext.refl _ | with_reducible exact hX | with_reducible exact ext_d _ _ _ _ | with_reducible exact ext_app _ _ _ _ _ | with_reducible exact ext_app2 _ _ _ _ _ _ | with_reducible exact ext_app3 _ _ _ _ _ _ _ | with_reducible exact ext_app4 _ _ _ _ _ _ _ _ | with_reducible apply Ext.drew | with_reducible apply Ext.alloc | with_reducible apply Ext.more_))) (hWant.ext (by repeat (first | with_reducible exact Ext.refl _ | with_reducible exact hX | with_reducible exact ext_d _ _ _ _ | with_reducible exact ext_app _ _ _ _ _ | with_reducible exact ext_app2 _ _ _ _ _ _ | with_reducible exact ext_app3 _ _ _ _ _ _ _ | with_reducible exact ext_app4 _ _ _ _ _ _ _ _ | with_reducible apply Ext.drew | with_reducible apply Ext.alloc | with_reducible apply Ext.more_)))).mono ?_; rintro e w' ⟨rfl, hb⟩; obtain ⟨os9, d9, rfl⟩ := hb.more; clear hb
      go_wp2
      go_ret
      exact ⟨rfl, hX.trans (hVW.trans (by repeat (first | with_reducible exact Ext.refl _ | with_reducible exact hX | with_reducible exact ext_d _ _ _ _ | with_reducible exact ext_app _ _ _ _ _ | with_reducible exact ext_app2 _ _ _ _ _ _ | with_reducible exact ext_app3 _ _ _ _ _ _ _ | with_reducible exact ext_app4 _ _ _ _ _ _ _ _ | with_reducible apply Ext.drew | with_reducible apply Ext.alloc | with_reducible apply Ext.more_)))⟩
theorem bothLaw_any (r1 c1 r2 c2 by_ : Int) (A1 A2 : Option Addr) (n1 cap1 n2 cap2 : Nat) (l1 l2 : List Val) (w : World) (h1 : ArrIn w A1 n1 cap1 l1) (h2 : ArrIn w A2 n2 cap2 l2) (hb0 : 0 ≤ by_) (hb1 : by_ ≤ 255) :
    Calls Try.prog 9 #[AV r1 c1 (.slice A1 n1 cap1), AV r2 c2 (.slice A2 n2 cap2), .int .u8 by_] w fun e w' => e = .returned (.bool true) ∧ Ext w w' := by
  cases hr : (rightA r1 c1 l1 && rightA r2 c2 l2) with
  | false => exact bothLaw_no r1 c1 r2 c2 by_ A1 A2 n1 cap1 n2 cap2 l1 l2 w h1 h2 hr
  | true =>
    simp only [Bool.and_eq_true] at hr
    obtain ⟨R1, C1, rfl, rfl, _⟩ := right_parts hr.1
    obtain ⟨R2, C2, rfl, rfl, _⟩ := right_parts hr.2
    by_cases hf : max R1 R2 * max C1 C2 ≤ 4096
    · exact bothLaw_yes R1 C1 R2 C2 by_ A1 A2 n1 cap1 n2 cap2 l1 l2 w h1 h2 hr.1 hr.2 hf hb0 hb1
    · exact bothLaw_great R1 C1 R2 C2 by_ A1 A2 n1 cap1 n2 cap2 l1 l2 w h1 h2 hr.1 hr.2 hf
end Go.Proofs.Ytdhdphgecoplbaa
