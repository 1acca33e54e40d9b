/- The law ShapeSwaps: its walk. -/
import Derived.Test.YtdhdphgecoplbaaBothC
import Derived.Test.YtdhdphgecoplbaaPlaces
namespace Go.Proofs.Ytdhdphgecoplbaa
open Go.RowKit
theorem swaps1_any (by_ : Int) (hb0 : 0 ≤ by_) (hb1 : by_ ≤ 255) : Pure2 44 (fun x _ => toldV x by_) by_ := by
  intro pb x y W hc hxo hyo
  have z0 := lt_of_cell hc
  dsimp only
  generalize hz : toldV x by_ = z
  have HZ := Lib.hid hz
  clear hz
  go_enter Try.func44, Try.ntmps44
  go_wp2_with fail
  refine (told_any _ _ _ _ _ _ _ _ hxo.2.2.2.1 hb0 hb1 z HZ.out).mono ?_; rintro e w' ⟨rfl, hb⟩; obtain ⟨os1, d1, rfl⟩ := hb.more; clear hb
  go_wp2
  exact bodyPost_ret (v := VV z.kind z.mant z.exp z.text z.truth z.fault) (by simp [results, Try.results44, go_sem]; done) rfl ⟨rfl, by repeat (first | with_reducible exact Ext.refl _ | with_reducible exact hX | with_reducible exact ext_d _ _ _ _ | with_reducible exact ext_app _ _ _ _ _ | ((with_reducible refine ext_suffix ⟨_, ?_⟩); (try simp only [Array.append_assoc]); rfl) | with_reducible apply Ext.drew | with_reducible apply Ext.alloc | with_reducible apply Ext.more_)⟩
theorem swaps2_any (by_ : Int) (hb0 : 0 ≤ by_) (hb1 : by_ ≤ 255) : Pure2 45 (fun _ y => toldV y by_) by_ := by
  intro pb x y W hc hxo hyo
  have z0 := lt_of_cell hc
  dsimp only
  generalize hz : toldV y by_ = z
  have HZ := Lib.hid hz
  clear hz
  go_enter Try.func45, Try.ntmps45
  go_wp2_with fail
  refine (told_any _ _ _ _ _ _ _ _ hyo.2.2.2.1 hb0 hb1 z HZ.out).mono ?_; rintro e w' ⟨rfl, hb⟩; obtain ⟨os1, d1, rfl⟩ := hb.more; clear hb
  go_wp2
  exact bodyPost_ret (v := VV z.kind z.mant z.exp z.text z.truth z.fault) (by simp [results, Try.results45, go_sem]; done) rfl ⟨rfl, by repeat (first | with_reducible exact Ext.refl _ | with_reducible exact hX | with_reducible exact ext_d _ _ _ _ | with_reducible exact ext_app _ _ _ _ _ | ((with_reducible refine ext_suffix ⟨_, ?_⟩); (try simp only [Array.append_assoc]); rfl) | with_reducible apply Ext.drew | with_reducible apply Ext.alloc | with_reducible apply Ext.more_)⟩
theorem bothV_swap (t : Val → Val → Val) (a b : Option Val) : bothV t a b = bothV (fun x y => t y x) b a := by
  cases a <;> cases b <;> rfl
theorem bothL_swap (t : Val → Val → Val) (R C : Nat) (l : List Val) (R' C' : Nat) (l' : List Val) : bothL t R C l R' C' l' = bothL (fun x y => t y x) R' C' l' R C l := by
  unfold bothL
  rw [Nat.max_comm R R', Nat.max_comm C C']
  congr 1
  funext i j
  exact bothV_swap _ _ _
theorem bothRes_swap (t : Val → Val → Val) (r c : Int) (l : List Val) (r' c' : Int) (l' : List Val) : bothRes t r c l r' c' l' = bothRes (fun x y => t y x) r' c' l' r c l := by
  unfold bothRes
  rw [Bool.and_comm, bothL_swap, Nat.max_comm r.toNat, Nat.max_comm c.toNat]
theorem low_block {w : World} {A : Option Addr} {n cap : Nat} {l : List Val} (h : ArrIn w A n cap l) {pb : Nat} (hp : w.heap.size ≤ pb) : 0 < n → ∀ b off, A = some ⟨b, off, none⟩ → b ≠ pb := by
  intro hn b off e
  obtain ⟨b', off', e', hv, _⟩ := h.get (k := 0) hn
  rw [e] at e'
  simp only [Option.some.injEq, Addr.mk.injEq, and_true] at e'
  have := hv.lt
  omega
set_option maxRecDepth 100000 in
set_option maxHeartbeats 4000000 in
theorem swaps_any (r1 c1 r2 c2 by_ : Int) (A1 A2 : Option Addr) (n1 cap1 n2 cap2 : Nat) (l1 l2 : List Val) (w : World) (h1 : ArrIn w A1 n1 cap1 l1) (h2 : ArrIn w A2 n2 cap2 l2) (hb0 : 0 ≤ by_) (hb1 : by_ ≤ 255) :
    Calls Try.prog 10 #[AV r1 c1 (.slice A1 n1 cap1), AV r2 c2 (.slice A2 n2 cap2), .int .u8 by_] w fun e w' => e = .returned (.bool true) ∧ Ext w w' := by
  have hent1 : ∀ (args : Array Value) (W : World), (callFunc 44 args).run Try.prog W = .ok (.enter 44 args) W := fun args W => by go_simp
  have hent2 : ∀ (args : Array Value) (W : World), (callFunc 45 args).run Try.prog W = .ok (.enter 45 args) W := fun args W => by go_simp
  generalize hx : bothRes (fun x _ => toldV x by_) r1 c1 l1 r2 c2 l2 = X
  have hy : bothRes (fun _ y => toldV y by_) r2 c2 l2 r1 c1 l1 = X := by rw [← hx]; exact (bothRes_swap _ _ _ _ _ _ _).symm
  have HX := Lib.hid (And.intro hx hy)
  have HE := Lib.hid (And.intro hent1 hent2)
  clear hx hy hent1 hent2
  have hs1 : sameA X.R X.C X.l X.R X.C X.l = true := by simp [sameA]
  have hs2 : sameA r1 c1 l1 r1 c1 l1 = true := by simp [sameA]
  go_enter Try.func10, Try.ntmps10
  go_wp2_with fail
  refine (awake_any _).mono ?_; rintro e w' ⟨rfl, hb⟩; obtain ⟨os1, d1, rfl⟩ := hb.more; clear hb
  go_wp2_with fail
  refine (small_any _ _ _ _ _ _ _ (h1.ext (by repeat (first | with_reducible exact Ext.refl _ | with_reducible exact hX | with_reducible exact ext_d _ _ _ _ | with_reducible exact ext_app _ _ _ _ _ | ((with_reducible refine ext_suffix ⟨_, ?_⟩); (try simp only [Array.append_assoc]); rfl) | with_reducible apply Ext.drew | with_reducible apply Ext.alloc | with_reducible apply Ext.more_)))).mono ?_; rintro e w' ⟨sm, rfl, hsm, hb⟩; obtain ⟨os2, d2, rfl⟩ := hb.more; clear hb; rcases hsm with rfl | ⟨rfl, hn, htx⟩; (focus go_wp2; go_ret; exact ⟨rfl, by repeat (first | with_reducible exact Ext.refl _ | with_reducible exact hX | with_reducible exact ext_d _ _ _ _ | with_reducible exact ext_app _ _ _ _ _ | ((with_reducible refine ext_suffix ⟨_, ?_⟩); (try simp only [Array.append_assoc]); rfl) | with_reducible apply Ext.drew | with_reducible apply Ext.alloc | with_reducible apply Ext.more_)⟩); clear hn htx; go_wp2_with fail; generalize os1 ++ os2 = oz2; clear os1 os2
  refine (small_any _ _ _ _ _ _ _ (h2.ext (by repeat (first | with_reducible exact Ext.refl _ | with_reducible exact hX | with_reducible exact ext_d _ _ _ _ | with_reducible exact ext_app _ _ _ _ _ | ((with_reducible refine ext_suffix ⟨_, ?_⟩); (try simp only [Array.append_assoc]); rfl) | with_reducible apply Ext.drew | with_reducible apply Ext.alloc | with_reducible apply Ext.more_)))).mono ?_; rintro e w' ⟨sm, rfl, hsm, hb⟩; obtain ⟨os3, d3, rfl⟩ := hb.more; clear hb; rcases hsm with rfl | ⟨rfl, hn, htx⟩; (focus go_wp2; go_ret; exact ⟨rfl, by repeat (first | with_reducible exact Ext.refl _ | with_reducible exact hX | with_reducible exact ext_d _ _ _ _ | with_reducible exact ext_app _ _ _ _ _ | ((with_reducible refine ext_suffix ⟨_, ?_⟩); (try simp only [Array.append_assoc]); rfl) | with_reducible apply Ext.drew | with_reducible apply Ext.alloc | with_reducible apply Ext.more_)⟩); clear hn htx; go_wp2_with fail; generalize oz2 ++ os3 = oz3; clear oz2 os3
  have hbb : ∀ (os : Array Obj) (d : Nat), (more (((w.alloc (.cells #[.int .i64 r1, .int .i64 c1, .slice A1 n1 cap1] 25)).alloc (.cells #[.int .i64 r2, .int .i64 c2, .slice A2 n2 cap2] 25)).alloc (.cells #[.int .u8 by_] 5)) os d).heap[w.heap.size + 1 + 1]? = some (.cells #[.int .u8 by_] 5) := by
    intro os d
    rw [(ext_more _ _ _).block (by first | (simp; done) | (simp; omega) | omega)]
    have := heap_alloc_new ((w.alloc (.cells #[.int .i64 r1, .int .i64 c1, .slice A1 n1 cap1] 25)).alloc (.cells #[.int .i64 r2, .int .i64 c2, .slice A2 n2 cap2] 25)) (.cells #[.int .u8 by_] 5)
    simpa using this
  have HB := Lib.hid hbb
  clear hbb
  refine (both_pure (swaps1_any by_ hb0 hb1) (fun x _ hx _ => toldV_ok hx _) HE.out.1 (w.heap.size + 1 + 1) r1 c1 r2 c2 A1 A2 n1 cap1 n2 cap2 l1 l2 _ (h1.ext (by repeat (first | with_reducible exact Ext.refl _ | with_reducible exact hX | with_reducible exact ext_d _ _ _ _ | with_reducible exact ext_app _ _ _ _ _ | ((with_reducible refine ext_suffix ⟨_, ?_⟩); (try simp only [Array.append_assoc]); rfl) | with_reducible apply Ext.drew | with_reducible apply Ext.alloc | with_reducible apply Ext.more_))) (h2.ext (by repeat (first | with_reducible exact Ext.refl _ | with_reducible exact hX | with_reducible exact ext_d _ _ _ _ | with_reducible exact ext_app _ _ _ _ _ | ((with_reducible refine ext_suffix ⟨_, ?_⟩); (try simp only [Array.append_assoc]); rfl) | with_reducible apply Ext.drew | with_reducible apply Ext.alloc | with_reducible apply Ext.more_))) (HB.out _ _) (low_block h1 (by omega)) (low_block h2 (by omega)) X HX.out.1).mono ?_
  rintro e w' ⟨D, m, c, rfl, hD, hb⟩
  obtain ⟨os4, d4, rfl⟩ := hb.more
  clear hb
  (try simp only [more_more] at hD)
  go_wp2_with fail
  refine (both_pure (swaps2_any by_ hb0 hb1) (fun _ y _ hy => toldV_ok hy _) HE.out.2 (w.heap.size + 1 + 1) r2 c2 r1 c1 A2 A1 n2 cap2 n1 cap1 l2 l1 _ (h2.ext (by repeat (first | with_reducible exact Ext.refl _ | with_reducible exact hX | with_reducible exact ext_d _ _ _ _ | with_reducible exact ext_app _ _ _ _ _ | ((with_reducible refine ext_suffix ⟨_, ?_⟩); (try simp only [Array.append_assoc]); rfl) | with_reducible apply Ext.drew | with_reducible apply Ext.alloc | with_reducible apply Ext.more_))) (h1.ext (by repeat (first | with_reducible exact Ext.refl _ | with_reducible exact hX | with_reducible exact ext_d _ _ _ _ | with_reducible exact ext_app _ _ _ _ _ | ((with_reducible refine ext_suffix ⟨_, ?_⟩); (try simp only [Array.append_assoc]); rfl) | with_reducible apply Ext.drew | with_reducible apply Ext.alloc | with_reducible apply Ext.more_))) ((Below.heap_alloc _ _ _ (by first | (simp; done) | (simp; omega) | omega)).trans (HB.out _ _)) (low_block h2 (by omega)) (low_block h1 (by omega)) X HX.out.2).mono ?_
  rintro e w' ⟨D2, m2, c2', rfl, hD2, hb⟩
  obtain ⟨os5, d5, rfl⟩ := hb.more
  clear hb
  (try simp only [more_more] at hD2)
  go_wp2_with fail
  refine (refSame_any _ _ _ _ _ _ _ _ _ _ X.l X.l _ (hD.ext (by repeat (first | with_reducible exact Ext.refl _ | with_reducible exact hX | with_reducible exact ext_d _ _ _ _ | with_reducible exact ext_app _ _ _ _ _ | ((with_reducible refine ext_suffix ⟨_, ?_⟩); (try simp only [Array.append_assoc]); rfl) | with_reducible apply Ext.drew | with_reducible apply Ext.alloc | with_reducible apply Ext.more_))) (hD2.ext (by repeat (first | with_reducible exact Ext.refl _ | with_reducible exact hX | with_reducible exact ext_d _ _ _ _ | with_reducible exact ext_app _ _ _ _ _ | ((with_reducible refine ext_suffix ⟨_, ?_⟩); (try simp only [Array.append_assoc]); rfl) | with_reducible apply Ext.drew | with_reducible apply Ext.alloc | with_reducible apply Ext.more_)))).mono ?_; rintro e w' ⟨rfl, hb⟩; obtain ⟨os6, d6, rfl⟩ := hb.more; clear hb
  go_wp2_with fail
  by_cases hr : rightA r1 c1 l1 = true
  · have hf1 : refRightA r1 c1 l1 = true := by rw [← rightA_eq _ _ l1 h1.ok]; exact hr
    obtain ⟨R, C, rfl, rfl, g1, g2, g3, g4, g5⟩ := right_parts hr
    have hpo : partO R C l1 0 0 R C = some ⟨R, C, l1⟩ := by
      have hB : hasB R C 0 0 = true := hasB_iff.2 (by omega)
      have : partOk R C l1 0 0 R C = true := by simp [partOk, hr, hB]; omega
      simp only [partO, this, if_true]
      have := part_whole R C l1 g4
      simpa using this
    have HP := Lib.hid hpo
    clear hpo g3 g4 g5
    refine (part_c R C A1 n1 cap1 l1 _ (h1.ext (by repeat (first | with_reducible exact Ext.refl _ | with_reducible exact hX | with_reducible exact ext_d _ _ _ _ | with_reducible exact ext_app _ _ _ _ _ | ((with_reducible refine ext_suffix ⟨_, ?_⟩); (try simp only [Array.append_assoc]); rfl) | with_reducible apply Ext.drew | with_reducible apply Ext.alloc | with_reducible apply Ext.more_))) hr 0 0 R C ⟨R, C, l1⟩ true (by rw [HP.out]; rfl) (by rw [HP.out]; rfl)).mono ?_
    rintro e w' ⟨D3, m3, c3, rfl, hD3, hs, hb⟩
    obtain ⟨os7, d7, rfl⟩ := hb.more
    clear hb hs
    (try simp only [more_more] at hD3)
    go_wp2_with fail
    refine (refRightA_any _ _ _ _ _ _ _ (h1.ext (by repeat (first | with_reducible exact Ext.refl _ | with_reducible exact hX | with_reducible exact ext_d _ _ _ _ | with_reducible exact ext_app _ _ _ _ _ | ((with_reducible refine ext_suffix ⟨_, ?_⟩); (try simp only [Array.append_assoc]); rfl) | with_reducible apply Ext.drew | with_reducible apply Ext.alloc | with_reducible apply Ext.more_)))).mono ?_; rintro e w' ⟨rfl, hb⟩; obtain ⟨os8, d8, rfl⟩ := hb.more; clear hb
    go_wp2_with fail
    refine (refSame_any _ _ _ _ _ _ _ _ _ _ l1 l1 _ (hD3.ext (by repeat (first | with_reducible exact Ext.refl _ | with_reducible exact hX | with_reducible exact ext_d _ _ _ _ | with_reducible exact ext_app _ _ _ _ _ | ((with_reducible refine ext_suffix ⟨_, ?_⟩); (try simp only [Array.append_assoc]); rfl) | with_reducible apply Ext.drew | with_reducible apply Ext.alloc | with_reducible apply Ext.more_))) (h1.ext (by repeat (first | with_reducible exact Ext.refl _ | with_reducible exact hX | with_reducible exact ext_d _ _ _ _ | with_reducible exact ext_app _ _ _ _ _ | ((with_reducible refine ext_suffix ⟨_, ?_⟩); (try simp only [Array.append_assoc]); rfl) | with_reducible apply Ext.drew | with_reducible apply Ext.alloc | with_reducible apply Ext.more_)))).mono ?_; rintro e w' ⟨rfl, hb⟩; obtain ⟨os9, d9, rfl⟩ := hb.more; clear hb
    go_wp2
    go_ret
    exact ⟨rfl, by repeat (first | with_reducible exact Ext.refl _ | with_reducible exact hX | with_reducible exact ext_d _ _ _ _ | with_reducible exact ext_app _ _ _ _ _ | ((with_reducible refine ext_suffix ⟨_, ?_⟩); (try simp only [Array.append_assoc]); rfl) | with_reducible apply Ext.drew | with_reducible apply Ext.alloc | with_reducible apply Ext.more_)⟩
  · have hr' : rightA r1 c1 l1 = false := by simpa using hr
    have hf1 : refRightA r1 c1 l1 = false := by rw [← rightA_eq _ _ l1 h1.ok]; exact hr'
    clear hr
    refine (part_no r1 c1 0 0 r1 c1 A1 n1 cap1 l1 _ (h1.ext (by repeat (first | with_reducible exact Ext.refl _ | with_reducible exact hX | with_reducible exact ext_d _ _ _ _ | with_reducible exact ext_app _ _ _ _ _ | ((with_reducible refine ext_suffix ⟨_, ?_⟩); (try simp only [Array.append_assoc]); rfl) | with_reducible apply Ext.drew | with_reducible apply Ext.alloc | with_reducible apply Ext.more_))) (by simp [partOk, hr'])).mono ?_; rintro e w' ⟨rfl, hb⟩; obtain ⟨os7, d7, rfl⟩ := hb.more; clear hb
    go_wp2_with fail
    refine (refRightA_any _ _ _ _ _ _ _ (h1.ext (by repeat (first | with_reducible exact Ext.refl _ | with_reducible exact hX | with_reducible exact ext_d _ _ _ _ | with_reducible exact ext_app _ _ _ _ _ | ((with_reducible refine ext_suffix ⟨_, ?_⟩); (try simp only [Array.append_assoc]); rfl) | with_reducible apply Ext.drew | with_reducible apply Ext.alloc | with_reducible apply Ext.more_)))).mono ?_; rintro e w' ⟨rfl, hb⟩; obtain ⟨os8, d8, rfl⟩ := hb.more; clear hb
    go_wp2
    go_ret
    exact ⟨rfl, by repeat (first | with_reducible exact Ext.refl _ | with_reducible exact hX | with_reducible exact ext_d _ _ _ _ | with_reducible exact ext_app _ _ _ _ _ | ((with_reducible refine ext_suffix ⟨_, ?_⟩); (try simp only [Array.append_assoc]); rfl) | with_reducible apply Ext.drew | with_reducible apply Ext.alloc | with_reducible apply Ext.more_)⟩
end Go.Proofs.Ytdhdphgecoplbaa
