/- The law ShapeEach: its walk. -/
import Derived.Test.YtdhdphgecoplbaaEach
namespace Go.Proofs.Ytdhdphgecoplbaa
open Go.RowKit
set_option maxHeartbeats 400000 in
theorem each_no (r c : Int) (A : Option Addr) (n cap : Nat) (l : List Val) (fid : FuncId) (capt : Array Value) (w : World) (h : ArrIn w A n cap l) (hr : rightA r c l = false) :
    Calls Try.prog 21 #[AV r c (.slice A n cap), .func (.func fid) #[] capt] w fun e w' => ArrO w.heap.size w' e 1 1 [bad9] ∧ Ext w w' := by
  go_enter Try.func21, Try.ntmps21
  go_wp2_with fail
  refine (right_any _ _ _ _ _ _ _ (h.ext (by repeat (first | with_reducible exact Ext.refl _ | with_reducible exact hX | with_reducible exact ext_d _ _ _ _ | with_reducible exact ext_app _ _ _ _ _ | ((with_reducible refine ext_suffix ⟨_, ?_⟩); (try simp only [Array.append_assoc]); rfl) | with_reducible apply Ext.drew | with_reducible apply Ext.alloc | with_reducible apply Ext.more_)))).mono ?_; rintro e w' ⟨rfl, hb⟩; obtain ⟨os1, d1, rfl⟩ := hb.more; clear hb
  go_wp2_with fail
  refine (broken_any _).mono ?_
  rintro e w' ⟨⟨D, c, rfl, hs, hc⟩, hb⟩
  obtain ⟨os2, d2, rfl⟩ := hb.more
  clear hb
  go_wp2
  exact bodyPost_ret (v := AV 1 1 (.slice D 1 c)) (by simp [results, Try.results21, go_sem]; done) rfl ⟨⟨_, _, rfl, (by (try simp only [more_more] at hs); (try simp only [drew_more] at hs); (try simp only [more_drew] at hs); (try simp only [Array.append_assoc] at hs); exact Rd.swap hs (by first | (simp; done) | (simp; omega) | omega) (by first | (simp; done) | (simp; omega) | omega) (by first | (simp; done) | (simp; omega) | omega)), hc⟩, by repeat (first | with_reducible exact Ext.refl _ | with_reducible exact hX | with_reducible exact ext_d _ _ _ _ | with_reducible exact ext_app _ _ _ _ _ | ((with_reducible refine ext_suffix ⟨_, ?_⟩); (try simp only [Array.append_assoc]); rfl) | with_reducible apply Ext.drew | with_reducible apply Ext.alloc | with_reducible apply Ext.more_)⟩
set_option maxRecDepth 100000 in
set_option maxHeartbeats 4000000 in
theorem eachLaw_no (r c : Int) (by_ : Int) (A : Option Addr) (n cap : Nat) (l : List Val) (w : World) (h : ArrIn w A n cap l) (hr : rightA r c l = false) :
    Calls Try.prog 4 #[AV r c (.slice A n cap), .int .u8 by_] w fun e w' => e = .returned (.bool true) ∧ Ext w w' := by
  have hrr : refRightA r c l = false := by rw [← rightA_eq _ _ l h.ok]; exact hr
  have hs1 : sameA 1 1 [bad9] 1 1 [badV 9] = true := by simp [sameA, bad9, badV]
  go_enter Try.func4, Try.ntmps4
  go_wp2_with fail
  refine (awake_any _).mono ?_; rintro e w' ⟨rfl, hb⟩; obtain ⟨os1, d1, rfl⟩ := hb.more; clear hb
  go_wp2_with fail
  refine (small_any _ _ _ _ _ _ _ (h.ext (by repeat (first | with_reducible exact Ext.refl _ | with_reducible exact hX | with_reducible exact ext_d _ _ _ _ | with_reducible exact ext_app _ _ _ _ _ | ((with_reducible refine ext_suffix ⟨_, ?_⟩); (try simp only [Array.append_assoc]); rfl) | with_reducible apply Ext.drew | with_reducible apply Ext.alloc | with_reducible apply Ext.more_)))).mono ?_; rintro e w' ⟨sm, rfl, hsm, hb⟩; obtain ⟨os2, d2, rfl⟩ := hb.more; clear hb; rcases hsm with rfl | ⟨rfl, hn, htx⟩; (focus go_wp2; go_ret; exact ⟨rfl, by repeat (first | with_reducible exact Ext.refl _ | with_reducible exact hX | with_reducible exact ext_d _ _ _ _ | with_reducible exact ext_app _ _ _ _ _ | ((with_reducible refine ext_suffix ⟨_, ?_⟩); (try simp only [Array.append_assoc]); rfl) | with_reducible apply Ext.drew | with_reducible apply Ext.alloc | with_reducible apply Ext.more_)⟩); clear hn htx; go_wp2_with fail
  refine (each_no r c A n cap l _ _ _ (h.ext (by repeat (first | with_reducible exact Ext.refl _ | with_reducible exact hX | with_reducible exact ext_d _ _ _ _ | with_reducible exact ext_app _ _ _ _ _ | ((with_reducible refine ext_suffix ⟨_, ?_⟩); (try simp only [Array.append_assoc]); rfl) | with_reducible apply Ext.drew | with_reducible apply Ext.alloc | with_reducible apply Ext.more_))) hr).mono ?_
  rintro e w' ⟨⟨B, cb, rfl, hTs, hcb⟩, hb⟩
  obtain ⟨os5, d5, rfl⟩ := hb.more
  clear hb
  have hT : ArrIn _ B 1 cb [bad9] := ⟨Rd.mono hTs (Nat.zero_le _), rfl, hcb, by omega, by simpa using bad9_ok⟩
  clear hTs
  go_wp2_with fail
  refine (refRightA_any _ _ _ _ _ _ _ (h.ext (by repeat (first | with_reducible exact Ext.refl _ | with_reducible exact hX | with_reducible exact ext_d _ _ _ _ | with_reducible exact ext_app _ _ _ _ _ | ((with_reducible refine ext_suffix ⟨_, ?_⟩); (try simp only [Array.append_assoc]); rfl) | with_reducible apply Ext.drew | with_reducible apply Ext.alloc | with_reducible apply Ext.more_)))).mono ?_; rintro e w' ⟨rfl, hb⟩; obtain ⟨os7, d7, rfl⟩ := hb.more; clear hb
  go_wp2_with fail
  refine wp_plan (S := Ext _) [(0, 0), (1, 1), (2, 1), (3, 0), (4, 0), (5, 0), (6, 0), (7, 0), (8, 0)] [] (by kernel_rfl) (by kernel_rfl) (by kernel_rfl) (fun _ _ d _ _ h => by cases d <;> exact h) (Ext.drew (Ext.refl _)) ?_
  (refine wpPl_read (v := ?_) rfl ?_ (fun w1 h1 => ?_) ?_; rotate_left 1; rfl; (obtain ⟨os1, d1, rfl⟩ := h1.more; go_simp; first | done | rfl))
  try simp only [Act.put, List.setIfInBounds_toArray, List.set_cons_zero, List.set_cons_succ]
  (refine wpPl_eff rfl ?_ (fun K hK => ?_); rfl; go_simp; refine (refBad_any 9 _).mono ?_; rintro e w' ⟨⟨B2, cb2, rfl, hTs, hcb2⟩, hb⟩; obtain ⟨os8, d8, rfl⟩ := hb.more; clear hb; have hT2 : ArrIn _ B2 1 cb2 [badV 9] := ⟨Rd.mono hTs (Nat.zero_le _), rfl, hcb2, (by omega), (by simpa using badV_ok 9 ⟨(by omega), (by omega)⟩)⟩; clear hTs; (try simp only [more_more] at hT2); refine hK _ _ ?_ ?_; (repeat (first | with_reducible exact Ext.refl _ | with_reducible exact ext_d _ _ _ _ | with_reducible exact ext_app _ _ _ _ _ | ((with_reducible refine ext_suffix ⟨_, ?_⟩); (try simp only [Array.append_assoc]); rfl) | with_reducible apply Ext.drew | with_reducible apply Ext.alloc | with_reducible apply Ext.more_ | apply Ext.drew | apply Ext.alloc | apply Ext.more_)))
  try simp only [Act.put, List.setIfInBounds_toArray, List.set_cons_zero, List.set_cons_succ]
  (refine wpPl_eff rfl ?_ (fun K hK => ?_); rfl; go_simp; refine (refSame_any _ _ _ _ _ _ _ _ _ _ [bad9] [badV 9] _ (hT.ext (by repeat (first | with_reducible exact Ext.refl _ | with_reducible exact hX | with_reducible exact ext_d _ _ _ _ | with_reducible exact ext_app _ _ _ _ _ | ((with_reducible refine ext_suffix ⟨_, ?_⟩); (try simp only [Array.append_assoc]); rfl) | with_reducible apply Ext.drew | with_reducible apply Ext.alloc | with_reducible apply Ext.more_))) (hT2.ext (by repeat (first | with_reducible exact Ext.refl _ | with_reducible exact hX | with_reducible exact ext_d _ _ _ _ | with_reducible exact ext_app _ _ _ _ _ | ((with_reducible refine ext_suffix ⟨_, ?_⟩); (try simp only [Array.append_assoc]); rfl) | with_reducible apply Ext.drew | with_reducible apply Ext.alloc | with_reducible apply Ext.more_)))).mono ?_; rintro e w' ⟨rfl, hb⟩; obtain ⟨os9, d9, rfl⟩ := hb.more; clear hb; refine hK _ _ ?_ ?_; (repeat (first | with_reducible exact Ext.refl _ | with_reducible exact ext_d _ _ _ _ | with_reducible exact ext_app _ _ _ _ _ | ((with_reducible refine ext_suffix ⟨_, ?_⟩); (try simp only [Array.append_assoc]); rfl) | with_reducible apply Ext.drew | with_reducible apply Ext.alloc | with_reducible apply Ext.more_ | apply Ext.drew | apply Ext.alloc | apply Ext.more_)))
  try simp only [Act.put, List.setIfInBounds_toArray, List.set_cons_zero, List.set_cons_succ]
  (refine wpPl_read (v := ?_) rfl ?_ (fun w1 h1 => ?_) ?_; rotate_left 1; rfl; (obtain ⟨os1, d1, rfl⟩ := h1.more; go_simp; first | done | rfl))
  try simp only [Act.put, List.setIfInBounds_toArray, List.set_cons_zero, List.set_cons_succ]
  first | (refine wpPl_skip rfl rfl ?_) | (refine wpPl_read (v := ?_) rfl ?_ (fun w1 h1 => ?_) ?_; rotate_left 1; rfl; (obtain ⟨os1, d1, rfl⟩ := h1.more; go_simp; first | done | rfl)) | (refine wpPl_gread (v := ?_) (c := ?_) rfl rfl rfl rfl ?_ (fun hc w1 h1 => ?_) ?_; rotate_left 2; (first | exact gc_t _ | exact gc_f _ | exact gc_gt _ _ | exact gc_gf _ _); (obtain ⟨os1, d1, rfl⟩ := h1.more; (try simp only [gv_of hc]); (try (have hc1 := and_l hc; (try simp only [gv_of hc1]); (try (have hc2 := and_l hc1; (try simp only [gv_of hc2]))))); go_simp; first | done | rfl))
  try simp only [Act.put, List.setIfInBounds_toArray, List.set_cons_zero, List.set_cons_succ]
  first | (refine wpPl_skip rfl rfl ?_) | (refine wpPl_read (v := ?_) rfl ?_ (fun w1 h1 => ?_) ?_; rotate_left 1; rfl; (obtain ⟨os1, d1, rfl⟩ := h1.more; go_simp; first | done | rfl)) | (refine wpPl_gread (v := ?_) (c := ?_) rfl rfl rfl rfl ?_ (fun hc w1 h1 => ?_) ?_; rotate_left 2; (first | exact gc_t _ | exact gc_f _ | exact gc_gt _ _ | exact gc_gf _ _); (obtain ⟨os1, d1, rfl⟩ := h1.more; (try simp only [gv_of hc]); (try (have hc1 := and_l hc; (try simp only [gv_of hc1]); (try (have hc2 := and_l hc1; (try simp only [gv_of hc2]))))); go_simp; first | done | rfl))
  try simp only [Act.put, List.setIfInBounds_toArray, List.set_cons_zero, List.set_cons_succ]
  first | (refine wpPl_skip rfl rfl ?_) | (refine wpPl_read (v := ?_) rfl ?_ (fun w1 h1 => ?_) ?_; rotate_left 1; rfl; (obtain ⟨os1, d1, rfl⟩ := h1.more; go_simp; first | done | rfl)) | (refine wpPl_gread (v := ?_) (c := ?_) rfl rfl rfl rfl ?_ (fun hc w1 h1 => ?_) ?_; rotate_left 2; (first | exact gc_t _ | exact gc_f _ | exact gc_gt _ _ | exact gc_gf _ _); (obtain ⟨os1, d1, rfl⟩ := h1.more; (try simp only [gv_of hc]); (try (have hc1 := and_l hc; (try simp only [gv_of hc1]); (try (have hc2 := and_l hc1; (try simp only [gv_of hc2]))))); go_simp; first | done | rfl))
  try simp only [Act.put, List.setIfInBounds_toArray, List.set_cons_zero, List.set_cons_succ]
  first | (refine wpPl_pick_and rfl rfl rfl rfl rfl rfl ?_) | (refine wpPl_pick_or rfl rfl rfl rfl rfl rfl ?_) | (refine wpPl_read (v := ?_) rfl ?_ (fun w1 h1 => ?_) ?_; rotate_left 1; rfl; (obtain ⟨os1, d1, rfl⟩ := h1.more; go_simp; first | done | rfl))
  try simp only [Act.put, List.setIfInBounds_toArray, List.set_cons_zero, List.set_cons_succ]
  (refine wpPl_read (v := ?_) rfl ?_ (fun w1 h1 => ?_) ?_; rotate_left 1; rfl; (obtain ⟨os1, d1, rfl⟩ := h1.more; go_simp; first | done | rfl))
  try simp only [Act.put, List.setIfInBounds_toArray, List.set_cons_zero, List.set_cons_succ]
  refine wpPl_nil ?_
  go_wp2
  go_ret
  exact ⟨rfl, by repeat (first | with_reducible exact Ext.refl _ | with_reducible exact hX | with_reducible exact ext_d _ _ _ _ | with_reducible exact ext_app _ _ _ _ _ | ((with_reducible refine ext_suffix ⟨_, ?_⟩); (try simp only [Array.append_assoc]); rfl) | with_reducible apply Ext.drew | with_reducible apply Ext.alloc | with_reducible apply Ext.more_)⟩
theorem oneV_eq {x : Val} (h : x.ok) : oneV x = refOneV x := by unfold oneV refOneV; rw [right_eq x h]
theorem oneV_ok1 {x : Val} (h : x.ok) : (oneV x).ok := oneV_ok h _ (by simp)
set_option maxRecDepth 100000 in
set_option maxHeartbeats 4000000 in
theorem eachLaw_yes (R C : Nat) (by_ : Int) (A : Option Addr) (n cap : Nat) (l : List Val) (w : World) (h : ArrIn w A n cap l) (hr : rightA R C l = true) (hb0 : 0 ≤ by_) (hb1 : by_ ≤ 255) :
    Calls Try.prog 4 #[AV R C (.slice A n cap), .int .u8 by_] w fun e w' => e = .returned (.bool true) ∧ Ext w w' := by
  have hrr : refRightA R C l = true := by rw [← rightA_eq _ _ l h.ok]; exact hr
  obtain ⟨i0, hi0, hz0, hz1, hz2⟩ := info_parts info_val
  obtain ⟨r1, r2, r3, r4, r5, r6⟩ := right_bd hr
  have hN : n ≤ 4096 := by have := h.len; omega
  have hN1 : 0 < n := by have := h.len; have := Nat.mul_le_mul r1 r2; omega
  clear r3 r4
  have hmap : l.map (fun x => oneV (toldV x by_)) = l.map (fun x => refOneV (toldV x by_)) := List.map_congr_left fun x hx => oneV_eq (toldV_ok (h.ok x hx) _)
  have hs1 : sameA R C (l.map (fun x => refOneV (toldV x by_))) R C (l.map (fun x => refOneV (toldV x by_))) = true := by simp [sameA]
  have hs2 : sameA R C l R C l = true := by simp [sameA]
  have hok : ∀ y ∈ l.map (fun x => refOneV (toldV x by_)), y.ok := by
    intro y hy
    obtain ⟨x, hx, rfl⟩ := List.mem_map.1 hy
    exact refOneV_ok (toldV_ok (h.ok x hx) by_) _ (by simp)
  have HM := Lib.hid (And.intro hmap hok)
  clear hmap hok
  have hent : ∀ (args : Array Value) (W : World), (callFunc 22 args).run Try.prog W = .ok (.enter 22 args) W := fun args W => by go_simp
  go_enter Try.func4, Try.ntmps4
  go_wp2_with fail
  refine (awake_any _).mono ?_; rintro e w' ⟨rfl, hb⟩; obtain ⟨os1, d1, rfl⟩ := hb.more; clear hb
  go_wp2_with fail
  refine (small_any _ _ _ _ _ _ _ (h.ext (by repeat (first | with_reducible exact Ext.refl _ | with_reducible exact hX | with_reducible exact ext_d _ _ _ _ | with_reducible exact ext_app _ _ _ _ _ | ((with_reducible refine ext_suffix ⟨_, ?_⟩); (try simp only [Array.append_assoc]); rfl) | with_reducible apply Ext.drew | with_reducible apply Ext.alloc | with_reducible apply Ext.more_)))).mono ?_; rintro e w' ⟨sm, rfl, hsm, hb⟩; obtain ⟨os2, d2, rfl⟩ := hb.more; clear hb; rcases hsm with rfl | ⟨rfl, hn, htx⟩; (focus go_wp2; go_ret; exact ⟨rfl, by repeat (first | with_reducible exact Ext.refl _ | with_reducible exact hX | with_reducible exact ext_d _ _ _ _ | with_reducible exact ext_app _ _ _ _ _ | ((with_reducible refine ext_suffix ⟨_, ?_⟩); (try simp only [Array.append_assoc]); rfl) | with_reducible apply Ext.drew | with_reducible apply Ext.alloc | with_reducible apply Ext.more_)⟩); clear hn htx; go_wp2_with fail
  refine calls_world fun W hW => ?_
  have hX0 : Ext w W := by rw [hW]; exact by repeat (first | with_reducible exact Ext.refl _ | with_reducible exact hX | with_reducible exact ext_d _ _ _ _ | with_reducible exact ext_app _ _ _ _ _ | ((with_reducible refine ext_suffix ⟨_, ?_⟩); (try simp only [Array.append_assoc]); rfl) | with_reducible apply Ext.drew | with_reducible apply Ext.alloc | with_reducible apply Ext.more_)
  have b1 : W.heap[w.heap.size]? = some (.cells #[.int .i64 R, .int .i64 C, .slice A n cap] 25) := by
    rw [hW, Below.heap_alloc _ _ _ (by first | (simp; done) | (simp; omega) | omega), (ext_more _ _ _).block (by first | (simp; done) | (simp; omega) | omega), Below.heap_alloc _ _ _ (by first | (simp; done) | (simp; omega) | omega)]
    exact heap_alloc_new _ _
  have b2 : W.heap[w.heap.size + 1]? = some (.cells #[.int .u8 by_] 5) := by
    rw [hW, Below.heap_alloc _ _ _ (by first | (simp; done) | (simp; omega) | omega), (ext_more _ _ _).block (by first | (simp; done) | (simp; omega) | omega)]
    have := heap_alloc_new (w.alloc (.cells #[.int .i64 R, .int .i64 C, .slice A n cap] 25)) (.cells #[.int .u8 by_] 5)
    simpa using this
  have b3 : W.heap[w.heap.size + 1 + 1 + (os1.size + os2.size)]? = some (.cells #[.slice none 0 0] 22) := by
    rw [hW]
    have := heap_alloc_new (more ((w.alloc (.cells #[.int .i64 R, .int .i64 C, .slice A n cap] 25)).alloc (.cells #[.int .u8 by_] 5)) (os1 ++ os2) d2) (.cells #[.slice none 0 0] 22)
    simpa using this
  have hpl : w.heap.size + 1 < w.heap.size + 1 + 1 + (os1.size + os2.size) := by omega
  clear hW
  generalize w.heap.size + 1 + 1 + (os1.size + os2.size) = pa at *
  clear os1 os2 d1 d2
  have z3 := lt_of_block b3
  refine (each_yes R C n cap pa A l _ _ (fun x => toldV x by_) (fun s0 L V => (∃ A cap, AskA (s0 + 3) pa A cap L V) ∧ V.cell? ⟨w.heap.size + 1, 0, none⟩ = some (.int .u8 by_)) W (h.ext hX0) hr z3 ?_ hent (fun s0 hs => ask_spec W.heap.size s0 pa (w.heap.size + 1) by_ hs (by omega) z3 (by omega) hb0 hb1) (fun s0 hs => ⟨⟨none, 0, by omega, b3, World.ownsRow_nil _ _ _ _⟩, cell_of_row _ _ 0 _ _ _ b2⟩)).mono ?_
  · intro b off e
    obtain ⟨b', off', e', hv, _⟩ := h.get (k := 0) hN1
    rw [e] at e'
    simp only [Option.some.injEq, Addr.mk.injEq, and_true] at e'
    have := hv.lt
    omega
  rintro e V ⟨D, c, s0, rfl, hDs, hc, hs0, ⟨⟨A', cap', hask⟩, hby⟩, hbut⟩
  rw [HM.out.1] at hDs
  have hX : Ext w V := ⟨hbut.os.trans hX0.os, hbut.tape.trans hX0.tape, hbut.output.trans hX0.output, Nat.le_trans hX0.size hbut.size, fun b hb => (hbut.block b (Nat.lt_of_lt_of_le hb hX0.size) (by omega)).trans (hX0.block hb)⟩
  have hAsk : ArrIn V A' n cap' l := by
    obtain ⟨A2, c2, e2, hrd, hcc⟩ := Rd.of_own hask.own
    simp only [Value.slice.injEq] at e2
    obtain ⟨rfl, e3, rfl⟩ := e2
    exact ⟨Rd.mono hrd (Nat.zero_le _), h.len, by rw [← h.len]; exact hcc, by omega, h.ok⟩
  have hD : ArrIn V D n c (l.map (fun x => refOneV (toldV x by_))) := ⟨Rd.mono hDs (Nat.zero_le _), by rw [List.length_map]; exact h.len, hc, by omega, HM.out.2⟩
  have hA := h.ext hX
  have t1 := (hbut.block w.heap.size (by omega) (by omega)).trans b1
  have p0 := cell_of_row _ _ 0 _ _ _ t1
  have p1 := cell_of_row _ _ 1 _ _ _ t1
  have p2 := cell_of_row _ _ 2 _ _ _ t1
  have ca := cell_of_row _ _ 0 _ _ _ hask.var
  rw [h.len] at ca
  have zV : pa < V.heap.size := lt_of_block hask.var
  have zV0 : w.heap.size < V.heap.size := by omega
  have zV1 : w.heap.size + 1 < V.heap.size := by omega
  clear b1 b2 b3 hask t1 hbut hDs hX0 z3
  go_wp2_with fail
  refine (refRightA_any _ _ _ _ _ _ _ (hA.ext (by repeat (first | with_reducible exact Ext.refl _ | with_reducible exact hX | with_reducible exact ext_d _ _ _ _ | with_reducible exact ext_app _ _ _ _ _ | ((with_reducible refine ext_suffix ⟨_, ?_⟩); (try simp only [Array.append_assoc]); rfl) | with_reducible apply Ext.drew | with_reducible apply Ext.alloc | with_reducible apply Ext.more_)))).mono ?_; rintro e w' ⟨rfl, hb⟩; obtain ⟨os3, d3, rfl⟩ := hb.more; clear hb
  go_wp2_with fail
  have hacc0 := Acc.start (more (V.alloc (.cells #[.int .i64 R, .int .i64 C, .slice D n c] 25)) os3 d3) R C
  go_loopw [37] (fun i wr => ∃ (k cp : Nat) (G : Option Addr), k ≤ n ∧ i = .int .i64 k ∧ Acc (more (V.alloc (.cells #[.int .i64 R, .int .i64 C, .slice D n c] 25)) os3 d3) (V.heap.size + 1 + os3.size) R C G cp k ((l.map (fun x => refOneV (toldV x by_))).take k) wr) (fun i _ => n - (intOf i).toNat)
  case atStart => exact ⟨0, 0, none, Nat.zero_le _, rfl, by simpa using hacc0⟩
  case round =>
    clear hacc0
    obtain ⟨k, cp, G, hk, rfl, hacc⟩ := hrel
    have hlt0 := hacc.lt
    by_cases hlt : k < n
    · obtain ⟨x, b, off, hxl, hxo, rfl, hv⟩ := hA.at hlt
      have hbl := hv.lt
      have hsz := hacc.ext.size
      simp only [more_size, World.size_alloc] at hsz
      obtain ⟨e0, e1, e2, e3, e4, e5⟩ := (hv.ext (Ext.trans (show Ext V (more (V.alloc (.cells #[.int .i64 R, .int .i64 C, .slice D n c] 25)) os3 d3) from by repeat (first | with_reducible exact Ext.refl _ | with_reducible exact hX | with_reducible exact ext_d _ _ _ _ | with_reducible exact ext_app _ _ _ _ _ | ((with_reducible refine ext_suffix ⟨_, ?_⟩); (try simp only [Array.append_assoc]); rfl) | with_reducible apply Ext.drew | with_reducible apply Ext.alloc | with_reducible apply Ext.more_)) hacc.ext))
      have zb : b < wr.heap.size := by omega
      go_wp2
      clear e0 e1 e2 e3 e4 e5
      generalize hy : toldV x by_ = y
      generalize hz : refOneV y = z
      have hyo : y.ok := by rw [← hy]; exact toldV_ok hxo _
      refine wp_plan (S := fun Wq => AccS (more (V.alloc (.cells #[.int .i64 R, .int .i64 C, .slice D n c] 25)) os3 d3) (V.heap.size + 1 + os3.size) R C G cp k Wq ∧ Wq.heap[wr.heap.size]? = some (.cells #[.int .i64 x.kind, .int .i64 x.mant, .int .i64 x.exp, .string x.text, .bool x.truth, .int .i64 x.fault] 34)) [(0, 0), (1, 0), (2, 0), (3, 0), (4, 1), (5, 1), (6, 1), (7, 1), (8, 0), (9, 2)] [9] (by kernel_rfl) (by kernel_rfl) (by kernel_rfl) (fun _ _ d _ _ h => by cases d <;> exact h) ⟨⟨(hacc.of_ext (by repeat (first | with_reducible exact Ext.refl _ | with_reducible exact hX | with_reducible exact ext_d _ _ _ _ | with_reducible exact ext_app _ _ _ _ _ | ((with_reducible refine ext_suffix ⟨_, ?_⟩); (try simp only [Array.append_assoc]); rfl) | with_reducible apply Ext.drew | with_reducible apply Ext.alloc | with_reducible apply Ext.more_))).ext, (hacc.of_ext (by repeat (first | with_reducible exact Ext.refl _ | with_reducible exact hX | with_reducible exact ext_d _ _ _ _ | with_reducible exact ext_app _ _ _ _ _ | ((with_reducible refine ext_suffix ⟨_, ?_⟩); (try simp only [Array.append_assoc]); rfl) | with_reducible apply Ext.drew | with_reducible apply Ext.alloc | with_reducible apply Ext.more_))).row⟩, ((by repeat (first | with_reducible exact Ext.refl _ | with_reducible exact hX | with_reducible exact ext_d _ _ _ _ | with_reducible exact ext_app _ _ _ _ _ | ((with_reducible refine ext_suffix ⟨_, ?_⟩); (try simp only [Array.append_assoc]); rfl) | with_reducible apply Ext.drew | with_reducible apply Ext.alloc | with_reducible apply Ext.more_) : Ext (wr.alloc (.cells #[.int .i64 x.kind, .int .i64 x.mant, .int .i64 x.exp, .string x.text, .bool x.truth, .int .i64 x.fault] 34)) _).block (by simp)).trans (heap_alloc_new _ _)⟩ ?_
      (refine wpPl_read (v := ?_) rfl ?_ (fun w1 h1 => ?_) ?_; rotate_left 1; rfl; (obtain ⟨⟨h1e, h1r⟩, h1v⟩ := h1; have c2 := cell_of_row _ _ 2 _ _ _ h1r; have v0 := cell_of_row _ _ 0 _ _ _ h1v; have v1 := cell_of_row _ _ 1 _ _ _ h1v; have v2 := cell_of_row _ _ 2 _ _ _ h1v; have v3 := cell_of_row _ _ 3 _ _ _ h1v; have v4 := cell_of_row _ _ 4 _ _ _ h1v; have v5 := cell_of_row _ _ 5 _ _ _ h1v; have y0 := h1e.cell_some (Ext.cell_some (show Ext V (more (V.alloc (.cells #[.int .i64 R, .int .i64 C, .slice D n c] 25)) os3 d3) from by repeat (first | with_reducible exact Ext.refl _ | with_reducible exact hX | with_reducible exact ext_d _ _ _ _ | with_reducible exact ext_app _ _ _ _ _ | ((with_reducible refine ext_suffix ⟨_, ?_⟩); (try simp only [Array.append_assoc]); rfl) | with_reducible apply Ext.drew | with_reducible apply Ext.alloc | with_reducible apply Ext.more_)) hby); clear h1r h1v h1e; go_simp; first | done | rfl))
      try simp only [Act.put, List.setIfInBounds_toArray, List.set_cons_zero, List.set_cons_succ]
      (refine wpPl_read (v := ?_) rfl ?_ (fun w1 h1 => ?_) ?_; rotate_left 1; rfl; (obtain ⟨⟨h1e, h1r⟩, h1v⟩ := h1; have c2 := cell_of_row _ _ 2 _ _ _ h1r; have v0 := cell_of_row _ _ 0 _ _ _ h1v; have v1 := cell_of_row _ _ 1 _ _ _ h1v; have v2 := cell_of_row _ _ 2 _ _ _ h1v; have v3 := cell_of_row _ _ 3 _ _ _ h1v; have v4 := cell_of_row _ _ 4 _ _ _ h1v; have v5 := cell_of_row _ _ 5 _ _ _ h1v; have y0 := h1e.cell_some (Ext.cell_some (show Ext V (more (V.alloc (.cells #[.int .i64 R, .int .i64 C, .slice D n c] 25)) os3 d3) from by repeat (first | with_reducible exact Ext.refl _ | with_reducible exact hX | with_reducible exact ext_d _ _ _ _ | with_reducible exact ext_app _ _ _ _ _ | ((with_reducible refine ext_suffix ⟨_, ?_⟩); (try simp only [Array.append_assoc]); rfl) | with_reducible apply Ext.drew | with_reducible apply Ext.alloc | with_reducible apply Ext.more_)) hby); clear h1r h1v h1e; go_simp; first | done | rfl))
      try simp only [Act.put, List.setIfInBounds_toArray, List.set_cons_zero, List.set_cons_succ]
      (refine wpPl_read (v := ?_) rfl ?_ (fun w1 h1 => ?_) ?_; rotate_left 1; rfl; (obtain ⟨⟨h1e, h1r⟩, h1v⟩ := h1; have c2 := cell_of_row _ _ 2 _ _ _ h1r; have v0 := cell_of_row _ _ 0 _ _ _ h1v; have v1 := cell_of_row _ _ 1 _ _ _ h1v; have v2 := cell_of_row _ _ 2 _ _ _ h1v; have v3 := cell_of_row _ _ 3 _ _ _ h1v; have v4 := cell_of_row _ _ 4 _ _ _ h1v; have v5 := cell_of_row _ _ 5 _ _ _ h1v; have y0 := h1e.cell_some (Ext.cell_some (show Ext V (more (V.alloc (.cells #[.int .i64 R, .int .i64 C, .slice D n c] 25)) os3 d3) from by repeat (first | with_reducible exact Ext.refl _ | with_reducible exact hX | with_reducible exact ext_d _ _ _ _ | with_reducible exact ext_app _ _ _ _ _ | ((with_reducible refine ext_suffix ⟨_, ?_⟩); (try simp only [Array.append_assoc]); rfl) | with_reducible apply Ext.drew | with_reducible apply Ext.alloc | with_reducible apply Ext.more_)) hby); clear h1r h1v h1e; go_simp; first | done | rfl))
      try simp only [Act.put, List.setIfInBounds_toArray, List.set_cons_zero, List.set_cons_succ]
      (refine wpPl_read (v := ?_) rfl ?_ (fun w1 h1 => ?_) ?_; rotate_left 1; rfl; (obtain ⟨⟨h1e, h1r⟩, h1v⟩ := h1; have c2 := cell_of_row _ _ 2 _ _ _ h1r; have v0 := cell_of_row _ _ 0 _ _ _ h1v; have v1 := cell_of_row _ _ 1 _ _ _ h1v; have v2 := cell_of_row _ _ 2 _ _ _ h1v; have v3 := cell_of_row _ _ 3 _ _ _ h1v; have v4 := cell_of_row _ _ 4 _ _ _ h1v; have v5 := cell_of_row _ _ 5 _ _ _ h1v; have y0 := h1e.cell_some (Ext.cell_some (show Ext V (more (V.alloc (.cells #[.int .i64 R, .int .i64 C, .slice D n c] 25)) os3 d3) from by repeat (first | with_reducible exact Ext.refl _ | with_reducible exact hX | with_reducible exact ext_d _ _ _ _ | with_reducible exact ext_app _ _ _ _ _ | ((with_reducible refine ext_suffix ⟨_, ?_⟩); (try simp only [Array.append_assoc]); rfl) | with_reducible apply Ext.drew | with_reducible apply Ext.alloc | with_reducible apply Ext.more_)) hby); clear h1r h1v h1e; go_simp; first | done | rfl))
      try simp only [Act.put, List.setIfInBounds_toArray, List.set_cons_zero, List.set_cons_succ]
      (refine wpPl_eff rfl ?_ (fun K hK => ?_); rfl; go_simp; refine (told_any _ _ _ _ _ _ _ _ hxo.2.2.2.1 hb0 hb1 y hy).mono ?_; rintro e w' ⟨rfl, hb⟩; obtain ⟨os4, d4, rfl⟩ := hb.more; clear hb; refine hK _ _ ⟨⟨(hacc.of_ext (by repeat (first | with_reducible exact Ext.refl _ | with_reducible exact hX | with_reducible exact ext_d _ _ _ _ | with_reducible exact ext_app _ _ _ _ _ | ((with_reducible refine ext_suffix ⟨_, ?_⟩); (try simp only [Array.append_assoc]); rfl) | with_reducible apply Ext.drew | with_reducible apply Ext.alloc | with_reducible apply Ext.more_))).ext, (hacc.of_ext (by repeat (first | with_reducible exact Ext.refl _ | with_reducible exact hX | with_reducible exact ext_d _ _ _ _ | with_reducible exact ext_app _ _ _ _ _ | ((with_reducible refine ext_suffix ⟨_, ?_⟩); (try simp only [Array.append_assoc]); rfl) | with_reducible apply Ext.drew | with_reducible apply Ext.alloc | with_reducible apply Ext.more_))).row⟩, ((by repeat (first | with_reducible exact Ext.refl _ | with_reducible exact hX | with_reducible exact ext_d _ _ _ _ | with_reducible exact ext_app _ _ _ _ _ | ((with_reducible refine ext_suffix ⟨_, ?_⟩); (try simp only [Array.append_assoc]); rfl) | with_reducible apply Ext.drew | with_reducible apply Ext.alloc | with_reducible apply Ext.more_) : Ext (wr.alloc (.cells #[.int .i64 x.kind, .int .i64 x.mant, .int .i64 x.exp, .string x.text, .bool x.truth, .int .i64 x.fault] 34)) _).block (by simp)).trans (heap_alloc_new _ _)⟩ ?_)
      try simp only [Act.put, List.setIfInBounds_toArray, List.set_cons_zero, List.set_cons_succ]
      (refine wpPl_eff rfl ?_ (fun K hK => ?_); rfl; go_simp; refine (may_any _ _ _ _ _ _ _ hyo.2.1 hyo.2.2.2.1 z hz).mono ?_; rintro e w' ⟨rfl, hb⟩; obtain ⟨os5, d5, rfl⟩ := hb.more; clear hb; refine hK _ _ ⟨⟨(hacc.of_ext (by repeat (first | with_reducible exact Ext.refl _ | with_reducible exact hX | with_reducible exact ext_d _ _ _ _ | with_reducible exact ext_app _ _ _ _ _ | ((with_reducible refine ext_suffix ⟨_, ?_⟩); (try simp only [Array.append_assoc]); rfl) | with_reducible apply Ext.drew | with_reducible apply Ext.alloc | with_reducible apply Ext.more_))).ext, (hacc.of_ext (by repeat (first | with_reducible exact Ext.refl _ | with_reducible exact hX | with_reducible exact ext_d _ _ _ _ | with_reducible exact ext_app _ _ _ _ _ | ((with_reducible refine ext_suffix ⟨_, ?_⟩); (try simp only [Array.append_assoc]); rfl) | with_reducible apply Ext.drew | with_reducible apply Ext.alloc | with_reducible apply Ext.more_))).row⟩, ((by repeat (first | with_reducible exact Ext.refl _ | with_reducible exact hX | with_reducible exact ext_d _ _ _ _ | with_reducible exact ext_app _ _ _ _ _ | ((with_reducible refine ext_suffix ⟨_, ?_⟩); (try simp only [Array.append_assoc]); rfl) | with_reducible apply Ext.drew | with_reducible apply Ext.alloc | with_reducible apply Ext.more_) : Ext (wr.alloc (.cells #[.int .i64 x.kind, .int .i64 x.mant, .int .i64 x.exp, .string x.text, .bool x.truth, .int .i64 x.fault] 34)) _).block (by simp)).trans (heap_alloc_new _ _)⟩ ?_)
      try simp only [Act.put, List.setIfInBounds_toArray, List.set_cons_zero, List.set_cons_succ]
      (refine wpPl_eff rfl ?_ (fun K hK => ?_); rfl; go_simp; refine hK _ _ ⟨⟨(hacc.of_ext (by repeat (first | with_reducible exact Ext.refl _ | with_reducible exact hX | with_reducible exact ext_d _ _ _ _ | with_reducible exact ext_app _ _ _ _ _ | ((with_reducible refine ext_suffix ⟨_, ?_⟩); (try simp only [Array.append_assoc]); rfl) | with_reducible apply Ext.drew | with_reducible apply Ext.alloc | with_reducible apply Ext.more_))).ext, (hacc.of_ext (by repeat (first | with_reducible exact Ext.refl _ | with_reducible exact hX | with_reducible exact ext_d _ _ _ _ | with_reducible exact ext_app _ _ _ _ _ | ((with_reducible refine ext_suffix ⟨_, ?_⟩); (try simp only [Array.append_assoc]); rfl) | with_reducible apply Ext.drew | with_reducible apply Ext.alloc | with_reducible apply Ext.more_))).row⟩, ((by repeat (first | with_reducible exact Ext.refl _ | with_reducible exact hX | with_reducible exact ext_d _ _ _ _ | with_reducible exact ext_app _ _ _ _ _ | ((with_reducible refine ext_suffix ⟨_, ?_⟩); (try simp only [Array.append_assoc]); rfl) | with_reducible apply Ext.drew | with_reducible apply Ext.alloc | with_reducible apply Ext.more_) : Ext (wr.alloc (.cells #[.int .i64 x.kind, .int .i64 x.mant, .int .i64 x.exp, .string x.text, .bool x.truth, .int .i64 x.fault] 34)) _).block (by simp)).trans (heap_alloc_new _ _)⟩ ?_)
      try simp only [Act.put, List.setIfInBounds_toArray, List.set_cons_zero, List.set_cons_succ]
      (refine wpPl_eff rfl ?_ (fun K hK => ?_); rfl)
      refine wp_append_own _ _ _ _ rfl _ 34 i0 (VV 0 0 0 ⟨#[]⟩ false 0) 6 56 Try.underlying22 hi0 hz0 hz1 hz2 rfl (by decide) _ _ _ rfl (own_ext hacc.own (by repeat (first | with_reducible exact Ext.refl _ | with_reducible exact hX | with_reducible exact ext_d _ _ _ _ | with_reducible exact ext_app _ _ _ _ _ | ((with_reducible refine ext_suffix ⟨_, ?_⟩); (try simp only [Array.append_assoc]); rfl) | with_reducible apply Ext.drew | with_reducible apply Ext.alloc | with_reducible apply Ext.more_))) _ 1 1 (Val.cells z) rfl rfl (new_cells_at _ _ _ (by simp) rfl _) (cells_one _) (by simp only [maxLen]; omega) (by omega) (by simp; omega) ?_
      intro v3 w3 ho3 hg3
      have hv3 : w3.heap[wr.heap.size]? = some (.cells #[.int .i64 x.kind, .int .i64 x.mant, .int .i64 x.exp, .string x.text, .bool x.truth, .int .i64 x.fault] 34) := by
        rw [hg3.block wr.heap.size (by first | (simp; done) | (simp; omega) | omega) (fun e => by have := own_lt hacc.own _ e.symm; omega)]
        exact ((by repeat (first | with_reducible exact Ext.refl _ | with_reducible exact hX | with_reducible exact ext_d _ _ _ _ | with_reducible exact ext_app _ _ _ _ _ | ((with_reducible refine ext_suffix ⟨_, ?_⟩); (try simp only [Array.append_assoc]); rfl) | with_reducible apply Ext.drew | with_reducible apply Ext.alloc | with_reducible apply Ext.more_) : Ext (wr.alloc (.cells #[.int .i64 x.kind, .int .i64 x.mant, .int .i64 x.exp, .string x.text, .bool x.truth, .int .i64 x.fault] 34)) _).block (by simp)).trans (heap_alloc_new _ _)
      obtain ⟨A2, cap2, rfl, hrow3, hex3, hacc2⟩ := hacc.step (by repeat (first | with_reducible exact Ext.refl _ | with_reducible exact hX | with_reducible exact ext_d _ _ _ _ | with_reducible exact ext_app _ _ _ _ _ | ((with_reducible refine ext_suffix ⟨_, ?_⟩); (try simp only [Array.append_assoc]); rfl) | with_reducible apply Ext.drew | with_reducible apply Ext.alloc | with_reducible apply Ext.more_)) hg3 ho3
      refine hK _ _ ⟨⟨hex3, hrow3⟩, hv3⟩ ?_
      try simp only [Act.put, List.setIfInBounds_toArray, List.set_cons_zero, List.set_cons_succ]
      (refine wpPl_read (v := ?_) rfl ?_ (fun w1 h1 => ?_) ?_; rotate_left 1; rfl; (obtain ⟨⟨h1e, h1r⟩, h1v⟩ := h1; have c2 := cell_of_row _ _ 2 _ _ _ h1r; have v0 := cell_of_row _ _ 0 _ _ _ h1v; have v1 := cell_of_row _ _ 1 _ _ _ h1v; have v2 := cell_of_row _ _ 2 _ _ _ h1v; have v3 := cell_of_row _ _ 3 _ _ _ h1v; have v4 := cell_of_row _ _ 4 _ _ _ h1v; have v5 := cell_of_row _ _ 5 _ _ _ h1v; have y0 := h1e.cell_some (Ext.cell_some (show Ext V (more (V.alloc (.cells #[.int .i64 R, .int .i64 C, .slice D n c] 25)) os3 d3) from by repeat (first | with_reducible exact Ext.refl _ | with_reducible exact hX | with_reducible exact ext_d _ _ _ _ | with_reducible exact ext_app _ _ _ _ _ | ((with_reducible refine ext_suffix ⟨_, ?_⟩); (try simp only [Array.append_assoc]); rfl) | with_reducible apply Ext.drew | with_reducible apply Ext.alloc | with_reducible apply Ext.more_)) hby); clear h1r h1v h1e; go_simp; first | done | rfl))
      try simp only [Act.put, List.setIfInBounds_toArray, List.set_cons_zero, List.set_cons_succ]
      have c2 := cell_of_row _ _ 2 _ _ _ hrow3
      have f2 := frozen_of_row _ _ 2 _ _ hrow3
      clear hrow3 hex3 hg3 ho3 hv3
      (refine wpPl_tail rfl ?_ (fun K hK => ?_); rfl; go_simp; refine hK _ _ ?_)
      clear c2 f2
      try simp only [Act.put, List.setIfInBounds_toArray, List.set_cons_zero, List.set_cons_succ]
      refine wpPl_nil ?_
      go_wp2
      refine ⟨⟨k + 1, cap2, A2, by omega, by go_num, ?_⟩, by simp [intOf]; omega⟩
      have e : (l.map (fun x => refOneV (toldV x by_))).take (k + 1) = (l.map (fun x => refOneV (toldV x by_))).take k ++ [z] := by
        rw [List.take_succ_eq_append_getElem (by rw [List.length_map, h.len]; exact hlt)]
        congr 2
        rw [List.getElem_map]
        have : l[k]'(by rw [h.len]; exact hlt) = x := by
          rw [List.getElem?_eq_getElem (by rw [h.len]; exact hlt)] at hxl
          exact Option.some.inj hxl
        rw [this, hy, hz]
      rw [e]
      exact hacc2
    · obtain rfl : n = k := by omega
      rw [List.take_of_length_le (by rw [List.length_map, h.len]; exact Nat.le_refl _)] at hacc
      obtain ⟨hwrd, hwcp⟩ := hacc.rd
      have hWant : ArrIn wr G n cp (l.map (fun x => refOneV (toldV x by_))) := ⟨Rd.mono hwrd (Nat.zero_le _), by rw [List.length_map]; exact h.len, hwcp, by omega, HM.out.2⟩
      have hVW : Ext V wr := Ext.trans (show Ext V (more (V.alloc (.cells #[.int .i64 R, .int .i64 C, .slice D n c] 25)) os3 d3) from by repeat (first | with_reducible exact Ext.refl _ | with_reducible exact hX | with_reducible exact ext_d _ _ _ _ | with_reducible exact ext_app _ _ _ _ _ | ((with_reducible refine ext_suffix ⟨_, ?_⟩); (try simp only [Array.append_assoc]); rfl) | with_reducible apply Ext.drew | with_reducible apply Ext.alloc | with_reducible apply Ext.more_)) hacc.ext
      have g0 := hVW.cell_some p0
      have g1 := hVW.cell_some p1
      have g2 := hVW.cell_some p2
      have g3 := hVW.cell_some ca
      have k0 := cell_of_row _ _ 0 _ _ _ hacc.row
      have k1 := cell_of_row _ _ 1 _ _ _ hacc.row
      have k2 := cell_of_row _ _ 2 _ _ _ hacc.row
      have m0 : wr.cell? ⟨V.heap.size, 0, none⟩ = some (.int .i64 R) := hacc.ext.cell_some (by simp [go_sem])
      have m1 : wr.cell? ⟨V.heap.size, 1, none⟩ = some (.int .i64 C) := hacc.ext.cell_some (by simp [go_sem])
      have m2 : wr.cell? ⟨V.heap.size, 2, none⟩ = some (.slice D n c) := hacc.ext.cell_some (by simp [go_sem])
      have hsz := hVW.size
      have y0 : w.heap.size < wr.heap.size := by omega
      have y1 : pa < wr.heap.size := by omega
      have hA' := hA.ext hVW
      have hD' := hD.ext hVW
      have hAsk' := hAsk.ext hVW
      clear p0 p1 p2 ca
      go_wp2_with fail
      refine (refSame_any _ _ _ _ _ _ _ _ _ _ (l.map (fun x => refOneV (toldV x by_))) (l.map (fun x => refOneV (toldV x by_))) _ (hD'.ext (by repeat (first | with_reducible exact Ext.refl _ | with_reducible exact hX | with_reducible exact ext_d _ _ _ _ | with_reducible exact ext_app _ _ _ _ _ | ((with_reducible refine ext_suffix ⟨_, ?_⟩); (try simp only [Array.append_assoc]); rfl) | with_reducible apply Ext.drew | with_reducible apply Ext.alloc | with_reducible apply Ext.more_))) (hWant.ext (by repeat (first | with_reducible exact Ext.refl _ | with_reducible exact hX | with_reducible exact ext_d _ _ _ _ | with_reducible exact ext_app _ _ _ _ _ | ((with_reducible refine ext_suffix ⟨_, ?_⟩); (try simp only [Array.append_assoc]); rfl) | with_reducible apply Ext.drew | with_reducible apply Ext.alloc | with_reducible apply Ext.more_)))).mono ?_; rintro e w' ⟨rfl, hb⟩; obtain ⟨os6, d6, rfl⟩ := hb.more; clear hb
      go_wp2_with fail
      refine (refSame_any _ _ _ _ _ _ _ _ _ _ l l _ (hAsk'.ext (by repeat (first | with_reducible exact Ext.refl _ | with_reducible exact hX | with_reducible exact ext_d _ _ _ _ | with_reducible exact ext_app _ _ _ _ _ | ((with_reducible refine ext_suffix ⟨_, ?_⟩); (try simp only [Array.append_assoc]); rfl) | with_reducible apply Ext.drew | with_reducible apply Ext.alloc | with_reducible apply Ext.more_))) (hA'.ext (by repeat (first | with_reducible exact Ext.refl _ | with_reducible exact hX | with_reducible exact ext_d _ _ _ _ | with_reducible exact ext_app _ _ _ _ _ | ((with_reducible refine ext_suffix ⟨_, ?_⟩); (try simp only [Array.append_assoc]); rfl) | with_reducible apply Ext.drew | with_reducible apply Ext.alloc | with_reducible apply Ext.more_)))).mono ?_; rintro e w' ⟨rfl, hb⟩; obtain ⟨os7, d7, rfl⟩ := hb.more; clear hb
      go_wp2
      go_ret
      exact ⟨rfl, hX.trans (hVW.trans (by repeat (first | with_reducible exact Ext.refl _ | with_reducible exact hX | with_reducible exact ext_d _ _ _ _ | with_reducible exact ext_app _ _ _ _ _ | ((with_reducible refine ext_suffix ⟨_, ?_⟩); (try simp only [Array.append_assoc]); rfl) | with_reducible apply Ext.drew | with_reducible apply Ext.alloc | with_reducible apply Ext.more_)))⟩
theorem eachLaw_any (r c : Int) (by_ : Int) (A : Option Addr) (n cap : Nat) (l : List Val) (w : World) (h : ArrIn w A n cap l) (hb0 : 0 ≤ by_) (hb1 : by_ ≤ 255) :
    Calls Try.prog 4 #[AV r c (.slice A n cap), .int .u8 by_] w fun e w' => e = .returned (.bool true) ∧ Ext w w' := by
  by_cases hr : rightA r c l = true
  · obtain ⟨R, C, rfl, rfl, _⟩ := right_parts hr
    exact eachLaw_yes R C by_ A n cap l w h hr hb0 hb1
  · exact eachLaw_no r c by_ A n cap l w h (by simpa using hr)
end Go.Proofs.Ytdhdphgecoplbaa
