/- num.spread: noughts behind a number's digits. -/
import Derived.Test.YtihfiegopnjeiaaDoorRStrip
import Derived.Lib.AppendZeros
namespace Go.Proofs.YtihfiegopnjeiaaDoor
set_option linter.unusedSimpArgs false
set_option linter.unusedVariables false
open Go.RowKit NM

theorem zeroCells_one (z : Value) (n : Nat) : Builtin.zeroCells #[z] n = (List.replicate n z).toArray := by
  apply Array.ext_getElem?
  intro j
  unfold Builtin.zeroCells
  by_cases h : j < n
  · rw [Array.getElem?_eq_getElem (by simpa using h), Array.getElem?_eq_getElem (by simpa using h)]
    simp [Nat.mod_one]
  · rw [Array.getElem?_eq_none (by simp; omega), Array.getElem?_eq_none (by simp; omega)]
/-- append of so many noughts onto a list of one's own. -/
theorem append_zeros {P : Program} (w : World) (base : Nat) (t tn ty e : TypeId) (i : TypeInfo) (z : Value) (kn : IntKind) (bytes : Nat) (ht : P.underlying t = some (.slice e)) (htn : P.underlying tn = some (.int kn)) (hi : P.info? e = some i) (hz : i.zero = some z)
    (hsize : i.size = 1) (hby : i.bytes = bytes) (hzc : z.cells = #[z]) (h1 : z.oneCell' = true)
    (v : Value) (n : Nat) (xs : List Value) (hown : w.ownsRow base e 1 v n xs) (hn0 : 0 < n) (m : Nat) (h63 : n + m ≤ 1000000) (hbytes : bytes ≤ 1000) (hbase : base ≤ w.heap.size) :
    ∃ v' w', (Builtin.append_ #[t, tn] ty #[v, .int .i64 (m : Int)]).run P w = .ok v' w' ∧ w'.ownsRow base e 1 v' (n + m) (xs ++ List.replicate m z) ∧ w.grownBy w' v.ownBlock := by
  have hw : IntKind.i64.wrap (m : Int) = m := by rw [IntKind.wrap_i64]; omega
  have hneg : ¬ ((m : Int) < 0) := by omega
  have hmb : m * i.bytes ≤ 1000000 * 1000 := Nat.mul_le_mul (by omega) (by omega)
  have h48i : ¬ (281474976710656 < (m : Int) * (i.bytes : Int)) := by rw [← Int.natCast_mul]; omega
  rcases hown.2 with ⟨_, h0⟩ | ⟨g, cap, cur, rfl, hbg, hg, hnc, hcm, hcs, htake⟩
  · omega
  have hlen : (xs ++ List.replicate m z).length = (n + m) * 1 := by rw [List.length_append, hown.1, List.length_replicate]; omega
  by_cases hm : m = 0
  · subst hm
    have hw0 : IntKind.i64.wrap 0 = 0 := by decide
    refine ⟨.slice (some ⟨g, 0, none⟩) n cap, w, ?_, by simpa using hown, ⟨rfl, rfl, rfl, Nat.le_refl _, fun _ _ _ => rfl⟩⟩
    simp [Builtin.append_, run_underlying ht, run_underlying htn, sizeOf, typeInfo, hi, asInt, asIntOf, hw0, hnc, storeCells]
  · have hms : ¬ (m * i.size = 0) := by rw [hsize]; omega
    have hms1 : ¬ (m = 0) := hm
    by_cases hroom : n + m ≤ cap
    · have hst := run_storeCells_at P g n e (List.replicate m z) 0 cur w hg (by rw [List.length_replicate]; omega) (fun u hu => by rw [List.eq_of_mem_replicate hu]; exact h1)
      simp only [Nat.add_zero] at hst
      refine ⟨.slice (some ⟨g, 0, none⟩) (n + m) cap, _, ?_, ⟨hlen, .inr ⟨g, cap, (cur.toList.take n ++ List.replicate m z ++ cur.toList.drop (n + (List.replicate m z).length)).toArray, rfl, hbg, setRow_heap w g cur _ e _ hg, hroom, hcm, ?_, ?_⟩⟩, ⟨rfl, rfl, rfl, by simp, fun k _ hk => setRow_other w g k _ (fun e => hk (by simp [Value.ownBlock, e]))⟩⟩
      · simp [Builtin.append_, run_underlying ht, run_underlying htn, sizeOf, typeInfo, zeroValue, hi, hz, asInt, asIntOf, hw, hneg, h48i, hms1, hroom, hsize, hzc, zeroCells_one, Addr.add_lit]
        rw [hst]
        simp
      · simp only [List.size_toArray, List.length_append, List.length_take, List.length_drop, Array.length_toList, List.length_replicate]
        omega
      · rw [Nat.mul_one] at htake
        rw [htake, ← hlen]
        exact List.take_left
    · have holds : ∀ j u, xs[j]? = some u → w.cell? ((⟨g, 0, none⟩ : Addr).add j) = some u := hown.cells (g := g) rfl
      have hf := run_firstCells_some (P := P) w.drew i.size n ⟨g, 0, none⟩ n cap xs (by rw [hsize]; exact hown.1) (by simpa using holds)
      rw [hsize] at hf
      have h63' : ¬ (9223372036854775807 < ((n : Int) + (m : Int))) := by omega
      have hfit := growslice_fits (need := n + m) (old := cap) (bytes := i.bytes) (by omega) (Nat.le_trans (Nat.mul_le_mul (show n + m ≤ 1000000 by omega) (show i.bytes ≤ 1000 by omega)) (by decide))
      have h48' : ¬ (281474976710656 < Builtin.nextslicecap (n + m) cap * i.bytes) := by omega
      have hge := grownCap_ge w (n + m) cap e
      have hcm' : grownCap w (n + m) cap e ≤ maxLen := grownCap_le_maxLen w (n + m) cap e (by simp [maxLen]; omega)
      refine ⟨.slice (some ⟨w.heap.size, 0, none⟩) (n + m) (grownCap w (n + m) cap e), w.drew.alloc (.cells (xs.toArray ++ (List.replicate m z).toArray ++ Builtin.zeroCells z.cells (grownCap w (n + m) cap e - (n + m))) e), ?_, ⟨hlen, .inr ⟨w.heap.size, _, _, rfl, hbase, heap_alloc_new w.drew _, hge, hcm', ?_, ?_⟩⟩, ⟨rfl, rfl, rfl, by simp, fun j hj _ => RowKit.Below.heap_alloc w.drew _ j hj⟩⟩
      · simp [Builtin.append_, run_underlying ht, run_underlying htn, sizeOf, typeInfo, zeroValue, hi, hz, asInt, asIntOf, hw, hneg, h48i, hms1, hroom, hsize, hzc, zeroCells_one, h63', h48', Question.forced, hf, newRow, grownCap]
      · simp only [Array.size_append, List.size_toArray, size_zeroCells, hzc, hown.1, List.length_replicate]
        simp; omega
      · simp only [Array.toList_append, List.append_assoc]
        rw [← List.append_assoc, ← hlen]
        exact List.take_left
theorem own_mono {w : World} {base base' : Nat} {e : TypeId} {v : Value} {n : Nat} {xs : List Value} (h : w.ownsRow base e 1 v n xs) (hb : base' ≤ base) : w.ownsRow base' e 1 v n xs := by
  refine ⟨h.1, ?_⟩
  rcases h.2 with h2 | ⟨g, cap, cur, h3, h4, h5⟩
  · exact Or.inl h2
  · exact Or.inr ⟨g, cap, cur, h3, by omega, h5⟩
theorem b8_zeros (l : List Nat) (k : Nat) : b8 l ++ List.replicate k (Value.int .u8 0) = b8 (l ++ List.replicate k 0) := by unfold b8; simp
theorem und_int : Tryd.prog.underlying 3 = some (.int .i64) := Tryd.underlying3
/-- The digits of a number down to 10 to the power of low. -/
def sprd (m : Int) (k : Nat) : List Nat := dig0 m.natAbs ++ List.replicate k 0
set_option maxRecDepth 100000 in
set_option maxHeartbeats 2000000 in
theorem spread_any (m ex low : Int) (k : Nat) (w : World) (htab : Tab w) (hm : I64 m) (hk : ex - low = (k : Int)) (hkb : k ≤ 1000) :
    Calls Tryd.prog 66 #[NV m ex, .int .i64 low] w fun e w' => ∃ v, e = .returned v ∧ w'.ownsRow w.heap.size 5 1 v (sprd m k).length (b8 (sprd m k)) ∧ Ext w w' := by
  have hu : m.natAbs < 18446744073709551616 := by obtain ⟨h1, h2⟩ := hm; omega
  have hl20 : (dig0 m.natAbs).length ≤ 20 := by rw [dig0_length]; have := (nd_le_iff m.natAbs 20).2 (Nat.lt_of_lt_of_le hu (by decide)); omega
  have hl1 : 1 ≤ (dig0 m.natAbs).length := by rw [dig0_length]; omega
  have hdg := fun W hW => digitsOf_any m.natAbs hu W hW
  have hsz := fun W => size_nat m W hm
  have hsp : sprd m k = dig0 m.natAbs ++ List.replicate k 0 := rfl
  obtain ⟨i0, hi, hz0, hz1, hz2⟩ := info_parts info_byte
  generalize dig0 m.natAbs = D at *
  generalize sprd m k = R at *
  generalize m.natAbs = N at *
  have HT := Lib.hid htab
  have HSP := Lib.hid hsp
  have w1 : IntKind.i64.wrap (ex - low) = (k : Int) := by rw [hk]; exact i64w (by omega) (by omega)
  have w2 : wrap64 (ex - low) = (k : Int) := by rw [hk]; exact IntWalk.wrap64_in _ (by omega)
  have w3 : IntKind.i64.wrap (k : Int) = (k : Int) := i64w (by omega) (by omega)
  clear htab hsp
  go_enter Tryd.func66, Tryd.ntmps66
  go_wp2
  refine wp_world fun W hW => ?_
  have c0 : W.cell? ⟨w.heap.size, 0, none⟩ = some (.int .i64 m) := by rw [hW]; go_simp
  have c1 : W.cell? ⟨w.heap.size, 1, none⟩ = some (.int .i64 ex) := by rw [hW]; go_simp
  have hz : w.heap.size < W.heap.size := by rw [hW]; simp
  have hxW : Ext w W := by rw [hW]; exact by repeat (first | with_reducible exact Ext.refl _ | with_reducible apply Ext.drew | with_reducible apply Ext.alloc | with_reducible apply Ext.more_)
  clear hW
  have hdgW := hdg W.drew (HT.out.ext hxW.drew)
  clear hdg
  refine wp_plan (S := Ext _) [(0, 0), (1, 0), (4, 0), (5, 0), (6, 0), (7, 0), (2, 1), (3, 1), (8, 1), (9, 0)] [] (by kernel_rfl) (by kernel_rfl) (by kernel_rfl) (fun _ _ d _ _ h => by cases d <;> exact h) (Ext.drew (Ext.refl _)) ?_
  (refine wpPl_read (v := ?_) rfl ?_ (fun w1 h1 => ?_) ?_; rotate_left 1; rfl; (obtain ⟨os1, d1, rfl⟩ := h1.more; go_simp; first | done | rfl))
  try simp only [Act.put, List.setIfInBounds_toArray, List.set_cons_zero, List.set_cons_succ]
  (refine wpPl_read (v := ?_) rfl ?_ (fun w1 h1 => ?_) ?_; rotate_left 1; rfl; (obtain ⟨os1, d1, rfl⟩ := h1.more; go_simp; first | done | rfl))
  try simp only [Act.put, List.setIfInBounds_toArray, List.set_cons_zero, List.set_cons_succ]
  (refine wpPl_read (v := ?_) rfl ?_ (fun w1 h1 => ?_) ?_; rotate_left 1; rfl; (obtain ⟨os1, d1, rfl⟩ := h1.more; go_simp; first | done | rfl))
  try simp only [Act.put, List.setIfInBounds_toArray, List.set_cons_zero, List.set_cons_succ]
  (refine wpPl_read (v := ?_) rfl ?_ (fun w1 h1 => ?_) ?_; rotate_left 1; rfl; (obtain ⟨os1, d1, rfl⟩ := h1.more; go_simp; first | done | rfl))
  try simp only [Act.put, List.setIfInBounds_toArray, List.set_cons_zero, List.set_cons_succ]
  (refine wpPl_read (v := ?_) rfl ?_ (fun w1 h1 => ?_) ?_; rotate_left 1; rfl; (obtain ⟨os1, d1, rfl⟩ := h1.more; go_simp; first | done | rfl))
  try simp only [Act.put, List.setIfInBounds_toArray, List.set_cons_zero, List.set_cons_succ]
  (refine wpPl_read (v := ?_) rfl ?_ (fun w1 h1 => ?_) ?_; rotate_left 1; rfl; (obtain ⟨os1, d1, rfl⟩ := h1.more; go_simp; first | done | rfl))
  try simp only [Act.put, List.setIfInBounds_toArray, List.set_cons_zero, List.set_cons_succ]
  (refine wpPl_eff rfl ?_ (fun K hK => ?_); rfl; go_simp; (go_at_call 49; (with_reducible refine (hsz _).mono ?_); rintro e w' ⟨rfl, rfl⟩); refine hK _ _ ?_ ?_; (repeat (first | with_reducible exact Ext.refl _ | with_reducible exact ext_d _ _ _ _ | with_reducible exact ext_app _ _ _ _ _ | with_reducible exact ext_app2 _ _ _ _ _ _ | with_reducible exact ext_app3 _ _ _ _ _ _ _ | with_reducible exact ext_app4 _ _ _ _ _ _ _ _ | with_reducible exact ext_app5 _ _ _ _ _ _ _ _ _ | ((with_reducible refine ext_suffix ⟨_, ?_⟩); (try simp only [Array.append_assoc]); rfl) | with_reducible apply Ext.drew | with_reducible apply Ext.alloc | with_reducible apply Ext.more_ | apply Ext.drew | apply Ext.alloc | apply Ext.more_)))
  try simp only [Act.put, List.setIfInBounds_toArray, List.set_cons_zero, List.set_cons_succ]
  (refine wpPl_eff rfl ?_ (fun K hK => ?_); rfl; go_simp; (go_at_call 48; (with_reducible refine hdgW.mono ?_); rintro e w' ⟨v, rfl, ho, hx⟩; obtain ⟨os, d, rfl⟩ := hx.more); refine hK _ _ ?_ ?_; (repeat (first | with_reducible exact Ext.refl _ | with_reducible exact ext_d _ _ _ _ | with_reducible exact ext_app _ _ _ _ _ | with_reducible exact ext_app2 _ _ _ _ _ _ | with_reducible exact ext_app3 _ _ _ _ _ _ _ | with_reducible exact ext_app4 _ _ _ _ _ _ _ _ | with_reducible exact ext_app5 _ _ _ _ _ _ _ _ _ | ((with_reducible refine ext_suffix ⟨_, ?_⟩); (try simp only [Array.append_assoc]); rfl) | with_reducible apply Ext.drew | with_reducible apply Ext.alloc | with_reducible apply Ext.more_ | apply Ext.drew | apply Ext.alloc | apply Ext.more_)))
  try simp only [Act.put, List.setIfInBounds_toArray, List.set_cons_zero, List.set_cons_succ]
  (refine wpPl_eff rfl ?_ (fun K hK => ?_); rfl; obtain ⟨v2, w2, hr, ho2, hg2⟩ := append_zeros (P := Tryd.prog) _ W.heap.size 50 3 50 5 i0 (.int .u8 0) .i64 1 Tryd.underlying50 und_int hi hz0 hz1 hz2 rfl rfl _ _ _ ho hl1 k (by omega) (by omega) (by simp); refine Lib.wp_append_run _ _ _ _ _ rfl _ _ rfl rfl _ _ hr ?_; have hx2 : Ext W _ := ext_grown (Ext.trans (Ext.drew (Ext.refl W)) hx) ho hg2; refine hK _ _ hx2 ?_)
  try simp only [Act.put, List.setIfInBounds_toArray, List.set_cons_zero, List.set_cons_succ]
  (refine wpPl_read (v := ?_) rfl ?_ (fun w1 h1 => ?_) ?_; rotate_left 1; rfl; (obtain ⟨os1, d1, rfl⟩ := h1.more; go_simp; first | done | rfl))
  try simp only [Act.put, List.setIfInBounds_toArray, List.set_cons_zero, List.set_cons_succ]
  refine wpPl_nil ?_
  go_wp2
  go_ret
  rw [b8_zeros] at ho2
  have hl2 : D.length + k = R.length := by rw [HSP.out]; simp
  rw [hl2, ← HSP.out] at ho2
  exact ⟨_, rfl, own_mono ho2 (by omega), hxW.trans hx2⟩
end Go.Proofs.YtihfiegopnjeiaaDoor
