/- counterpaneref01.wide, level. -/
import Derived.Test.YtihfiegopnjeiaaDoorNear
namespace Go.Proofs.YtihfiegopnjeiaaDoor
set_option linter.unusedSimpArgs false
set_option linter.unusedVariables false
open Go.RowKit NM

/-- append onto a list of the call's own, of what may be nil. -/
theorem wpList_append_opt {P : Program} (w : World) {ops : Array Oper} {rest : List Oper} {o : Oper} {a : Act} {Q : Exit → Act → World → Prop} (hgd : o.guard = none) (s x : Operand) (t : TypeId)
    (ho : o.op = .call { callee := .builtin .append, args := #[s, x], argTypes := #[t, t] })
    (base : Nat) (e : TypeId) (i : TypeInfo) (z : Value) (bytes : Nat) (ht : P.underlying t = some (.slice e)) (hi : P.info? e = some i) (hz : i.zero = some z)
    (hsize : i.size = 1) (hby : i.bytes = bytes) (hzs : z.cells.size = 1)
    (v : Value) (n : Nat) (xs : List Value) (hs : a.eval s = v) (hown : w.ownsRow base e 1 v n xs)
    (B : Option Addr) (m c : Nat) (news : List Value) (hx : a.eval x = .slice B m c) (hl : news.length = m) (hB : Rd 0 w B news) (h1 : ∀ u ∈ news, u.oneCell' = true)
    (h63 : n + m ≤ maxLen) (hbytes : (n + m) * bytes ≤ 140737488355328) (hbase : base ≤ w.heap.size)
    (h : ∀ v' w', w'.ownsRow base e 1 v' (n + m) (xs ++ news) → w.grownBy w' v.ownBlock → wpList P ops Q rest (a.put o.dst v') w') : wpList P ops Q (o :: rest) a w := by
  by_cases hm : m = 0
  · subst hm
    obtain rfl : news = [] := List.eq_nil_of_length_eq_zero hl
    obtain ⟨A, cap, hv, hcap⟩ : ∃ A cap, v = .slice A n cap ∧ n ≤ cap := by
      rcases hown.2 with ⟨h2, h3⟩ | ⟨g, cap, cur, h3, h4, h5, h6, _⟩
      · exact ⟨none, 0, by rw [h2, h3], by omega⟩
      · exact ⟨_, cap, h3, h6⟩
    have hr := append_none (P := P) w t o.type e i ht hi A n cap B c hcap
    refine wpList_plain hgd fun K hK => ?_
    unfold Oper.wp execOp
    simp only [ho, resolve, invoke, builtin, Sem.run_bind, Sem.run_pure, Result.andThen_ok, List.map_toArray, List.map_cons, List.map_nil, hs, hx, hv, hr]
    refine hK _ _ (h _ _ (by rw [← hv]; simpa using hown) ⟨rfl, rfl, rfl, Nat.le_refl _, fun _ _ _ => rfl⟩)
  · have hpos : 0 < news.length := by omega
    obtain ⟨b, off, rfl, _, _⟩ := hB 0 news[0] (by simp [hpos])
    exact wpList_append_own w hgd s x t ho base e i z 1 bytes ht hi hz hsize hby hzs (by decide) v n xs hs hown ⟨b, off, none⟩ m c news hx (by omega) hB.add h1 h63 hbytes hbase fun v' w' h2 h3 _ => h v' w' h2 h3
theorem own_allocT {X wr : World} {ty : TypeId} {v : Value} {n : Nat} {xs : List Value} (ho : wr.ownsRow X.heap.size ty 1 v n xs) (o : Obj) : (wr.alloc o).ownsRow X.heap.size ty 1 v n xs :=
  own_keep ho fun g cur hg => RowKit.Below.heap_alloc _ o g (lt_block hg)
theorem nil_own {w : World} {base n : Nat} {ty : TypeId} (hn : n = w.heap.size) (hb : base ≤ n) : (w.alloc (.cells #[] ty)).ownsRow base ty 1 (.slice (some ⟨n, 0, none⟩) 0 0) 0 [] := by
  subst hn
  exact ⟨by simp, Or.inr ⟨w.heap.size, 0, #[], rfl, hb, Array.getElem?_push_size, Nat.le_refl _, by decide, by simp, by simp⟩⟩
set_option maxRecDepth 100000 in
set_option maxHeartbeats 2000000 in
theorem wide_any (A : Option Addr) (len cap k : Nat) (l : List Nat) (w : World) (hlen : l.length = len) (h : Rd 0 w A (i6 l)) (hbig : len + k ≤ 100000) :
    Calls Tryd.prog 63 #[.slice A len cap, .int .i64 (k : Int)] w fun e w' => ∃ v, e = .returned v ∧ w'.ownsRow w.heap.size 3 1 v (len + k) (i6 (l ++ List.replicate k 0)) ∧ Ext w w' := by
  obtain ⟨i0, hi, hz0, hz1, hz2⟩ := info_parts info_int_
  have HR := Lib.hid h
  have HL := Lib.hid hlen
  clear h hlen
  go_enter Tryd.func63, Tryd.ntmps63
  go_wp2_with (at_builtin; refine wpList_append_opt _ rfl _ _ _ rfl w.heap.size 3 i0 (.int .i64 0) 8 Tryd.underlying43 hi hz0 hz1 hz2 rfl _ 0 [] rfl (nil_own rfl (Nat.le_refl _)) A len cap (i6 l) rfl (by simp [HL.out]) (HR.out.ext ((Ext.refl _).alloc _)) (one_i6 _) (by simp [maxLen]; omega) (by omega) (by simp) ?_; intro v3 w3 ho3 hg3)
  have hx3 := ext_grown ((Ext.refl w).alloc _) (nil_own rfl (Nat.le_refl _)) hg3
  have HO : Hid (w3.ownsRow w.heap.size 3 1 v3 (len + 0) (i6 (l ++ List.replicate 0 0))) := by show World.ownsRow _ _ _ _ _ _ _; simpa using ho3
  clear ho3 hg3
  go_loopw [5, 6] (fun v i wr => ∃ j : Nat, j ≤ k ∧ i = .int .i64 (j : Int) ∧ Hid (wr.ownsRow w.heap.size 3 1 v (len + j) (i6 (l ++ List.replicate j 0))) ∧ Ext w wr) (fun _ i _ => k - (intOf i).toNat)
  case atStart => exact ⟨0, Nat.zero_le _, rfl, HO, hx3⟩
  case round =>
    obtain ⟨j, hj, rfl, HW, hxr⟩ := hrel
    have hsz := hxr.size
    by_cases hlt : j < k
    · go_wp2_with (at_builtin; refine wpList_append_own _ rfl _ _ _ rfl w.heap.size 3 i0 (.int .i64 0) 1 8 Tryd.underlying43 hi hz0 hz1 hz2 rfl (by decide) _ (len + j) (i6 (l ++ List.replicate j 0)) rfl (own_allocT HW.out _) _ 1 1 [.int .i64 0] rfl rfl (Rd.one_ _ _ rfl).add (one_i6 [0]) (by simp [maxLen]; omega) (by omega) (by simp; omega) ?_; intro v4 w4 ho4 hg4 _)
      have hx4 := ext_grown (hxr.alloc _) (own_allocT HW.out _) hg4
      refine ⟨⟨j + 1, by omega, by go_num, ?_, hx4⟩, by simp [intOf]; omega⟩
      show World.ownsRow _ _ _ _ _ _ _
      rw [List.replicate_succ', ← List.append_assoc]; unfold i6; rw [List.map_append]
      exact ho4
    · go_wp2_with fail
      go_ret
      obtain rfl : j = k := by omega
      exact ⟨_, rfl, HW.out, hxr⟩
end Go.Proofs.YtihfiegopnjeiaaDoor
