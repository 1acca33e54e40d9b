/- A region that draws its order, walked once by a plan: what only reads is taken as soon as it may come up; what makes memory comes up alone; what ends the region (a store, an assignment) waits for all that reads. -/
import Derived.Test.YtihfiegopnjeiaaDoorBase
import Derived.OrdersHeld
namespace Go.Proofs.YtihfiegopnjeiaaDoor
set_option linter.unusedSimpArgs false
set_option linter.unusedVariables false
open Go.RowKit

section
variable {P : Program} {ops : Array Oper} {Q : Exit → Act → World → Prop} {S : World → Prop} {tl : List Nat}

/-- As 'wpAnyH', but behind an operation of 'tl' nothing is asked of S any more. -/
def wpAnyT (P : Program) (ops : Array Oper) (Q : Exit → Act → World → Prop) (S : World → Prop) (tl : List Nat) : Nat → Array Bool → Act → World → Prop
  | 0, listed, a, w => Region.ready .any ops listed = [] ∧ Q .normal a w
  | fuel + 1, listed, a, w =>
    (Region.ready .any ops listed = [] → Q .normal a w) ∧
    ∀ i ∈ Region.ready .any ops listed, wpOp P ops Q i (fun a' w' => (tl.contains i = false → S w') ∧ wpAnyT P ops Q S tl fuel (listed.setIfInBounds i true) a' w') a w

theorem wpAny_of_T : ∀ (fuel : Nat) (listed : Array Bool) (a : Act) (w : World), wpAnyT P ops Q S tl fuel listed a w → wpAny P .any ops Q fuel listed a w
  | 0, _, _, _, h => h
  | fuel + 1, _, _, _, h => ⟨h.1, fun i hi => wpOp_mono (fun a' w' h' => wpAny_of_T fuel _ a' w' h'.2) (h.2 i hi)⟩

/-- Every tail operation that has not come up waits for i. -/
def waits (ops : Array Oper) (tl : List Nat) (listed : Array Bool) (i : Nat) : Prop :=
  ∀ j oj, ops[j]? = some oj → tl.contains j = true → listed.getD j true = false → ∃ e ∈ oj.after, Region.binds .any e = true ∧ e.on = i

theorem wpAnyT_first {i : Nat} {oi : Oper} {v : Value} (hi : ops[i]? = some oi) (hsel : ∀ (j : Nat) (o : Oper) cs b, ops[j]? = some o → o.op ≠ .select cs b)
    (hti : tl.contains i = false) (hQ : ∀ c a w, Q (.panic c) (a.put oi.dst v) w → Q (.panic c) a w) :
    ∀ (fuel : Nat) (listed : Array Bool) (a : Act) (w : World),
      (∀ j oj, ops[j]? = some oj → j ≠ i → listed.getD j true = false → (∀ e ∈ oj.after, Region.binds .any e = true → e.on ≠ i) → oi.apart ops oj = true) →
      waits ops tl listed i →
      i ∈ Region.ready .any ops listed → YieldsIf P ops S oi v a → S w →
      wpAnyT P ops Q S tl fuel (listed.setIfInBounds i true) (a.put oi.dst v) w → wpAnyT P ops Q S tl (fuel + 1) listed a w := by
  intro fuel
  induction fuel with
  | zero =>
    intro listed a w _ _ hr hy hS H
    refine ⟨fun h => (by rw [h] at hr; cases hr), fun j hj => ?_⟩
    by_cases hji : j = i
    · subst hji; exact hy.wpOp hi hS ⟨fun _ => hS, H⟩
    · have := ready_mono hj hji
      rw [H.1] at this
      cases this
  | succ fuel ih =>
    intro listed a w hfree hwt hr hy hS H
    refine ⟨fun h => (by rw [h] at hr; cases hr), fun j hj => ?_⟩
    by_cases hji : j = i
    · subst hji; exact hy.wpOp hi hS ⟨fun _ => hS, H⟩
    · have h1 := H.2 j (ready_mono hj hji)
      obtain ⟨hjun, oj, hoj, hall⟩ := mem_ready.1 hj
      have hnot : ∀ e ∈ oj.after, Region.binds .any e = true → e.on ≠ i := fun e he hb heq => by
        have h1 := hall e he hb
        have h0 := (mem_ready.1 hr).1
        rw [heq] at h1
        rcases Nat.lt_or_ge i listed.size with h' | h'
        · simp [h'] at h0 h1; rw [h0] at h1; cases h1
        · simp [Array.getElem?_eq_none h'] at h1
      have htj : tl.contains j = false := by
        cases hc : tl.contains j with
        | false => rfl
        | true =>
          obtain ⟨e, he, hb, ho⟩ := hwt j oj hoj hc hjun
          exact absurd ho (hnot e he hb)
      have h2 := wpOp_putIf hoj (hfree j oj hoj hji hjun hnot) (fun cs b => hsel i oi cs b hi) (fun cs b => hsel j oj cs b hoj) hQ hy h1
      have hfree' : ∀ k ok, ops[k]? = some ok → k ≠ i → (listed.setIfInBounds j true).getD k true = false →
          (∀ e ∈ ok.after, Region.binds .any e = true → e.on ≠ i) → oi.apart ops ok = true := fun k ok hk hki hun hno => by
        refine hfree k ok hk hki ?_ hno
        by_cases hjk : j = k
        · subst hjk; exact hjun
        · rw [getD_set_ne true hjk] at hun; exact hun
      have hwt' : waits ops tl (listed.setIfInBounds j true) i := fun k ok hk htk hun => by
        refine hwt k ok hk htk ?_
        by_cases hjk : j = k
        · subst hjk; exact hjun
        · rw [getD_set_ne true hjk] at hun; exact hun
      refine wpOp_mono (fun a' w' h3 => ⟨h3.2.1, ih (listed.setIfInBounds j true) a' w' hfree' hwt' (ready_mono hr (Ne.symm hji)) h3.1 (h3.2.1 htj) ?_⟩) h2
      rw [Array.setIfInBounds_comm _ _ hji]
      exact h3.2.2

/-- The walk by a plan: 0: it reads; 1: it makes memory, S holds behind it; 2: it ends the region. -/
def wpPl (P : Program) (ops : Array Oper) (Q : Exit → Act → World → Prop) (S : World → Prop) : List (Nat × Nat) → Act → World → Prop
  | [], a, w => Q .normal a w
  | (i, 0) :: rest, a, w => ∃ o v, ops[i]? = some o ∧ YieldsIf P ops S o v a ∧ wpPl P ops Q S rest (a.put o.dst v) w
  | (i, k + 1) :: rest, a, w => wpOp P ops Q i (fun a' w' => (k = 0 → S w') ∧ wpPl P ops Q S rest a' w') a w

/-- May the region be walked by that plan? -/
def planOk (ops : Array Oper) (tl : List Nat) : Array Bool → List (Nat × Nat) → Bool
  | listed, [] => (Region.ready .any ops listed).isEmpty
  | listed, (i, 0) :: rest => Region.free .any ops listed i && (Region.ready .any ops listed).contains i && !tl.contains i &&
      tl.all (fun j => listed.getD j true || match ops[j]? with | some oj => oj.after.any (fun e => Region.binds .any e && e.on == i) | none => true) && planOk ops tl (listed.setIfInBounds i true) rest
  | listed, (i, k + 1) :: rest => (Region.ready .any ops listed == [i]) && (tl.contains i == (k != 0)) && (k == 0 || rest.all (fun x => x.2 != 0)) && planOk ops tl (listed.setIfInBounds i true) rest

theorem wpPl_sound (hsel : Region.noSelect ops = true) (hQ : ∀ c a d v w, Q (.panic c) (a.put d v) w → Q (.panic c) a w) :
    ∀ (pl : List (Nat × Nat)) (listed : Array Bool) (a : Act) (w : World), planOk ops tl listed pl = true → (S w ∨ ∀ x ∈ pl, x.2 ≠ 0) → wpPl P ops Q S pl a w → wpAnyT P ops Q S tl pl.length listed a w
  | [], listed, a, w, ho, _, h => ⟨by simpa [planOk] using ho, h⟩
  | (i, 0) :: rest, listed, a, w, ho, hS, h => by
    obtain ⟨o, v, hi, hy, h⟩ := h
    simp only [planOk, Bool.and_eq_true] at ho
    obtain ⟨⟨⟨⟨h1, h2⟩, h3⟩, h4⟩, h5⟩ := ho
    have hSw : S w := by
      rcases hS with hS | hS
      · exact hS
      · exact absurd rfl (hS (i, 0) (by simp))
    refine wpAnyT_first hi (Region.noSelect_spec hsel) (by simpa using h3) (fun c a w => hQ c a _ _ w) _ _ _ _ (Region.free_spec hi h1) ?_ (by simpa using h2) hy hSw
      (wpPl_sound hsel hQ rest _ _ _ h5 (.inl hSw) h)
    intro j oj hj htj hun
    have h6 := List.all_eq_true.1 h4 j (by simpa using htj)
    rw [hj] at h6
    simp only [hun, Bool.false_or] at h6
    obtain ⟨e, he, hb⟩ := Array.any_eq_true'.1 h6
    simp only [Bool.and_eq_true, beq_iff_eq] at hb
    exact ⟨e, he, hb⟩
  | (i, k + 1) :: rest, listed, a, w, ho, hS, h => by
    simp only [planOk, Bool.and_eq_true, beq_iff_eq] at ho
    obtain ⟨⟨⟨h1, h2⟩, h4⟩, h3⟩ := ho
    refine ⟨fun h0 => (by rw [h1] at h0; cases h0), fun j hj => ?_⟩
    rw [h1] at hj
    obtain rfl : j = i := by simpa using hj
    have hk0 : tl.contains j = false → k = 0 := fun ht => by
      rw [ht] at h2
      simpa using h2
    refine wpOp_mono (fun a' w' h' => ⟨fun ht => h'.1 (hk0 ht), ?_⟩) h
    · refine wpPl_sound hsel hQ rest _ _ _ h3 ?_ h'.2
      by_cases hk : k = 0
      · exact .inl (h'.1 hk)
      · refine .inr fun x hx => ?_
        simp only [hk, Bool.or_eq_true, beq_iff_eq, false_or, List.all_eq_true] at h4
        simpa using h4 x hx

/-- **The region, by a plan.** -/
theorem wp_plan {id : Nat} {a : Act} {w : World} (pl : List (Nat × Nat)) (tl : List Nat) (hm : P.follows .mixedOrders = true) (hsel : Region.noSelect ops = true) (hok : (planOk ops tl (Array.replicate ops.size false) pl && pl.length == ops.size) = true)
    (hQ : ∀ c a d v w, Q (.panic c) (a.put d v) w → Q (.panic c) a w) (hS : S w.drew) (h : wpPl P ops Q S pl a w.drew) : (Code.region id ops true).wp P Q a w := by
  simp only [Bool.and_eq_true, beq_iff_eq] at hok
  refine wp_region_any hm (wpAny_of_T (S := S) (tl := tl) _ _ _ _ ?_)
  have h1 := wpPl_sound (P := P) (Q := Q) (S := S) hsel hQ pl _ a w.drew hok.1 (.inl hS) h
  rw [hok.2] at h1
  exact h1

variable {a : Act} {w : World} {i : Nat} {rest : List (Nat × Nat)} {o : Oper}
theorem wpPl_read {v : Value} (hi : ops.toList[i]? = some o) (hw : Region.wanted o (yielded ops a.tmps) = true) (h : ∀ w, S w → (execOp a.eval o).run P w = .ok (.value v) w) (k : wpPl P ops Q S rest (a.put o.dst v) w) :
    wpPl P ops Q S ((i, 0) :: rest) a w := ⟨o, v, by simpa using hi, .inl ⟨hw, h⟩, k⟩
theorem wpPl_skip (hi : ops.toList[i]? = some o) (hw : Region.wanted o (yielded ops a.tmps) = false) (k : wpPl P ops Q S rest (a.put o.dst undef) w) :
    wpPl P ops Q S ((i, 0) :: rest) a w := ⟨o, undef, by simpa using hi, .inr ⟨hw, rfl⟩, k⟩
theorem wpPl_eff (hi : ops.toList[i]? = some o) (hw : Region.wanted o (yielded ops a.tmps) = true) (h : ∀ K : Act → World → Prop, (∀ a' w', S w' → wpPl P ops Q S rest a' w' → K a' w') → o.wp P a w K Q) :
    wpPl P ops Q S ((i, 1) :: rest) a w := by
  have hi' : ops[i]? = some o := by simpa using hi
  show wpOp _ _ _ _ _ _ _
  unfold wpOp
  simp only [hi', hw, if_true]
  exact .inl (h _ fun a' w' hs hk => ⟨fun _ => hs, hk⟩)
theorem wpPl_effskip (hi : ops.toList[i]? = some o) (hw : Region.wanted o (yielded ops a.tmps) = false) (hs : S w) (k : wpPl P ops Q S rest (a.put o.dst undef) w) :
    wpPl P ops Q S ((i, 1) :: rest) a w := by
  have hi' : ops[i]? = some o := by simpa using hi
  show wpOp _ _ _ _ _ _ _
  unfold wpOp
  simp only [hi', hw, Bool.false_eq_true, if_false]
  exact ⟨fun _ => hs, k⟩
theorem wpPl_tail (hi : ops.toList[i]? = some o) (hw : Region.wanted o (yielded ops a.tmps) = true) (h : ∀ K : Act → World → Prop, (∀ a' w', wpPl P ops Q S rest a' w' → K a' w') → o.wp P a w K Q) :
    wpPl P ops Q S ((i, 2) :: rest) a w := by
  have hi' : ops[i]? = some o := by simpa using hi
  show wpOp _ _ _ _ _ _ _
  unfold wpOp
  simp only [hi', hw, if_true]
  exact .inl (h _ fun a' w' hk => ⟨fun h => (by cases h), hk⟩)
theorem wpPl_nil (h : Q .normal a w) : wpPl P ops Q S [] a w := h

/-- In a region in the text's order: an operation that only computes. -/
theorem wpL_read {rest : List Oper} {v : Value} (hg : o.guard = none) (h : (execOp a.eval o).run P w = .ok (.value v) w) (k : wpList P ops Q rest (a.put o.dst v) w) : wpList P ops Q (o :: rest) a w := by
  unfold wpList
  rw [if_pos (by simp [Region.wanted, hg])]
  exact .inl (by unfold Oper.wp; rw [h]; exact k)
/-- What a guarded operation leaves. -/
def gv (c : Bool) (v : Value) : Value := if c then v else undef
@[go_sem] theorem gv_true (v : Value) : gv true v = v := rfl
@[go_sem] theorem gv_false (v : Value) : gv false v = undef := rfl
theorem gv_of {c : Bool} (h : c = true) (v : Value) : gv c v = v := by rw [h]; rfl
theorem and_l {c b : Bool} (h : (c && b) = true) : c = true := by cases c <;> simp_all
theorem run_pick {x y z : Operand} {g : Bool} (ho : o.op = .pick x y z) (hx : a.eval x = .bool g) : (execOp a.eval o).run P w = .ok (.value (if g then a.eval y else a.eval z)) w := by
  unfold execOp
  simp only [ho, hx]
  cases g <;> rfl
theorem run_pick_and {x y z : Operand} {g p : Bool} (ho : o.op = .pick x y z) (hx : a.eval x = .bool g) (hy : a.eval y = gv g (.bool p)) (hz : a.eval z = .bool false) : (execOp a.eval o).run P w = .ok (.value (.bool (g && p))) w := by
  rw [run_pick ho hx, hy, hz]; cases g <;> rfl
theorem run_pick_or {x y z : Operand} {g p : Bool} (ho : o.op = .pick x y z) (hx : a.eval x = .bool g) (hy : a.eval y = .bool true) (hz : a.eval z = gv (!g) (.bool p)) : (execOp a.eval o).run P w = .ok (.value (.bool (g || p))) w := by
  rw [run_pick ho hx, hy, hz]; cases g <;> rfl
theorem run_pick_andg {x y z : Operand} {c g p : Bool} (hc : c = true) (ho : o.op = .pick x y z) (hx : a.eval x = gv c (.bool g)) (hy : a.eval y = gv (c && g) (.bool p)) (hz : a.eval z = .bool false) : (execOp a.eval o).run P w = .ok (.value (.bool (g && p))) w := by
  subst hc
  exact run_pick_and ho hx hy hz
theorem run_pick_org {x y z : Operand} {c g p : Bool} (hc : c = true) (ho : o.op = .pick x y z) (hx : a.eval x = gv c (.bool g)) (hy : a.eval y = .bool true) (hz : a.eval z = gv (c && !g) (.bool p)) : (execOp a.eval o).run P w = .ok (.value (.bool (g || p))) w := by
  subst hc
  exact run_pick_or ho hx hy hz
def yv : Value → Option Bool
  | .bool b => some b
  | _ => none
theorem wanted_at {j t : Nat} {want : Bool} {f : Value} (hg : o.guard = some (j, want)) (hd : (ops.toList[j]?).bind (·.dst) = some t) (ht : a.tmps.toList[t]? = some f) : Region.wanted o (yielded ops a.tmps) = (yv f == some want) := by
  have hd' : (ops[j]?).bind (·.dst) = some t := by simpa using hd
  have ht' : a.tmps[t]? = some f := by simpa using ht
  simp only [Region.wanted, hg, yielded, hd', Option.bind_some, ht']
  cases f <;> rfl
theorem gc_t (b : Bool) : (yv (.bool b) == some true) = b := by cases b <;> rfl
theorem gc_f (b : Bool) : (yv (.bool b) == some false) = !b := by cases b <;> rfl
theorem gc_gt (c b : Bool) : (yv (gv c (.bool b)) == some true) = (c && b) := by cases b <;> cases c <;> rfl
theorem gc_gf (c b : Bool) : (yv (gv c (.bool b)) == some false) = (c && !b) := by cases b <;> cases c <;> rfl

/-- ... and is guarded, the guard left open. -/
theorem wpL_gread {rest : List Oper} {v f : Value} {c : Bool} {j t : Nat} {want : Bool} (hg : o.guard = some (j, want)) (hd : (ops.toList[j]?).bind (·.dst) = some t) (ht : a.tmps.toList[t]? = some f)
    (hc : (yv f == some want) = c) (h : c = true → (execOp a.eval o).run P w = .ok (.value v) w) (k : wpList P ops Q rest (a.put o.dst (gv c v)) w) : wpList P ops Q (o :: rest) a w := by
  rw [← wanted_at hg hd ht] at hc
  unfold wpList
  cases c
  · rw [if_neg (by simp [hc])]
    exact k
  · rw [if_pos hc]
    exact .inl (by unfold Oper.wp; rw [h rfl]; exact k)
theorem wpPl_gread {v f : Value} {c : Bool} {j t : Nat} {want : Bool} (hi : ops.toList[i]? = some o) (hg : o.guard = some (j, want)) (hd : (ops.toList[j]?).bind (·.dst) = some t) (ht : a.tmps.toList[t]? = some f)
    (hc : (yv f == some want) = c) (h : c = true → ∀ w, S w → (execOp a.eval o).run P w = .ok (.value v) w) (k : wpPl P ops Q S rest (a.put o.dst (gv c v)) w) :
    wpPl P ops Q S ((i, 0) :: rest) a w := by
  rw [← wanted_at hg hd ht] at hc
  cases c
  · exact ⟨o, undef, by simpa using hi, .inr ⟨hc, rfl⟩, k⟩
  · exact ⟨o, v, by simpa using hi, .inl ⟨hc, h rfl⟩, k⟩

section picks
variable {rest : List Oper} {x y z : Operand} {c g p : Bool} {j t : Nat} {want : Bool} {f : Value}
theorem wpL_pick_and (hg : o.guard = none) (ho : o.op = .pick x y z) (hx : a.eval x = .bool g) (hy : a.eval y = gv g (.bool p)) (hz : a.eval z = .bool false) (k : wpList P ops Q rest (a.put o.dst (.bool (g && p))) w) : wpList P ops Q (o :: rest) a w :=
  wpL_read hg (run_pick_and ho hx hy hz) k
theorem wpL_pick_or (hg : o.guard = none) (ho : o.op = .pick x y z) (hx : a.eval x = .bool g) (hy : a.eval y = .bool true) (hz : a.eval z = gv (!g) (.bool p)) (k : wpList P ops Q rest (a.put o.dst (.bool (g || p))) w) : wpList P ops Q (o :: rest) a w :=
  wpL_read hg (run_pick_or ho hx hy hz) k
theorem wpL_gpick_and (hg : o.guard = some (j, want)) (hd : (ops.toList[j]?).bind (·.dst) = some t) (ht : a.tmps.toList[t]? = some f) (ho : o.op = .pick x y z) (hx : a.eval x = gv c (.bool g)) (hy : a.eval y = gv (c && g) (.bool p)) (hz : a.eval z = .bool false)
    (hc : (yv f == some want) = c) (k : wpList P ops Q rest (a.put o.dst (gv c (.bool (g && p)))) w) : wpList P ops Q (o :: rest) a w :=
  wpL_gread hg hd ht hc (fun h => run_pick_andg h ho hx hy hz) k
theorem wpL_gpick_or (hg : o.guard = some (j, want)) (hd : (ops.toList[j]?).bind (·.dst) = some t) (ht : a.tmps.toList[t]? = some f) (ho : o.op = .pick x y z) (hx : a.eval x = gv c (.bool g)) (hy : a.eval y = .bool true) (hz : a.eval z = gv (c && !g) (.bool p))
    (hc : (yv f == some want) = c) (k : wpList P ops Q rest (a.put o.dst (gv c (.bool (g || p)))) w) : wpList P ops Q (o :: rest) a w :=
  wpL_gread hg hd ht hc (fun h => run_pick_org h ho hx hy hz) k
end picks
section picks
variable {x y z : Operand} {c g p : Bool} {j t : Nat} {want : Bool} {f : Value}
theorem wpPl_pick_and (hi : ops.toList[i]? = some o) (hg : o.guard = none) (ho : o.op = .pick x y z) (hx : a.eval x = .bool g) (hy : a.eval y = gv g (.bool p)) (hz : a.eval z = .bool false) (k : wpPl P ops Q S rest (a.put o.dst (.bool (g && p))) w) : wpPl P ops Q S ((i, 0) :: rest) a w :=
  wpPl_read hi (by simp [Region.wanted, hg]) (fun _ _ => run_pick_and ho hx hy hz) k
theorem wpPl_pick_or (hi : ops.toList[i]? = some o) (hg : o.guard = none) (ho : o.op = .pick x y z) (hx : a.eval x = .bool g) (hy : a.eval y = .bool true) (hz : a.eval z = gv (!g) (.bool p)) (k : wpPl P ops Q S rest (a.put o.dst (.bool (g || p))) w) : wpPl P ops Q S ((i, 0) :: rest) a w :=
  wpPl_read hi (by simp [Region.wanted, hg]) (fun _ _ => run_pick_or ho hx hy hz) k
theorem wpPl_gpick_and (hi : ops.toList[i]? = some o) (hg : o.guard = some (j, want)) (hd : (ops.toList[j]?).bind (·.dst) = some t) (ht : a.tmps.toList[t]? = some f) (ho : o.op = .pick x y z) (hx : a.eval x = gv c (.bool g)) (hy : a.eval y = gv (c && g) (.bool p)) (hz : a.eval z = .bool false)
    (hc : (yv f == some want) = c) (k : wpPl P ops Q S rest (a.put o.dst (gv c (.bool (g && p)))) w) : wpPl P ops Q S ((i, 0) :: rest) a w :=
  wpPl_gread hi hg hd ht hc (fun h _ _ => run_pick_andg h ho hx hy hz) k
theorem wpPl_gpick_or (hi : ops.toList[i]? = some o) (hg : o.guard = some (j, want)) (hd : (ops.toList[j]?).bind (·.dst) = some t) (ht : a.tmps.toList[t]? = some f) (ho : o.op = .pick x y z) (hx : a.eval x = gv c (.bool g)) (hy : a.eval y = .bool true) (hz : a.eval z = gv (c && !g) (.bool p))
    (hc : (yv f == some want) = c) (k : wpPl P ops Q S rest (a.put o.dst (gv c (.bool (g || p)))) w) : wpPl P ops Q S ((i, 0) :: rest) a w :=
  wpPl_gread hi hg hd ht hc (fun h _ _ => run_pick_org h ho hx hy hz) k
end picks
end
end Go.Proofs.YtihfiegopnjeiaaDoor
