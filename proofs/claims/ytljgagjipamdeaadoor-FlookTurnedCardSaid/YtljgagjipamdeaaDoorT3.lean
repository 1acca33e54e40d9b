/- What the rows' proofs lean on: the contracts of the functions that they reach, and plain facts (part T3). -/
import Derived.WalkKit
import Derived.WalkLawsBesides
import Derived.WalkSpells
import Derived.Outline
import Derived.Below
import Derived.Deep.RegionHeld3
import Derived.Deep.DeepCutAuto
import Derived.Deep.AppendLies
import Derived.Maps.AppendAt
import Derived.Lib.Hide
import Derived.OrdersHeld
import Derived.Test.YtljgagjipamdeaaDoorProg
import Derived.Shelf.Small.Strs
import Derived.Shelf.Strconv.Itoa0
import Derived.Shelf.Strconv.Itoa1
import Derived.Shelf.LaysM
import Derived.Shelf.Strconv.Itoa2
import Derived.Shelf.Bits.Mul64
import Derived.Lib.ItoaMem
import Derived.Lib.OthersKept
import Derived.Deep.CutBlock
import Derived.Laws.Bits64b
import Derived.Lib.AppendZeros
import Derived.Lib.Bytealg
import Derived.Laws.RangeAny
import Derived.Maps.OwnSet
import Derived.Maps.Own
import Derived.Laws.EntriesVeiled
import Derived.Lib.ConvBytes
import Derived.Lib.SlBytesRow
import Derived.Lib.SmallJoins
import Derived.RegionTactic
import Derived.Test.YtljgagjipamdeaaDoorT2
set_option linter.unusedSimpArgs false
set_option linter.unusedVariables false
set_option maxRecDepth 100000
namespace Go.Proofs.YtljgagjipamdeaaDoor
open Go.RowKit
/-- A variable that may come up at any time: the operation, its slot, what it makes. -/
abbrev FL := Nat × Nat × Obj
def ptrB (b : Nat) : Value := .pointer (some ⟨b, 0, none⟩)
def putF : List FL → (Nat → Option Nat) → Act → Act
  | [], _, a => a
  | x :: fs, β, a => match β x.1 with
    | none => putF fs β a
    | some b => (putF fs β a).put (some x.2.1) (ptrB b)
def setB (β : Nat → Option Nat) (j b : Nat) : Nat → Option Nat := fun i => if i = j then some b else β i
def np (fs : List FL) (β : Nat → Option Nat) : Nat := fs.countP fun x => (β x.1).isNone
theorem putF_congr {β β' : Nat → Option Nat} {a : Act} : ∀ {fs : List FL}, (∀ x ∈ fs, β x.1 = β' x.1) → putF fs β a = putF fs β' a
  | [], _ => rfl
  | x :: fs, h => by
    unfold putF
    rw [h x (by simp), putF_congr (fs := fs) fun y hy => h y (by simp [hy])]
theorem putF_put {β : Nat → Option Nat} {a : Act} {d : Option Tmp} {v : Value} : ∀ {fs : List FL}, (∀ x ∈ fs, d ≠ some x.2.1) → putF fs β (a.put d v) = (putF fs β a).put d v
  | [], _ => rfl
  | x :: fs, h => by
    unfold putF
    rw [putF_put (fs := fs) fun y hy => h y (by simp [hy])]
    cases β x.1 with
    | none => rfl
    | some b => exact Act.put_comm _ _ _ fun e he hx => h x (by simp) (by rw [he, hx])
theorem putF_set {β : Nat → Option Nat} {a : Act} {x : FL} {b : Nat} : ∀ {fs : List FL}, x ∈ fs → (fs.map (·.1)).Nodup → (fs.map (·.2.1)).Nodup → β x.1 = none → putF fs (setB β x.1 b) a = (putF fs β a).put (some x.2.1) (ptrB b)
  | [], h, _, _, _ => by cases h
  | y :: fs, h, hn, hs, hb => by
    simp only [List.map_cons, List.nodup_cons, List.mem_map, not_exists, not_and] at hn hs
    unfold putF
    by_cases hxy : y.1 = x.1
    · have hyx : y = x := by
        rcases List.mem_cons.1 h with rfl | h'
        · rfl
        · exact absurd hxy.symm (hn.1 x h')
      subst hyx
      have e : putF fs (setB β y.1 b) a = putF fs β a := putF_congr fun z hz => by
        unfold setB; rw [if_neg (fun e => hn.1 z hz e)]
      simp only [setB, if_true, hb] at e ⊢
      rw [e]
    · have hx : x ∈ fs := by
        rcases List.mem_cons.1 h with rfl | h'
        · exact absurd rfl hxy
        · exact h'
      have e : setB β x.1 b y.1 = β y.1 := by unfold setB; rw [if_neg hxy]
      rw [e, putF_set hx hn.2 hs.2 hb]
      cases β y.1 with
      | none => rfl
      | some b' => exact Act.put_comm _ _ _ fun d hd hd' => hs.1 x hx (by simp_all)
theorem np_set {β : Nat → Option Nat} {x : FL} {b : Nat} : ∀ {fs : List FL}, x ∈ fs → (fs.map (·.1)).Nodup → β x.1 = none → np fs (setB β x.1 b) + 1 = np fs β
  | [], h, _, _ => by cases h
  | y :: fs, h, hn, hb => by
    simp only [List.map_cons, List.nodup_cons, List.mem_map, not_exists, not_and] at hn
    unfold np
    rw [List.countP_cons, List.countP_cons]
    by_cases hxy : y.1 = x.1
    · have e : fs.countP (fun z => (setB β x.1 b z.1).isNone) = fs.countP (fun z => (β z.1).isNone) := by
        refine List.countP_congr fun z hz => ?_
        rw [show setB β x.1 b z.1 = β z.1 by unfold setB; rw [if_neg (fun e => hn.1 z hz (e.trans hxy.symm))]]
      rw [e, show setB β x.1 b y.1 = some b by unfold setB; rw [if_pos hxy], show β y.1 = none by rw [hxy]; exact hb]
      simp
    · have hx : x ∈ fs := by
        rcases List.mem_cons.1 h with rfl | h'
        · exact absurd rfl hxy
        · exact h'
      have ih := np_set (b := b) hx hn.2 hb
      unfold np at ih
      rw [show setB β x.1 b y.1 = β y.1 by unfold setB; rw [if_neg hxy]]
      omega
theorem nodup_inj {x y : FL} : ∀ {fs : List FL}, (fs.map (·.1)).Nodup → x ∈ fs → y ∈ fs → x.1 = y.1 → x = y
  | [], _, h, _, _ => by cases h
  | z :: fs, hn, hx, hy, e => by
    simp only [List.map_cons, List.nodup_cons, List.mem_map, not_exists, not_and] at hn
    rcases List.mem_cons.1 hx with rfl | hx'
    · rcases List.mem_cons.1 hy with rfl | hy'
      · rfl
      · exact absurd e.symm (hn.1 y hy')
    · rcases List.mem_cons.1 hy with rfl | hy'
      · exact absurd e (hn.1 x hx')
      · exact nodup_inj hn.2 hx' hy' e
theorem np_zero {β : Nat → Option Nat} {fs : List FL} (h : np fs β = 0) : ∀ x ∈ fs, ∃ b, β x.1 = some b := by
  intro x hx
  have := List.countP_eq_zero.1 h x hx
  cases hb : β x.1 with
  | none => simp [hb] at this
  | some b => exact ⟨b, rfl⟩
theorem np_pos {β : Nat → Option Nat} {fs : List FL} (h : np fs β ≠ 0) : ∃ x ∈ fs, β x.1 = none := by
  obtain ⟨x, hx, hb⟩ := List.countP_pos_iff.1 (Nat.pos_of_ne_zero h)
  exact ⟨x, hx, by simpa using hb⟩
section
variable {P : Program} {ops : Array Oper} {Q : Exit → Act → World → Prop} {tl : List Nat}
theorem wpOp_put1 {j : Nat} {oj : Oper} {d : Tmp} {v : Value} (hj : ops[j]? = some oj) (hsj : ∀ cs b, oj.op ≠ .select cs b) (h1 : d ∉ oj.looksAt ops) (h2 : oj.dst ≠ some d)
    (hQ : ∀ c a w, Q (.panic c) a w → Q (.panic c) (a.put (some d) v) w) {K : Act → World → Prop} {a : Act} {w : World} (h : wpOp P ops Q j K a w) :
    wpOp P ops Q j (fun a' w' => ∃ a'', a' = a''.put (some d) v ∧ K a'' w') (a.put (some d) v) w := by
  have h1' : ∀ e, (some d : Option Tmp) = some e → e ∉ oj.looksAt ops := fun e he => by obtain rfl := Option.some.inj he; exact h1
  have h2' : ∀ e, (some d : Option Tmp) = some e → oj.dst ≠ some e := fun e he => by obtain rfl := Option.some.inj he; exact h2
  unfold wpOp at *
  simp only [hj] at *
  rw [wanted_put oj a (some d) v h1']
  split
  · rename_i hw
    simp only [hw, if_true] at h
    rcases h with h | ⟨hasks, hlets⟩
    case inr => exact .inr ⟨by unfold Oper.asks at *; rw [execOp_put oj hsj a (some d) v h1']; exact hasks, hlets⟩
    refine .inl ?_
    unfold Oper.wp at *
    rw [execOp_put oj hsj a (some d) v h1']
    generalize (execOp a.eval oj).run P w = r at *
    cases r with
    | ok n w' =>
      cases n <;> simp only [Oper.upon] at h ⊢
      case value u => exact ⟨_, Act.put_comm a v u h2', h⟩
      case skip => exact ⟨_, Act.put_comm a v undef h2', h⟩
      case defer f => exact ⟨_, Act.put_comm { a with defers := f :: a.defers } v undef h2', h⟩
      case enter f args =>
        refine Calls.mono h fun e w'' he => ?_
        cases e with
        | returned u => exact ⟨_, Act.put_comm a v u h2', he⟩
        | panicked c => exact hQ _ _ _ he
        | outgrown => exact he
      case row row args => exact Rows.mono h fun u w'' he => ⟨_, Act.put_comm a v u h2', he⟩
    | halt x w' =>
      cases x <;> simp only [Oper.upon] at h ⊢
      case panic u => exact hQ _ _ _ h
  · rename_i hw
    simp only [hw] at h
    exact ⟨_, Act.put_comm a v undef h2', h⟩
theorem wpOp_putF {j : Nat} {oj : Oper} {β : Nat → Option Nat} (hj : ops[j]? = some oj) (hsj : ∀ cs b, oj.op ≠ .select cs b) (hQ : ∀ c a d v w, Q (.panic c) a w → Q (.panic c) (a.put d v) w)
    {K : Act → World → Prop} {a : Act} {w : World} (h : wpOp P ops Q j K a w) : ∀ {fs : List FL}, (∀ x ∈ fs, x.2.1 ∉ oj.looksAt ops ∧ oj.dst ≠ some x.2.1) →
    wpOp P ops Q j (fun a' w' => ∃ a'', a' = putF fs β a'' ∧ K a'' w') (putF fs β a) w
  | [], _ => wpOp_mono (fun a' w' h' => ⟨a', rfl, h'⟩) h
  | x :: fs, hx => by
    have ih := wpOp_putF (β := β) hj hsj hQ h (fs := fs) fun y hy => hx y (by simp [hy])
    unfold putF
    cases β x.1 with
    | none => exact ih
    | some b =>
      refine wpOp_mono ?_ (wpOp_put1 (v := ptrB b) hj hsj (hx x (by simp)).1 (hx x (by simp)).2 (fun c a w => hQ c a _ _ w) ih)
      rintro a' w' ⟨a1, rfl, a2, rfl, hk⟩
      exact ⟨a2, rfl, hk⟩
theorem yields_putF {S : World → Prop} {o : Oper} {v : Value} {a : Act} {β : Nat → Option Nat} (hs : ∀ cs b, o.op ≠ .select cs b) (hy : YieldsIf P ops S o v a) : ∀ {fs : List FL}, (∀ x ∈ fs, x.2.1 ∉ o.looksAt ops) → YieldsIf P ops S o v (putF fs β a)
  | [], _ => hy
  | x :: fs, hx => by
    have ih := yields_putF (β := β) hs hy (fs := fs) fun y hy => hx y (by simp [hy])
    unfold putF
    cases β x.1 with
    | none => exact ih
    | some b =>
      have h1 : ∀ e, (some x.2.1 : Option Tmp) = some e → e ∉ o.looksAt ops := fun e he => by obtain rfl := Option.some.inj he; exact hx x (by simp)
      exact ih.of_same (execOp_put o hs _ _ _ h1) (wanted_put o _ _ _ h1)
/-- As 'wpAnyT'; an operation of 'pu' reads no memory: it may come up behind those of 'tl', too. -/
def wpAnyU (P : Program) (ops : Array Oper) (Q : Exit → Act → World → Prop) (S : World → Prop) (tl pu : List Nat) : Nat → Array Bool → Act → World → Prop
  | 0, listed, a, w => Region.ready .any ops listed = [] ∧ Q .normal a w
  | fuel + 1, listed, a, w =>
    (Region.ready .any ops listed = [] → Q .normal a w) ∧
    ∀ i ∈ Region.ready .any ops listed, wpOp P ops Q i (fun a' w' => (tl.contains i = false → (pu.contains i = true → S w) → S w') ∧ wpAnyU P ops Q S tl pu fuel (listed.setIfInBounds i true) a' w') a w
theorem wpAny_of_U {S : World → Prop} {pu : List Nat} : ∀ (fuel : Nat) (listed : Array Bool) (a : Act) (w : World), wpAnyU P ops Q S tl pu fuel listed a w → wpAny P .any ops Q fuel listed a w
  | 0, _, _, _, h => h
  | fuel + 1, _, _, _, h => ⟨h.1, fun i hi => wpOp_mono (fun a' w' h' => wpAny_of_U fuel _ a' w' h'.2) (h.2 i hi)⟩
/-- k is i, or waits for it by way of others that have not come up. -/
def dep (ops : Array Oper) (listed : Array Bool) (i : Nat) : Nat → Nat → Prop
  | 0, k => k = i
  | n + 1, k => k = i ∨ (listed.getD k false = false ∧ ∃ om, ops[k]? = some om ∧ ∃ e' ∈ om.after, Region.binds .any e' = true ∧ dep ops listed i n e'.on)
theorem dep_top {listed : Array Bool} {i : Nat} : ∀ {n k : Nat}, dep ops listed i n k → k = i ∨ listed.getD k false = false
  | 0, _, h => .inl h
  | _ + 1, _, .inl h => .inl h
  | _ + 1, _, .inr h => .inr h.1
theorem dep_set {listed : Array Bool} {i j : Nat} {oj : Oper} (hoj : ops[j]? = some oj) (hall : ∀ e ∈ oj.after, Region.binds .any e = true → listed.getD e.on false = true) (hnot : ∀ e ∈ oj.after, Region.binds .any e = true → e.on ≠ i) :
    ∀ (n k : Nat), dep ops listed i n k → dep ops (listed.setIfInBounds j true) i n k
  | 0, _, h => h
  | _ + 1, _, .inl h => .inl h
  | n + 1, k, .inr ⟨ho, om, hom, e', he', hb', hd⟩ => by
    refine .inr ⟨?_, om, hom, e', he', hb', dep_set hoj hall hnot n _ hd⟩
    have hje : j ≠ k := fun hje => by
      subst hje
      rw [hoj] at hom
      obtain rfl := Option.some.inj hom
      rcases dep_top hd with h | h
      · exact hnot e' he' hb' h
      · rw [hall e' he' hb'] at h; cases h
    rw [getD_set_ne false hje]; exact ho
/-- Every tail operation that has not come up waits for i, or for others that do. -/
def waits2 (ops : Array Oper) (tl : List Nat) (listed : Array Bool) (i : Nat) : Prop :=
  ∀ j oj, ops[j]? = some oj → tl.contains j = true → listed.getD j true = false → ∃ e ∈ oj.after, Region.binds .any e = true ∧ dep ops listed i 4 e.on
theorem wpAnyU_first {S : World → Prop} {pu : List Nat} {i : Nat} {oi : Oper} {v : Value} (hi : ops[i]? = some oi) (hsel : ∀ (j : Nat) (o : Oper) cs b, ops[j]? = some o → o.op ≠ .select cs b)
    (hQ : ∀ c a w, Q (.panic c) (a.put oi.dst v) w → Q (.panic c) a w) :
    ∀ (fuel : Nat) (listed : Array Bool) (a : Act) (w : World),
      (∀ j oj, ops[j]? = some oj → j ≠ i → listed.getD j true = false → (∀ e ∈ oj.after, Region.binds .any e = true → e.on ≠ i) → oi.apart ops oj = true) →
      waits2 ops tl listed i →
      i ∈ Region.ready .any ops listed → YieldsIf P ops S oi v a → S w →
      wpAnyU P ops Q S tl pu fuel (listed.setIfInBounds i true) (a.put oi.dst v) w → wpAnyU P ops Q S tl pu (fuel + 1) listed a w := by
  intro fuel
  induction fuel with
  | zero =>
    intro listed a w _ _ hr hy hS H
    refine ⟨fun h => (by rw [h] at hr; cases hr), fun j hj => ?_⟩
    by_cases hji : j = i
    · subst hji; exact hy.wpOp hi hS ⟨fun _ _ => hS, H⟩
    · have := ready_mono hj hji
      rw [H.1] at this
      cases this
  | succ fuel ih =>
    intro listed a w hfree hwt hr hy hS H
    refine ⟨fun h => (by rw [h] at hr; cases hr), fun j hj => ?_⟩
    by_cases hji : j = i
    · subst hji; exact hy.wpOp hi hS ⟨fun _ _ => hS, H⟩
    · have h1 := H.2 j (ready_mono hj hji)
      obtain ⟨hjun, oj, hoj, hall⟩ := mem_ready.1 hj
      have hnot : ∀ e ∈ oj.after, Region.binds .any e = true → e.on ≠ i := fun e he hb heq => by
        have h1 := hall e he hb
        have h0 := (mem_ready.1 hr).1
        rw [heq] at h1
        rcases Nat.lt_or_ge i listed.size with h' | h'
        · simp [h'] at h0 h1; rw [h0] at h1; cases h1
        · simp [Array.getElem?_eq_none h'] at h1
      have htj : tl.contains j = false := by
        cases hc : tl.contains j with
        | false => rfl
        | true =>
          obtain ⟨e, he, hb, ho⟩ := hwt j oj hoj hc hjun
          rcases dep_top ho with ho | ho
          · exact absurd ho (hnot e he hb)
          · have := hall e he hb
            rw [ho] at this; cases this
      have h2 := wpOp_putIf hoj (hfree j oj hoj hji hjun hnot) (fun cs b => hsel i oi cs b hi) (fun cs b => hsel j oj cs b hoj) hQ hy h1
      have hfree' : ∀ k ok, ops[k]? = some ok → k ≠ i → (listed.setIfInBounds j true).getD k true = false →
          (∀ e ∈ ok.after, Region.binds .any e = true → e.on ≠ i) → oi.apart ops ok = true := fun k ok hk hki hun hno => by
        refine hfree k ok hk hki ?_ hno
        by_cases hjk : j = k
        · subst hjk; exact hjun
        · rw [getD_set_ne true hjk] at hun; exact hun
      have hwt' : waits2 ops tl (listed.setIfInBounds j true) i := fun k ok hk htk hun => by
        obtain ⟨e, he, hb, ho⟩ := hwt k ok hk htk (by
          by_cases hjk : j = k
          · subst hjk; exact hjun
          · rw [getD_set_ne true hjk] at hun; exact hun)
        exact ⟨e, he, hb, dep_set hoj hall hnot _ _ ho⟩
      refine wpOp_mono (fun a' w' h3 => ⟨h3.2.1, ih (listed.setIfInBounds j true) a' w' hfree' hwt' (ready_mono hr (Ne.symm hji)) h3.1 (h3.2.1 htj fun _ => hS) ?_⟩) h2
      rw [Array.setIfInBounds_comm _ _ hji]
      exact h3.2.2
theorem wpAnyU_pure {S : World → Prop} {pu : List Nat} {i : Nat} {oi : Oper} {v : Value} (hi : ops[i]? = some oi) (hsel : ∀ (j : Nat) (o : Oper) cs b, ops[j]? = some o → o.op ≠ .select cs b)
    (hpi : pu.contains i = true) (hQ : ∀ c a w, Q (.panic c) (a.put oi.dst v) w → Q (.panic c) a w) :
    ∀ (fuel : Nat) (listed : Array Bool) (a : Act) (w : World),
      (∀ j oj, ops[j]? = some oj → j ≠ i → listed.getD j true = false → (∀ e ∈ oj.after, Region.binds .any e = true → e.on ≠ i) → oi.apart ops oj = true) →
      i ∈ Region.ready .any ops listed → YieldsIf P ops (fun _ => True) oi v a →
      wpAnyU P ops Q S tl pu fuel (listed.setIfInBounds i true) (a.put oi.dst v) w → wpAnyU P ops Q S tl pu (fuel + 1) listed a w := by
  intro fuel
  induction fuel with
  | zero =>
    intro listed a w _ hr hy H
    refine ⟨fun h => (by rw [h] at hr; cases hr), fun j hj => ?_⟩
    by_cases hji : j = i
    · subst hji; exact hy.wpOp hi trivial ⟨fun _ h => h hpi, H⟩
    · have := ready_mono hj hji
      rw [H.1] at this
      cases this
  | succ fuel ih =>
    intro listed a w hfree hr hy H
    refine ⟨fun h => (by rw [h] at hr; cases hr), fun j hj => ?_⟩
    by_cases hji : j = i
    · subst hji; exact hy.wpOp hi trivial ⟨fun _ h => h hpi, H⟩
    · have h1 := H.2 j (ready_mono hj hji)
      obtain ⟨hjun, oj, hoj, hall⟩ := mem_ready.1 hj
      have hnot : ∀ e ∈ oj.after, Region.binds .any e = true → e.on ≠ i := fun e he hb heq => by
        have h1 := hall e he hb
        have h0 := (mem_ready.1 hr).1
        rw [heq] at h1
        rcases Nat.lt_or_ge i listed.size with h' | h'
        · simp [h'] at h0 h1; rw [h0] at h1; cases h1
        · simp [Array.getElem?_eq_none h'] at h1
      have h2 := wpOp_putIf hoj (hfree j oj hoj hji hjun hnot) (fun cs b => hsel i oi cs b hi) (fun cs b => hsel j oj cs b hoj) hQ hy h1
      have hfree' : ∀ k ok, ops[k]? = some ok → k ≠ i → (listed.setIfInBounds j true).getD k true = false →
          (∀ e ∈ ok.after, Region.binds .any e = true → e.on ≠ i) → oi.apart ops ok = true := fun k ok hk hki hun hno => by
        refine hfree k ok hk hki ?_ hno
        by_cases hjk : j = k
        · subst hjk; exact hjun
        · rw [getD_set_ne true hjk] at hun; exact hun
      refine wpOp_mono (fun a' w' h3 => ⟨h3.2.1, ih (listed.setIfInBounds j true) a' w' hfree' (ready_mono hr (Ne.symm hji)) h3.1 ?_⟩) h2
      rw [Array.setIfInBounds_comm _ _ hji]
      exact h3.2.2
/-- What ends the region, one behind the other. -/
def wpTl (P : Program) (ops : Array Oper) (Q : Exit → Act → World → Prop) : List Nat → Act → World → Prop
  | [], a, w => Q .normal a w
  | i :: rest, a, w => wpOp P ops Q i (wpTl P ops Q rest) a w
def tailOk (ops : Array Oper) (tl : List Nat) : Array Bool → List Nat → Bool
  | listed, [] => (Region.ready .any ops listed).isEmpty
  | listed, i :: rest => (Region.ready .any ops listed == [i]) && tl.contains i && tailOk ops tl (listed.setIfInBounds i true) rest
theorem wpTl_sound {S : World → Prop} {pu : List Nat} : ∀ (tp : List Nat) (listed : Array Bool) (a : Act) (w : World), tailOk ops tl listed tp = true → wpTl P ops Q tp a w → wpAnyU P ops Q S tl pu tp.length listed a w
  | [], listed, a, w, ho, h => ⟨by simpa [tailOk] using ho, h⟩
  | i :: rest, listed, a, w, ho, h => by
    simp only [tailOk, Bool.and_eq_true, beq_iff_eq] at ho
    obtain ⟨⟨h1, h2⟩, h3⟩ := ho
    refine ⟨fun h0 => (by rw [h1] at h0; cases h0), fun j hj => ?_⟩
    rw [h1] at hj
    obtain rfl : j = i := by simpa using hj
    exact wpOp_mono (fun a' w' h' => ⟨fun ht => (by rw [h2] at ht; cases ht), wpTl_sound rest _ _ _ h3 h'⟩) h
theorem wpTl_op {i : Nat} {o : Oper} {rest : List Nat} {a : Act} {w : World} (hi : ops.toList[i]? = some o) (hw : Region.wanted o (yielded ops a.tmps) = true) (h : ∀ K : Act → World → Prop, (∀ a' w', wpTl P ops Q rest a' w' → K a' w') → o.wp P a w K Q) :
    wpTl P ops Q (i :: rest) a w := by
  have hi' : ops[i]? = some o := by simpa using hi
  show wpOp _ _ _ _ _ _ _
  unfold wpOp
  simp only [hi', hw, if_true]
  exact .inl (h _ fun a' w' hk => hk)
theorem wpTl_nil {a : Act} {w : World} (h : Q .normal a w) : wpTl P ops Q [] a w := h
/-- The walk by a plan, whatever the new variables' turns. -/
def wpFp (P : Program) (ops : Array Oper) (Q : Exit → Act → World → Prop) (W0 : World) (fs : List FL) (tp : List Nat) : List (Nat × Nat) → Act → (World → Prop) → Prop
  | [], a, E => ∀ (β : Nat → Option Nat) (w : World), Ext W0 w → E w → (∀ x ∈ fs, ∃ b, β x.1 = some b ∧ w.heap[b]? = some x.2.2 ∧ W0.heap.size ≤ b) →
      (∀ x ∈ fs, ∀ y ∈ fs, ∀ b, β x.1 = some b → β y.1 = some b → x.1 = y.1) → wpTl P ops Q tp (putF fs β a) w
  | (i, 0) :: rest, a, E => ∃ o v, ops[i]? = some o ∧ YieldsIf P ops (Ext W0) o v a ∧ wpFp P ops Q W0 fs tp rest (a.put o.dst v) E
  | (i, 2) :: rest, a, E => ∃ o v, ops[i]? = some o ∧ YieldsIf P ops (fun _ => True) o v a ∧ wpFp P ops Q W0 fs tp rest (a.put o.dst v) E
  | (i, _) :: rest, a, E => ∀ w, Ext W0 w → E w → wpOp P ops Q i (fun a' w' => Ext w w' ∧ ∃ E' : World → Prop, (∀ w1 w2, Ext w1 w2 → E' w1 → E' w2) ∧ E' w' ∧ wpFp P ops Q W0 fs tp rest a' E') a w
def floatsOk (ops : Array Oper) (fs : List FL) (tl : List Nat) : Bool :=
  fs.all (fun x => match ops[x.1]? with
    | some o => o.guard.isNone && o.dst == some x.2.1 && o.after.all (fun e => !Region.binds .any e) && !tl.contains x.1
    | none => false) &&
  decide (fs.map (·.1)).Nodup && decide (fs.map (·.2.1)).Nodup &&
  (List.range ops.size).all (fun j => (fs.map (·.1)).contains j || match ops[j]? with
    | none => true
    | some oj =>
      if tl.contains j then fs.all (fun x => oj.after.any (fun e => Region.binds .any e && e.on == x.1))
      else oj.after.all (fun e => !Region.binds .any e || !(fs.map (·.1)).contains e.on) &&
        fs.all (fun x => !(oj.looksAt ops).contains x.2.1 && oj.dst != some x.2.1 && (match ops[x.1]? with | some o => oj.apart ops o | none => false)))
def depB (ops : Array Oper) (F : List Nat) (listed : Array Bool) (i : Nat) : Nat → Nat → Bool
  | 0, k => k == i
  | n + 1, k => k == i || (!F.contains k && !listed.getD k false && match ops[k]? with | some om => om.after.any (fun e' => Region.binds .any e' && depB ops F listed i n e'.on) | none => false)
def planF (ops : Array Oper) (F : List Nat) (tl pu : List Nat) : Array Bool → List (Nat × Nat) → Bool
  | listed, [] => (List.range ops.size).all (fun j => listed.getD j true || tl.contains j)
  | listed, (i, 0) :: rest => Region.free .any ops listed i && (Region.ready .any ops listed).contains i && !tl.contains i && !F.contains i &&
      tl.all (fun j => listed.getD j true || match ops[j]? with | some oj => oj.after.any (fun e => Region.binds .any e && depB ops F listed i 4 e.on) | none => true) && planF ops F tl pu (listed.setIfInBounds i true) rest
  | listed, (i, 2) :: rest => Region.free .any ops listed i && (Region.ready .any ops listed).contains i && !tl.contains i && !F.contains i && pu.contains i && planF ops F tl pu (listed.setIfInBounds i true) rest
  | listed, (i, _) :: rest => (Region.ready .any ops listed == [i]) && !tl.contains i && !F.contains i && !pu.contains i && planF ops F tl pu (listed.setIfInBounds i true) rest
def listAll (listed : Array Bool) (pl : List (Nat × Nat)) : Array Bool := pl.foldl (fun l x => l.setIfInBounds x.1 true) listed
/-- How far the floats have come up. -/
structure Rel (fs : List FL) (listed lF : Array Bool) (β : Nat → Option Nat) : Prop where
  size : listed.size = lF.size
  main : ∀ j, j ∉ fs.map (·.1) → listed[j]? = lF[j]?
  done : ∀ x ∈ fs, listed[x.1]? = some (β x.1).isSome ∧ lF[x.1]? = some true
theorem Rel.step {fs : List FL} {listed lF : Array Bool} {β : Nat → Option Nat} (h : Rel fs listed lF β) {i : Nat} (hi : i ∉ fs.map (·.1)) : Rel fs (listed.setIfInBounds i true) (lF.setIfInBounds i true) β := by
  refine ⟨by simp [h.size], fun j hj => ?_, fun x hx => ?_⟩
  · rw [Array.getElem?_setIfInBounds, Array.getElem?_setIfInBounds, h.size, h.main j hj]
  · have hne : i ≠ x.1 := fun e => hi (by rw [e]; exact List.mem_map.2 ⟨x, hx, rfl⟩)
    rw [Array.getElem?_setIfInBounds_ne hne, Array.getElem?_setIfInBounds_ne hne]
    exact h.done x hx
theorem Rel.float {fs : List FL} {listed lF : Array Bool} {β : Nat → Option Nat} (h : Rel fs listed lF β) {x : FL} (hx : x ∈ fs) (b : Nat) : Rel fs (listed.setIfInBounds x.1 true) lF (setB β x.1 b) := by
  refine ⟨by simp [h.size], fun j hj => ?_, fun y hy => ?_⟩
  · rw [Array.getElem?_setIfInBounds_ne (fun e => hj (by rw [← e]; exact List.mem_map.2 ⟨x, hx, rfl⟩))]; exact h.main j hj
  · refine ⟨?_, (h.done y hy).2⟩
    have hl := (h.done y hy).1
    by_cases hxy : x.1 = y.1
    · rw [← hxy, Array.getElem?_setIfInBounds_self]
      have : x.1 < listed.size := by rw [hxy]; exact (Array.getElem?_eq_some_iff.1 hl).1
      simp [this, setB]
    · rw [Array.getElem?_setIfInBounds_ne hxy, hl]
      unfold setB; rw [if_neg (fun e => hxy e.symm)]
theorem getD_of {l : Array Bool} {j : Nat} {b d : Bool} (h : l[j]? = some b) : l.getD j d = b := by simp [h]
theorem getD_same {l l' : Array Bool} {j : Nat} {d : Bool} (h : l[j]? = l'[j]?) : l.getD j d = l'.getD j d := by simp [h]
theorem dep_of {fs : List FL} {listed lF : Array Bool} {β : Nat → Option Nat} (hR : Rel fs listed lF β) {i : Nat} : ∀ (n k : Nat), depB ops (fs.map (·.1)) lF i n k = true → dep ops listed i n k
  | 0, k, h => by show k = i; simpa [depB] using h
  | n + 1, k, h => by
    simp only [depB, Bool.or_eq_true, beq_iff_eq, Bool.and_eq_true, Bool.not_eq_true'] at h
    rcases h with h | ⟨⟨hF, hun⟩, h⟩
    · exact .inl h
    · right
      refine ⟨by rw [getD_same (hR.main k (by simpa using hF))]; exact hun, ?_⟩
      cases hom : ops[k]? with
      | none => rw [hom] at h; cases h
      | some om =>
        rw [hom] at h
        obtain ⟨e', he', hb'⟩ := Array.any_eq_true'.1 h
        simp only [Bool.and_eq_true] at hb'
        exact ⟨om, rfl, e', he', hb'.1, dep_of hR n _ hb'.2⟩
/-- What floatsOk says. -/
structure FOk (ops : Array Oper) (fs : List FL) (tl : List Nat) : Prop where
  fl : ∀ x ∈ fs, ∃ o, ops[x.1]? = some o ∧ o.guard = none ∧ o.dst = some x.2.1 ∧ (∀ e ∈ o.after, Region.binds .any e = false) ∧ tl.contains x.1 = false
  n1 : (fs.map (·.1)).Nodup
  n2 : (fs.map (·.2.1)).Nodup
  tail : ∀ j oj, ops[j]? = some oj → j ∉ fs.map (·.1) → tl.contains j = true → ∀ x ∈ fs, ∃ e ∈ oj.after, Region.binds .any e = true ∧ e.on = x.1
  main : ∀ j oj, ops[j]? = some oj → j ∉ fs.map (·.1) → tl.contains j = false → (∀ e ∈ oj.after, Region.binds .any e = true → e.on ∉ fs.map (·.1)) ∧ ∀ x ∈ fs, x.2.1 ∉ oj.looksAt ops ∧ oj.dst ≠ some x.2.1 ∧ ∀ o, ops[x.1]? = some o → oj.apart ops o = true
theorem FOk.of {fs : List FL} (h : floatsOk ops fs tl = true) : FOk ops fs tl := by
  simp only [floatsOk, Bool.and_eq_true, decide_eq_true_eq, List.all_eq_true] at h
  obtain ⟨⟨⟨h1, h2⟩, h3⟩, h4⟩ := h
  refine ⟨fun x hx => ?_, h2, h3, fun j oj hj hn ht x hx => ?_, fun j oj hj hn ht => ?_⟩
  · have := h1 x hx
    cases ho : ops[x.1]? with
    | none => rw [ho] at this; cases this
    | some o =>
      rw [ho] at this
      simp only [Bool.and_eq_true, Bool.not_eq_true', Option.isNone_iff_eq_none, beq_iff_eq, Array.all_eq_true_iff_forall_mem] at this
      exact ⟨o, rfl, this.1.1.1, this.1.1.2, this.1.2, this.2⟩
  · have := h4 j (List.mem_range.2 (Array.getElem?_eq_some_iff.1 hj).1)
    rw [show (fs.map (·.1)).contains j = false by simpa using hn, hj] at this
    simp only [Bool.false_or, ht, if_true, List.all_eq_true] at this
    obtain ⟨e, he, hb⟩ := Array.any_eq_true'.1 (this x hx)
    simp only [Bool.and_eq_true, beq_iff_eq] at hb
    exact ⟨e, he, hb⟩
  · have := h4 j (List.mem_range.2 (Array.getElem?_eq_some_iff.1 hj).1)
    rw [show (fs.map (·.1)).contains j = false by simpa using hn, hj] at this
    simp only [Bool.false_or, ht, Bool.false_eq_true, if_false, Bool.and_eq_true, List.all_eq_true, Array.all_eq_true_iff_forall_mem] at this
    refine ⟨fun e he hb hin => ?_, fun x hx => ?_⟩
    · have := this.1 e he
      rw [hb] at this
      simp only [Bool.not_true, Bool.false_or, Bool.not_eq_true'] at this
      exact absurd hin (by simpa using this)
    · have := this.2 x hx
      obtain ⟨⟨a1, a2⟩, a3⟩ := this
      refine ⟨by simpa using a1, by simpa using a2, fun o ho => ?_⟩
      rw [ho] at a3
      exact a3
theorem wpFp_sound {W0 : World} {fs : List FL} {tp pu : List Nat} (hok : FOk ops fs tl) (hsel : Region.noSelect ops = true) (hQ : ∀ c a d v w, Q (.panic c) (a.put d v) w → Q (.panic c) a w) (hQ' : ∀ c a d v w, Q (.panic c) a w → Q (.panic c) (a.put d v) w)
    (hob : ∀ x ∈ fs, ∀ o, ops[x.1]? = some o → ∀ (a : Act) (w : World), (execOp a.eval o).run P w = .ok (.value (ptrB w.heap.size)) (w.alloc x.2.2)) :
    ∀ (m : Nat) (pl : List (Nat × Nat)) (listed lF : Array Bool) (β : Nat → Option Nat) (a : Act) (E : World → Prop) (w : World), pl.length + np fs β = m → Rel fs listed lF β →
      planF ops (fs.map (·.1)) tl pu lF pl = true → tailOk ops tl (listAll lF pl) tp = true → Ext W0 w → (∀ w1 w2, Ext w1 w2 → E w1 → E w2) → E w →
      (∀ x ∈ fs, ∀ b, β x.1 = some b → w.heap[b]? = some x.2.2 ∧ W0.heap.size ≤ b) → (∀ x ∈ fs, ∀ y ∈ fs, ∀ b, β x.1 = some b → β y.1 = some b → x.1 = y.1) →
      wpFp P ops Q W0 fs tp pl a E → wpAnyU P ops Q (Ext W0) tl pu (m + tp.length) listed (putF fs β a) w := by
  intro m
  induction m with
  | zero =>
    intro pl listed lF β a E w hm hR hpl htp hX hst hE hbl hinj h
    obtain rfl : pl = [] := List.eq_nil_of_length_eq_zero (by omega)
    have hz : np fs β = 0 := by simpa using hm
    have hdone := np_zero hz
    have hl : listed = lF := by
      apply Array.ext_getElem?
      intro j
      by_cases hj : j ∈ fs.map (·.1)
      · obtain ⟨x, hx, rfl⟩ := List.mem_map.1 hj
        obtain ⟨b, hb⟩ := hdone x hx
        rw [(hR.done x hx).1, (hR.done x hx).2, hb]; rfl
      · exact hR.main j hj
    subst hl
    rw [Nat.zero_add]
    exact wpTl_sound tp _ _ _ htp (h β w hX hE (fun x hx => by obtain ⟨b, hb⟩ := hdone x hx; exact ⟨b, hb, hbl x hx b hb⟩) hinj)
  | succ m ih =>
    intro pl listed lF β a E w hm hR hpl htp hX hst hE hbl hinj h
    have hal : ∀ x ∈ fs, β x.1 = none → wpOp P ops Q x.1 (fun a' w' => (tl.contains x.1 = false → (pu.contains x.1 = true → Ext W0 w) → Ext W0 w') ∧ wpAnyU P ops Q (Ext W0) tl pu (m + tp.length) (listed.setIfInBounds x.1 true) a' w') (putF fs β a) w := by
      intro x hx hb
      obtain ⟨o, ho, hg, hd, _, _⟩ := hok.fl x hx
      unfold wpOp
      simp only [ho]
      rw [if_pos (by simp [Region.wanted, hg])]
      refine .inl ?_
      unfold Oper.wp
      rw [hob x hx o ho]
      have hnp := np_set (b := w.heap.size) hx hok.n1 hb
      have hXa : Ext w (w.alloc x.2.2) := (Ext.refl w).alloc _
      have key := ih pl (listed.setIfInBounds x.1 true) lF (setB β x.1 w.heap.size) a E (w.alloc x.2.2) (by omega) (hR.float hx _) hpl htp (hX.trans hXa) hst (hst _ _ hXa hE) ?_ ?_ h
      · rw [putF_set hx hok.n1 hok.n2 hb] at key
        simp only [Oper.upon, hd]
        exact ⟨fun _ _ => hX.trans hXa, key⟩
      · intro y hy b hyb
        by_cases hxy : y.1 = x.1
        · have hyx : y = x := by
            have := hok.n1
            exact nodup_inj this hy hx hxy
          subst hyx
          simp only [setB, if_true, Option.some.injEq] at hyb
          subst hyb
          exact ⟨heap_alloc_new _ _, hX.size⟩
        · simp only [setB, hxy, if_false] at hyb
          obtain ⟨h1, h2⟩ := hbl y hy b hyb
          have hlt : b < w.heap.size := by
            rcases Nat.lt_or_ge b w.heap.size with hl | hl
            · exact hl
            · rw [Array.getElem?_eq_none hl] at h1; cases h1
          exact ⟨by rw [hXa.block hlt]; exact h1, h2⟩
      · intro y hy z hz b hyb hzb
        have hlt : ∀ u ∈ fs, β u.1 = some b → b < w.heap.size := fun u hu hub => by
          obtain ⟨h1, _⟩ := hbl u hu b hub
          rcases Nat.lt_or_ge b w.heap.size with hl | hl
          · exact hl
          · rw [Array.getElem?_eq_none hl] at h1; cases h1
        unfold setB at hyb hzb
        split at hyb
        · rename_i e1
          split at hzb
          · rename_i e2; rw [e1, e2]
          · have := hlt z hz hzb
            simp only [Option.some.injEq] at hyb
            omega
        · split at hzb
          · have := hlt y hy hyb
            simp only [Option.some.injEq] at hzb
            omega
          · exact hinj y hy z hz b hyb hzb
    have hfr : ∀ x ∈ fs, β x.1 = none → x.1 ∈ Region.ready .any ops listed := by
      intro x hx hb
      obtain ⟨o, ho, _, _, ha, _⟩ := hok.fl x hx
      refine mem_ready.2 ⟨?_, o, ho, fun e he hbi => ?_⟩
      · rw [getD_of (hR.done x hx).1, hb]; rfl
      · rw [ha e he] at hbi; cases hbi
    have hfl : ∀ x ∈ fs, x.1 ∈ Region.ready .any ops listed → β x.1 = none := by
      intro x hx hr
      have h0 := (mem_ready.1 hr).1
      rw [getD_of (hR.done x hx).1] at h0
      cases hb : β x.1 with
      | none => rfl
      | some b => rw [hb] at h0; cases h0
    have hto : ∀ j, j ∉ fs.map (·.1) → j ∈ Region.ready .any ops listed → j ∈ Region.ready .any ops lF := by
      intro j hj hr
      obtain ⟨h0, o, ho, ha⟩ := mem_ready.1 hr
      refine mem_ready.2 ⟨by rw [← getD_same (hR.main j hj)]; exact h0, o, ho, fun e he hb => ?_⟩
      have h1 := ha e he hb
      by_cases hin : e.on ∈ fs.map (·.1)
      · obtain ⟨x, hx, hxe⟩ := List.mem_map.1 hin
        rw [← hxe, getD_of (hR.done x hx).2]
      · rw [← getD_same (hR.main _ hin)]; exact h1
    have hfrom : ∀ j oj, ops[j]? = some oj → j ∉ fs.map (·.1) → tl.contains j = false → j ∈ Region.ready .any ops lF → j ∈ Region.ready .any ops listed := by
      intro j oj hoj hj ht hr
      obtain ⟨h0, o, ho, ha⟩ := mem_ready.1 hr
      obtain rfl : oj = o := by rw [hoj] at ho; exact Option.some.inj ho
      refine mem_ready.2 ⟨by rw [getD_same (hR.main j hj)]; exact h0, oj, hoj, fun e he hb => ?_⟩
      rw [getD_same (hR.main _ ((hok.main j oj hoj hj ht).1 e he hb))]
      exact ha e he hb
    match pl, hm, hpl, htp, h with
    | [], hm, hpl, htp, h =>
      have hnz : np fs β ≠ 0 := by simp at hm; omega
      obtain ⟨x0, hx0, hb0⟩ := np_pos hnz
      rw [show m + 1 + tp.length = (m + tp.length) + 1 by omega]
      refine ⟨fun h0 => (by have := hfr x0 hx0 hb0; rw [h0] at this; cases this), fun j hj => ?_⟩
      by_cases hin : j ∈ fs.map (·.1)
      · obtain ⟨x, hx, rfl⟩ := List.mem_map.1 hin
        exact hal x hx (hfl x hx hj)
      · exfalso
        obtain ⟨h0, oj, hoj, ha⟩ := mem_ready.1 hj
        rw [getD_same (hR.main j hin)] at h0
        simp only [planF, List.all_eq_true] at hpl
        have := hpl j (List.mem_range.2 (Array.getElem?_eq_some_iff.1 hoj).1)
        rw [h0, Bool.false_or] at this
        obtain ⟨e, he, hb, hon⟩ := hok.tail j oj hoj hin this x0 hx0
        have h1 := ha e he hb
        rw [hon, getD_of (hR.done x0 hx0).1, hb0] at h1
        cases h1
    | (i, 0) :: rest, hm, hpl, htp, h =>
      obtain ⟨o, v, hi, hy, h⟩ := h
      simp only [planF, Bool.and_eq_true, Bool.not_eq_true'] at hpl
      obtain ⟨⟨⟨⟨⟨h1, h2⟩, h3⟩, h3'⟩, h4⟩, h5⟩ := hpl
      have hiF : i ∉ fs.map (·.1) := by simpa using h3'
      obtain ⟨hm1, hm2⟩ := hok.main i o hi hiF h3
      have key := ih rest (listed.setIfInBounds i true) (lF.setIfInBounds i true) β (a.put o.dst v) E w (by simp at hm; omega) (hR.step hiF) h5 htp hX hst hE hbl hinj h
      rw [putF_put fun x hx => (hm2 x hx).2.1] at key
      rw [show m + 1 + tp.length = (m + tp.length) + 1 by omega]
      refine wpAnyU_first hi (Region.noSelect_spec hsel) (fun c a w => hQ c a _ _ w) _ _ _ _ ?_ ?_ (hfrom i o hi hiF h3 (by simpa using h2)) (yields_putF (Region.noSelect_spec hsel i o · · hi) hy fun x hx => (hm2 x hx).1) hX key
      · intro j oj hj hji hun hno
        by_cases hin : j ∈ fs.map (·.1)
        · obtain ⟨x, hx, rfl⟩ := List.mem_map.1 hin
          exact (hm2 x hx).2.2 oj hj
        · exact Region.free_spec hi h1 j oj hj hji (by rw [← getD_same (hR.main j hin)]; exact hun) hno
      · intro j oj hj htj hun
        have hjF : j ∉ fs.map (·.1) := fun hin => by
          obtain ⟨x, hx, rfl⟩ := List.mem_map.1 hin
          obtain ⟨_, _, _, _, _, ht⟩ := hok.fl x hx
          rw [ht] at htj; cases htj
        have h6 := List.all_eq_true.1 h4 j (by simpa using htj)
        rw [getD_same (hR.main j hjF)] at hun
        rw [hj] at h6
        simp only [hun, Bool.false_or] at h6
        obtain ⟨e, he, hb⟩ := Array.any_eq_true'.1 h6
        simp only [Bool.and_eq_true] at hb
        exact ⟨e, he, hb.1, dep_of hR _ _ hb.2⟩
    | (i, 2) :: rest, hm, hpl, htp, h =>
      obtain ⟨o, v, hi, hy, h⟩ := h
      simp only [planF, Bool.and_eq_true, Bool.not_eq_true'] at hpl
      obtain ⟨⟨⟨⟨⟨h1, h2⟩, h3⟩, h3'⟩, h4⟩, h5⟩ := hpl
      have hiF : i ∉ fs.map (·.1) := by simpa using h3'
      obtain ⟨hm1, hm2⟩ := hok.main i o hi hiF h3
      have key := ih rest (listed.setIfInBounds i true) (lF.setIfInBounds i true) β (a.put o.dst v) E w (by simp at hm; omega) (hR.step hiF) h5 htp hX hst hE hbl hinj h
      rw [putF_put fun x hx => (hm2 x hx).2.1] at key
      rw [show m + 1 + tp.length = (m + tp.length) + 1 by omega]
      refine wpAnyU_pure hi (Region.noSelect_spec hsel) h4 (fun c a w => hQ c a _ _ w) _ _ _ _ ?_ (hfrom i o hi hiF h3 (by simpa using h2)) (yields_putF (Region.noSelect_spec hsel i o · · hi) hy fun x hx => (hm2 x hx).1) key
      intro j oj hj hji hun hno
      by_cases hin : j ∈ fs.map (·.1)
      · obtain ⟨x, hx, rfl⟩ := List.mem_map.1 hin
        exact (hm2 x hx).2.2 oj hj
      · exact Region.free_spec hi h1 j oj hj hji (by rw [← getD_same (hR.main j hin)]; exact hun) hno
    | (i, 1) :: rest, hm, hpl, htp, h | (i, k + 3) :: rest, hm, hpl, htp, h =>
      simp only [planF, Bool.and_eq_true, Bool.not_eq_true', beq_iff_eq] at hpl
      obtain ⟨⟨⟨⟨h1, h2⟩, h3⟩, h4⟩, h5⟩ := hpl
      have hiF : i ∉ fs.map (·.1) := by simpa using h3
      have hir : i ∈ Region.ready .any ops lF := by rw [h1]; simp
      obtain ⟨_, o, hi, _⟩ := mem_ready.1 hir
      rw [show m + 1 + tp.length = (m + tp.length) + 1 by omega]
      refine ⟨fun h0 => (by have := hfrom i o hi hiF h2 hir; rw [h0] at this; cases this), fun j hj => ?_⟩
      by_cases hin : j ∈ fs.map (·.1)
      · obtain ⟨x, hx, rfl⟩ := List.mem_map.1 hin
        exact hal x hx (hfl x hx hj)
      · have hjr := hto j hin hj
        rw [h1] at hjr
        obtain rfl : j = i := by simpa using hjr
        obtain ⟨_, hm2⟩ := hok.main j o hi hiF h2
        refine wpOp_mono ?_ (wpOp_putF (β := β) hi (Region.noSelect_spec hsel j o · · hi) hQ' (h w hX hE) (fs := fs) fun x hx => ⟨(hm2 x hx).1, (hm2 x hx).2.1⟩)
        rintro a' w' ⟨a'', rfl, hXw, E', hst', hE', hk⟩
        refine ⟨fun _ _ => hX.trans hXw, ih rest (listed.setIfInBounds j true) (lF.setIfInBounds j true) β a'' E' w' (by simp at hm; omega) (hR.step hiF) h5 htp (hX.trans hXw) hst' hE' ?_ hinj hk⟩
        intro y hy b hyb
        obtain ⟨g1, g2⟩ := hbl y hy b hyb
        have hlt : b < w.heap.size := by
          rcases Nat.lt_or_ge b w.heap.size with hl | hl
          · exact hl
          · rw [Array.getElem?_eq_none hl] at g1; cases g1
        exact ⟨by rw [hXw.block hlt]; exact g1, g2⟩
/-- **The region, by a plan, with new variables at any time.** -/
theorem wp_float {id : Nat} {a : Act} {w : World} (fs : List FL) (pl : List (Nat × Nat)) (tp tl pu : List Nat) (hm : P.follows .mixedOrders = true) (hsel : Region.noSelect ops = true)
    (hok : (floatsOk ops fs tl && planF ops (fs.map (·.1)) tl pu (fs.foldl (fun l x => l.setIfInBounds x.1 true) (Array.replicate ops.size false)) pl && tailOk ops tl (listAll (fs.foldl (fun l x => l.setIfInBounds x.1 true) (Array.replicate ops.size false)) pl) tp && pl.length + fs.length + tp.length == ops.size) = true)
    (hQ : ∀ c a d v w, Q (.panic c) (a.put d v) w → Q (.panic c) a w) (hQ' : ∀ c a d v w, Q (.panic c) a w → Q (.panic c) (a.put d v) w)
    (hob : ∀ x ∈ fs, ∀ o, ops[x.1]? = some o → ∀ (a : Act) (w : World), (execOp a.eval o).run P w = .ok (.value (ptrB w.heap.size)) (w.alloc x.2.2))
    (h : wpFp P ops Q w.drew fs tp pl a (fun _ => True)) : (Code.region id ops true).wp P Q a w := by
  simp only [Bool.and_eq_true, beq_iff_eq] at hok
  obtain ⟨⟨⟨h1, h2⟩, h3⟩, h4⟩ := hok
  have hF := FOk.of h1
  refine wp_region_any hm (wpAny_of_U (S := Ext w.drew) (tl := tl) (pu := pu) _ _ _ _ ?_)
  have hnone : ∀ (fs' : List FL), np fs' (fun _ => none) = fs'.length := fun fs' => by
    unfold np; rw [List.countP_eq_length.2]; intro x hx; rfl
  have hput : ∀ (fs' : List FL) (a : Act), putF fs' (fun _ => none) a = a := fun fs' a => by
    induction fs' with
    | nil => rfl
    | cons x fs' ih => unfold putF; exact ih
  have hlF : ∀ (fs' : List FL) (l : Array Bool), l.size = ops.size → (∀ x ∈ fs', x.1 < ops.size) → (fs'.foldl (fun l x => l.setIfInBounds x.1 true) l).size = ops.size ∧ (∀ j : Nat, j ∉ fs'.map (·.1) → (fs'.foldl (fun l x => l.setIfInBounds x.1 true) l)[j]? = l[j]?) ∧
      (∀ x ∈ fs', (fs'.foldl (fun l x => l.setIfInBounds x.1 true) l)[x.1]? = some true) ∧ (∀ j : Nat, l[j]? = some true → (fs'.foldl (fun l x => l.setIfInBounds x.1 true) l)[j]? = some true) := by
    intro fs'
    induction fs' with
    | nil => intro l hl _; exact ⟨hl, fun _ _ => rfl, fun x hx => (by cases hx), fun _ h => h⟩
    | cons y fs' ih =>
      intro l hl hlt
      obtain ⟨i1, i2, i3, i4⟩ := ih (l.setIfInBounds y.1 true) (by simp [hl]) (fun x hx => hlt x (by simp [hx]))
      have hy : (l.setIfInBounds y.1 true)[y.1]? = some true := by
        have := hlt y (by simp)
        simp [hl, this]
      refine ⟨i1, fun j hj => ?_, fun x hx => ?_, fun j hj => ?_⟩
      · simp only [List.map_cons, List.mem_cons, not_or] at hj
        rw [List.foldl_cons, i2 j hj.2, Array.getElem?_setIfInBounds_ne (fun e => hj.1 e.symm)]
      · rcases List.mem_cons.1 hx with rfl | hx'
        · exact i4 _ hy
        · exact i3 x hx'
      · refine i4 j ?_
        by_cases e : y.1 = j
        · rw [← e]; exact hy
        · rw [Array.getElem?_setIfInBounds_ne e]; exact hj
  obtain ⟨l1, l2, l3, _⟩ := hlF fs (Array.replicate ops.size false) (by simp) (fun x hx => by
    obtain ⟨o, ho, _⟩ := hF.fl x hx
    exact (Array.getElem?_eq_some_iff.1 ho).1)
  have key := wpFp_sound (P := P) (Q := Q) (W0 := w.drew) (tp := tp) (pu := pu) hF hsel hQ hQ' hob (pl.length + fs.length) pl (Array.replicate ops.size false) _ (fun _ => none) a (fun _ => True) w.drew (by rw [hnone]) ⟨by rw [l1]; simp, fun j hj => (l2 j hj).symm, fun x hx => ⟨?_, l3 x hx⟩⟩ h2 h3 (Ext.refl _) (fun _ _ _ _ => trivial) trivial (fun x _ b hb => by cases hb) (fun x _ y _ b hb => by cases hb) h
  · rw [hput, h4] at key
    exact key
  · obtain ⟨o, ho, _⟩ := hF.fl x hx
    have := (Array.getElem?_eq_some_iff.1 ho).1
    simp [this]
variable {W0 : World} {fs : List FL} {tp : List Nat} {a : Act} {E : World → Prop} {i : Nat} {rest : List (Nat × Nat)} {o : Oper}
theorem wpFp_read {v : Value} (hi : ops.toList[i]? = some o) (hw : Region.wanted o (yielded ops a.tmps) = true) (h : ∀ w, Ext W0 w → (execOp a.eval o).run P w = .ok (.value v) w) (k : wpFp P ops Q W0 fs tp rest (a.put o.dst v) E) :
    wpFp P ops Q W0 fs tp ((i, 0) :: rest) a E := ⟨o, v, by simpa using hi, .inl ⟨hw, h⟩, k⟩
theorem wpFp_pure {v : Value} (hi : ops.toList[i]? = some o) (hw : Region.wanted o (yielded ops a.tmps) = true) (h : ∀ w, (execOp a.eval o).run P w = .ok (.value v) w) (k : wpFp P ops Q W0 fs tp rest (a.put o.dst v) E) :
    wpFp P ops Q W0 fs tp ((i, 2) :: rest) a E := ⟨o, v, by simpa using hi, .inl ⟨hw, fun w _ => h w⟩, k⟩
theorem wpFp_eff (hi : ops.toList[i]? = some o) (hw : Region.wanted o (yielded ops a.tmps) = true)
    (h : ∀ w, Ext W0 w → E w → ∀ K : Act → World → Prop, (∀ a' w' (E' : World → Prop), Ext w w' → (∀ w1 w2, Ext w1 w2 → E' w1 → E' w2) → E' w' → wpFp P ops Q W0 fs tp rest a' E' → K a' w') → o.wp P a w K Q) :
    wpFp P ops Q W0 fs tp ((i, 1) :: rest) a E := by
  have hi' : ops[i]? = some o := by simpa using hi
  intro w hX hE
  unfold wpOp
  simp only [hi', hw, if_true]
  exact .inl (h w hX hE _ fun a' w' E' h1 h2 h3 h4 => ⟨h1, E', h2, h3, h4⟩)
/-- One new variable: the world behind the others. -/
theorem wpFp_one {i t : Nat} {ob : Obj} (h : ∀ os1 d1 os2 d2, E (more ((more W0 os1 d1).alloc ob) os2 d2) → wpTl P ops Q tp (a.put (some t) (.pointer (some ⟨W0.heap.size + os1.size, 0, none⟩))) (more ((more W0 os1 d1).alloc ob) os2 d2)) :
    wpFp P ops Q W0 [(i, t, ob)] tp [] a E := by
  intro β w hX hE hb _
  obtain ⟨b, hb1, hb2, hb3⟩ := hb _ (List.mem_singleton.2 rfl)
  obtain ⟨os, d, rfl⟩ := hX.more
  obtain ⟨k, rfl⟩ : ∃ k, b = W0.heap.size + k := ⟨b - W0.heap.size, by omega⟩
  have hk : os[k]? = some ob := by
    have : (W0.heap ++ os)[W0.heap.size + k]? = some ob := hb2
    rw [Array.getElem?_append_right (by omega)] at this
    simpa using this
  have hklt : k < os.size := (Array.getElem?_eq_some_iff.1 hk).1
  have hos : os = (os.extract 0 k).push ob ++ os.extract (k + 1) os.size := by
    apply Array.ext_getElem?
    intro j
    have hs : (os.extract 0 k).size = k := by simp; omega
    rcases Nat.lt_trichotomy j k with hj | rfl | hj
    · rw [Array.getElem?_append_left (by simp; omega), Array.getElem?_push, if_neg (by omega), Array.getElem?_extract]
      simp
      omega
    · rw [Array.getElem?_append_left (by simp; omega), Array.getElem?_push, if_pos (by omega)]; exact hk
    · rw [Array.getElem?_append_right (by simp; omega), Array.getElem?_extract]
      by_cases h2 : j < os.size
      · rw [if_pos (by simp; omega)]
        congr 1
        simp
        omega
      · rw [if_neg (by simp; omega), Array.getElem?_eq_none (by omega)]
  have hw : more W0 os d = more ((more W0 (os.extract 0 k) d).alloc ob) (os.extract (k + 1) os.size) d := by
    simp only [more, World.alloc]
    congr 1
    conv => lhs; rw [hos]
    simp
  have hsz : (os.extract 0 k).size = k := by simp; omega
  have := h (os.extract 0 k) d (os.extract (k + 1) os.size) d (by rw [← hw]; exact hE)
  rw [← hw, hsz] at this
  have hp : putF [(i, t, ob)] β a = a.put (some t) (ptrB (W0.heap.size + k)) := by
    unfold putF
    rw [hb1]
    rfl
  rw [hp]
  exact this
/-- No new variable. -/
theorem wpFp_zero (h : ∀ os d, E (more W0 os d) → wpTl P ops Q tp a (more W0 os d)) : wpFp P ops Q W0 [] tp [] a E := by
  intro β w hX hE hb _
  obtain ⟨os, d, rfl⟩ := hX.more
  exact h os d hE
end
end Go.Proofs.YtljgagjipamdeaaDoor
namespace Go.Proofs.YtljgagjipamdeaaDoor
open Go.RowKit NM
theorem z64 : I64 0 := by unfold I64; omega
set_option maxHeartbeats 800000 in
theorem beside_any (k m ex f k' m' ex' f' : Int) (t t' : ByteArray) (b b' : Bool) (w : World) (y : Val) (hy : besideV ⟨k, m, ex, t, b, f⟩ ⟨k', m', ex', t', b', f'⟩ = y) :
    Calls Tryd.prog 76 #[VV k m ex t b f, VV k' m' ex' t' b' f'] w fun e w' => e = .returned (VV y.kind y.mant y.exp y.text y.truth y.fault) ∧ Ext w w' := by
  by_cases h0 : k = 0
  · have q0 : (k != 0) = false := by simp [h0]
    by_cases h1 : k' = 1 ∨ k' = 2 ∨ k' = 3
    · have e : y = Val.only k' := by rw [← hy]; simp [besideV, h0, h1]
      subst e
      clear hy
      rcases h1 with rfl | rfl | rfl
      · go_enter Tryd.func76, Tryd.ntmps76
        go_wp2_with fail
        exact bodyPost_ret (v := VV 1 0 0 ⟨#[]⟩ false 0) (by simp [results, Tryd.results76, go_sem]) rfl ⟨rfl, by with_reducible repeat (first | exact Ext.refl _ | apply Ext.drew | apply Ext.alloc | apply Ext.more_)⟩
      · go_enter Tryd.func76, Tryd.ntmps76
        go_wp2_with fail
        exact bodyPost_ret (v := VV 2 0 0 ⟨#[]⟩ false 0) (by simp [results, Tryd.results76, go_sem]) rfl ⟨rfl, by with_reducible repeat (first | exact Ext.refl _ | apply Ext.drew | apply Ext.alloc | apply Ext.more_)⟩
      · go_enter Tryd.func76, Tryd.ntmps76
        go_wp2_with fail
        exact bodyPost_ret (v := VV 3 0 0 ⟨#[]⟩ false 0) (by simp [results, Tryd.results76, go_sem]) rfl ⟨rfl, by with_reducible repeat (first | exact Ext.refl _ | apply Ext.drew | apply Ext.alloc | apply Ext.more_)⟩
    · have e : y = ⟨k, m, ex, t, b, f⟩ := by rw [← hy]; simp [besideV, h0, h1]
      subst e
      have q1 : (k' == 1) = false := by simp; omega
      have q2 : (k' == 2) = false := by simp; omega
      have q3 : (k' == 3) = false := by simp; omega
      subst h0
      clear hy h1
      go_enter Tryd.func76, Tryd.ntmps76
      go_wp2_with fail
      exact bodyPost_ret (v := VV 0 m ex t b f) (by simp [results, Tryd.results76, go_sem]) rfl ⟨rfl, by with_reducible repeat (first | exact Ext.refl _ | apply Ext.drew | apply Ext.alloc | apply Ext.more_)⟩
  · have e : y = ⟨k, m, ex, t, b, f⟩ := by rw [← hy]; simp [besideV, h0]
    subst e
    have q0 : (k != 0) = true := by simp [h0]
    clear hy
    go_enter Tryd.func76, Tryd.ntmps76
    go_wp2_with fail
    exact bodyPost_ret (v := VV k m ex t b f) (by simp [results, Tryd.results76, go_sem]) rfl ⟨rfl, by with_reducible repeat (first | exact Ext.refl _ | apply Ext.drew | apply Ext.alloc | apply Ext.more_)⟩
theorem truthOrder_any (a b : Bool) (w : World) :
    Calls Tryd.prog 79 #[.bool a, .bool b] w fun e w' => e = .returned (.int .i64 (sgB a b)) ∧ Ext w w' := by
  cases a <;> cases b
  all_goals
    go_enter Tryd.func79, Tryd.ntmps79
    go_wp2_with fail
    go_ret
    exact ⟨rfl, Ext.refl _⟩
theorem compare_any (a b : ByteArray) (w : World) :
    Calls Tryd.prog 78 #[.string a, .string b] w fun e w' => e = .returned (.int .i64 (Lib.compareBytes (tl a) (tl b))) ∧ Ext w w' :=
  (Tryd.strings_Compare a b w).mono fun e w' ⟨h1, h2⟩ => ⟨h1, by rw [h2]; exact Ext.refl _⟩
set_option maxHeartbeats 1000000 in
theorem vcmp_any (a b : Val) (w : World) (ha : a.ok) (hb : b.ok) :
    Calls Tryd.prog 62 #[VV a.kind a.mant a.exp a.text a.truth a.fault, VV b.kind b.mant b.exp b.text b.truth b.fault] w fun e w' => e = .returned (.int .i64 (cmpV a b)) ∧ Ext w w' := by
  have hA : (besideV a b).ok := by
    unfold besideV
    split
    · exact ha
    · split
      · exact ⟨hb.1, z64, z64, Nat.zero_le _, z64⟩
      · exact ha
  have hB : (besideV b a).ok := by
    unfold besideV
    split
    · exact hb
    · split
      · exact ⟨ha.1, z64, z64, Nat.zero_le _, z64⟩
      · exact hb
  have h1 := fun W => beside_any a.kind a.mant a.exp a.fault b.kind b.mant b.exp b.fault a.text b.text a.truth b.truth W (besideV a b) rfl
  have h2 := fun W => beside_any b.kind b.mant b.exp b.fault a.kind a.mant a.exp a.fault b.text a.text b.truth a.truth W (besideV b a) rfl
  unfold cmpV
  generalize besideV a b = A at *
  generalize besideV b a = B at *
  obtain ⟨k, m, ex, t, u, f⟩ := A
  obtain ⟨k', m', ex', t', u', f'⟩ := B
  obtain ⟨_, hm, _, ht, _⟩ := hA
  obtain ⟨_, hm', _, ht', _⟩ := hB
  simp only at h1 h2 hm ht hm' ht'
  unfold cmpK
  simp only
  clear ha hb
  by_cases hk : k = k'
  · subst hk
    rw [if_neg (show ¬ (k ≠ k) from fun h => h rfl)]
    have q0 : (k != k) = false := by simp
    by_cases k1 : k = 1
    · rw [if_pos k1]
      subst k1
      go_enter Tryd.func62, Tryd.ntmps62
      go_upto_region 1 with fail
      refine wp_float [] [(0, 0), (1, 0), (3, 0), (4, 0), (2, 1), (5, 1)] [6, 7] [6, 7] [] (by kernel_rfl) (by kernel_rfl) (by kernel_rfl) (fun _ _ d _ _ h => by cases d <;> exact h) (fun _ _ d _ _ h => by cases d <;> exact h) (fun x hx => by cases hx) ?_
      iterate 4 ((refine wpFp_read (v := ?_) rfl ?_ (fun w1 h1 => ?_) ?_; rotate_left 1; rfl; (obtain ⟨os1, d1, rfl⟩ := h1.more; go_simp; first | done | rfl)); try simp only [Act.put, zqA, zqB, zqC])
      (refine wpFp_eff rfl ?_ (fun wf hXf hE K hK => ?_); rfl; obtain ⟨osf, df, rfl⟩ := hXf.more; go_simp; refine (h1 _).mono ?_; rintro e w' ⟨rfl, hb⟩; refine hK _ _ (fun _ => True) (by (try simp only [more_drew, more_more]); exact hb) (fun _ _ _ _ => trivial) trivial ?_)
      try simp only [Act.put, zqA, zqB, zqC]
      (refine wpFp_eff rfl ?_ (fun wf hXf hE K hK => ?_); rfl; obtain ⟨osf, df, rfl⟩ := hXf.more; go_simp; refine (h2 _).mono ?_; rintro e w' ⟨rfl, hb⟩; refine hK _ _ (fun _ => True) (by (try simp only [more_drew, more_more]); exact hb) (fun _ _ _ _ => trivial) trivial ?_)
      try simp only [Act.put, zqA, zqB, zqC]
      refine wpFp_zero fun osa da hE => ?_
      try simp only [Act.put, zqA, zqB, zqC]
      iterate 2 ((refine wpTl_op rfl ?_ (fun K hK => ?_); rfl; go_simp; refine hK _ _ ?_); try simp only [Act.put, zqA, zqB, zqC])
      refine wpTl_nil ?_
      go_wp2_with (go_at_call 77; refine (cmp_any _ _ _ _ _ (by assumption) (by assumption)).mono ?_; rintro e w' ⟨rfl, hb⟩; obtain ⟨os5, d5, rfl⟩ := hb.more; clear hb)
      go_ret
      exact ⟨rfl, by with_reducible repeat (first | exact Ext.refl _ | apply Ext.drew | apply Ext.alloc | apply Ext.more_)⟩
    · rw [if_neg k1]
      by_cases k2 : k = 2
      · rw [if_pos k2]
        subst k2
        go_enter Tryd.func62, Tryd.ntmps62
        go_upto_region 1 with fail
        refine wp_float [] [(0, 0), (1, 0), (3, 0), (4, 0), (2, 1), (5, 1)] [6, 7] [6, 7] [] (by kernel_rfl) (by kernel_rfl) (by kernel_rfl) (fun _ _ d _ _ h => by cases d <;> exact h) (fun _ _ d _ _ h => by cases d <;> exact h) (fun x hx => by cases hx) ?_
        iterate 4 ((refine wpFp_read (v := ?_) rfl ?_ (fun w1 h1 => ?_) ?_; rotate_left 1; rfl; (obtain ⟨os1, d1, rfl⟩ := h1.more; go_simp; first | done | rfl)); try simp only [Act.put, zqA, zqB, zqC])
        (refine wpFp_eff rfl ?_ (fun wf hXf hE K hK => ?_); rfl; obtain ⟨osf, df, rfl⟩ := hXf.more; go_simp; refine (h1 _).mono ?_; rintro e w' ⟨rfl, hb⟩; refine hK _ _ (fun _ => True) (by (try simp only [more_drew, more_more]); exact hb) (fun _ _ _ _ => trivial) trivial ?_)
        try simp only [Act.put, zqA, zqB, zqC]
        (refine wpFp_eff rfl ?_ (fun wf hXf hE K hK => ?_); rfl; obtain ⟨osf, df, rfl⟩ := hXf.more; go_simp; refine (h2 _).mono ?_; rintro e w' ⟨rfl, hb⟩; refine hK _ _ (fun _ => True) (by (try simp only [more_drew, more_more]); exact hb) (fun _ _ _ _ => trivial) trivial ?_)
        try simp only [Act.put, zqA, zqB, zqC]
        refine wpFp_zero fun osa da hE => ?_
        try simp only [Act.put, zqA, zqB, zqC]
        iterate 2 ((refine wpTl_op rfl ?_ (fun K hK => ?_); rfl; go_simp; refine hK _ _ ?_); try simp only [Act.put, zqA, zqB, zqC])
        refine wpTl_nil ?_
        go_upto_region 10 with fail
        refine wp_plan (S := Ext _) [(0, 0), (1, 0), (3, 0), (4, 0), (2, 1), (5, 1), (6, 1), (7, 0)] [] (by kernel_rfl) (by kernel_rfl) (by kernel_rfl) (fun _ _ d _ _ h => by cases d <;> exact h) (Ext.drew (Ext.refl _)) ?_
        iterate 4 ((refine wpPl_read (v := ?_) rfl ?_ (fun _ h => ?_) ?_; rotate_left 1; rfl; (obtain ⟨_, _, rfl⟩ := h.more; go_simp; try rfl)); try simp only [Act.put, zqA, zqB, zqC])
        (refine wpPl_eff rfl ?_ (fun K hK => ?_); rfl; go_simp; refine (fold_any _ _ (by assumption)).mono ?_; rintro e w' ⟨rfl, hb⟩; obtain ⟨os5, d5, rfl⟩ := hb.more; clear hb; refine hK _ _ ?_ ?_; (repeat (first | (with_reducible (first | exact Ext.refl _ | exact ext_d _ _ _ _ | exact ext_app _ _ _ _ _ | exact ext_app2 _ _ _ _ _ _ | exact ext_app3 _ _ _ _ _ _ _ | exact ext_app4 _ _ _ _ _ _ _ _ | exact ext_app5 _ _ _ _ _ _ _ _ _)) | ((with_reducible refine ext_suffix ⟨_, ?_⟩); (try simp only [Array.append_assoc]); rfl) | (with_reducible (first | apply Ext.drew | apply Ext.alloc | apply Ext.more_)) | apply Ext.drew | apply Ext.alloc | apply Ext.more_)))
        try simp only [Act.put, zqA, zqB, zqC]
        (refine wpPl_eff rfl ?_ (fun K hK => ?_); rfl; go_simp; refine (fold_any _ _ (by assumption)).mono ?_; rintro e w' ⟨rfl, hb⟩; obtain ⟨os6, d6, rfl⟩ := hb.more; clear hb; refine hK _ _ ?_ ?_; (repeat (first | (with_reducible (first | exact Ext.refl _ | exact ext_d _ _ _ _ | exact ext_app _ _ _ _ _ | exact ext_app2 _ _ _ _ _ _ | exact ext_app3 _ _ _ _ _ _ _ | exact ext_app4 _ _ _ _ _ _ _ _ | exact ext_app5 _ _ _ _ _ _ _ _ _)) | ((with_reducible refine ext_suffix ⟨_, ?_⟩); (try simp only [Array.append_assoc]); rfl) | (with_reducible (first | apply Ext.drew | apply Ext.alloc | apply Ext.more_)) | apply Ext.drew | apply Ext.alloc | apply Ext.more_)))
        try simp only [Act.put, zqA, zqB, zqC]
        (refine wpPl_eff rfl ?_ (fun K hK => ?_); rfl; go_simp; refine (compare_any _ _ _).mono ?_; rintro e w' ⟨rfl, hb⟩; obtain ⟨os7, d7, rfl⟩ := hb.more; clear hb; refine hK _ _ ?_ ?_; (repeat (first | (with_reducible (first | exact Ext.refl _ | exact ext_d _ _ _ _ | exact ext_app _ _ _ _ _ | exact ext_app2 _ _ _ _ _ _ | exact ext_app3 _ _ _ _ _ _ _ | exact ext_app4 _ _ _ _ _ _ _ _ | exact ext_app5 _ _ _ _ _ _ _ _ _)) | ((with_reducible refine ext_suffix ⟨_, ?_⟩); (try simp only [Array.append_assoc]); rfl) | (with_reducible (first | apply Ext.drew | apply Ext.alloc | apply Ext.more_)) | apply Ext.drew | apply Ext.alloc | apply Ext.more_)))
        try simp only [Act.put, zqA, zqB, zqC]
        (refine wpPl_read (v := ?_) rfl ?_ (fun _ h => ?_) ?_; rotate_left 1; rfl; (obtain ⟨_, _, rfl⟩ := h.more; go_simp; try rfl))
        try simp only [Act.put, zqA, zqB, zqC]
        refine wpPl_nil ?_
        go_wp2_with fail
        go_ret
        exact ⟨rfl, by with_reducible repeat (first | exact Ext.refl _ | apply Ext.drew | apply Ext.alloc | apply Ext.more_)⟩
      · rw [if_neg k2]
        by_cases k3 : k = 3
        · rw [if_pos k3]
          subst k3
          go_enter Tryd.func62, Tryd.ntmps62
          go_upto_region 1 with fail
          refine wp_float [] [(0, 0), (1, 0), (3, 0), (4, 0), (2, 1), (5, 1)] [6, 7] [6, 7] [] (by kernel_rfl) (by kernel_rfl) (by kernel_rfl) (fun _ _ d _ _ h => by cases d <;> exact h) (fun _ _ d _ _ h => by cases d <;> exact h) (fun x hx => by cases hx) ?_
          iterate 4 ((refine wpFp_read (v := ?_) rfl ?_ (fun w1 h1 => ?_) ?_; rotate_left 1; rfl; (obtain ⟨os1, d1, rfl⟩ := h1.more; go_simp; first | done | rfl)); try simp only [Act.put, zqA, zqB, zqC])
          (refine wpFp_eff rfl ?_ (fun wf hXf hE K hK => ?_); rfl; obtain ⟨osf, df, rfl⟩ := hXf.more; go_simp; refine (h1 _).mono ?_; rintro e w' ⟨rfl, hb⟩; refine hK _ _ (fun _ => True) (by (try simp only [more_drew, more_more]); exact hb) (fun _ _ _ _ => trivial) trivial ?_)
          try simp only [Act.put, zqA, zqB, zqC]
          (refine wpFp_eff rfl ?_ (fun wf hXf hE K hK => ?_); rfl; obtain ⟨osf, df, rfl⟩ := hXf.more; go_simp; refine (h2 _).mono ?_; rintro e w' ⟨rfl, hb⟩; refine hK _ _ (fun _ => True) (by (try simp only [more_drew, more_more]); exact hb) (fun _ _ _ _ => trivial) trivial ?_)
          try simp only [Act.put, zqA, zqB, zqC]
          refine wpFp_zero fun osa da hE => ?_
          try simp only [Act.put, zqA, zqB, zqC]
          iterate 2 ((refine wpTl_op rfl ?_ (fun K hK => ?_); rfl; go_simp; refine hK _ _ ?_); try simp only [Act.put, zqA, zqB, zqC])
          refine wpTl_nil ?_
          go_wp2_with (go_at_call 79; refine (truthOrder_any _ _ _).mono ?_; rintro e w' ⟨rfl, hb⟩; obtain ⟨os5, d5, rfl⟩ := hb.more; clear hb)
          go_ret
          exact ⟨rfl, by with_reducible repeat (first | exact Ext.refl _ | apply Ext.drew | apply Ext.alloc | apply Ext.more_)⟩
        · rw [if_neg k3]
          by_cases k4 : k = 4
          · rw [if_pos k4]
            subst k4
            unfold sgI
            by_cases hl : f < f'
            · rw [if_pos hl]
              go_enter Tryd.func62, Tryd.ntmps62
              go_upto_region 1 with fail
              refine wp_float [] [(0, 0), (1, 0), (3, 0), (4, 0), (2, 1), (5, 1)] [6, 7] [6, 7] [] (by kernel_rfl) (by kernel_rfl) (by kernel_rfl) (fun _ _ d _ _ h => by cases d <;> exact h) (fun _ _ d _ _ h => by cases d <;> exact h) (fun x hx => by cases hx) ?_
              iterate 4 ((refine wpFp_read (v := ?_) rfl ?_ (fun w1 h1 => ?_) ?_; rotate_left 1; rfl; (obtain ⟨os1, d1, rfl⟩ := h1.more; go_simp; first | done | rfl)); try simp only [Act.put, zqA, zqB, zqC])
              (refine wpFp_eff rfl ?_ (fun wf hXf hE K hK => ?_); rfl; obtain ⟨osf, df, rfl⟩ := hXf.more; go_simp; refine (h1 _).mono ?_; rintro e w' ⟨rfl, hb⟩; refine hK _ _ (fun _ => True) (by (try simp only [more_drew, more_more]); exact hb) (fun _ _ _ _ => trivial) trivial ?_)
              try simp only [Act.put, zqA, zqB, zqC]
              (refine wpFp_eff rfl ?_ (fun wf hXf hE K hK => ?_); rfl; obtain ⟨osf, df, rfl⟩ := hXf.more; go_simp; refine (h2 _).mono ?_; rintro e w' ⟨rfl, hb⟩; refine hK _ _ (fun _ => True) (by (try simp only [more_drew, more_more]); exact hb) (fun _ _ _ _ => trivial) trivial ?_)
              try simp only [Act.put, zqA, zqB, zqC]
              refine wpFp_zero fun osa da hE => ?_
              try simp only [Act.put, zqA, zqB, zqC]
              iterate 2 ((refine wpTl_op rfl ?_ (fun K hK => ?_); rfl; go_simp; refine hK _ _ ?_); try simp only [Act.put, zqA, zqB, zqC])
              refine wpTl_nil ?_
              go_wp2_with fail
              go_ret
              exact ⟨rfl, by with_reducible repeat (first | exact Ext.refl _ | apply Ext.drew | apply Ext.alloc | apply Ext.more_)⟩
            · rw [if_neg hl]
              by_cases hg : f' < f
              · rw [if_pos hg]
                go_enter Tryd.func62, Tryd.ntmps62
                go_upto_region 1 with fail
                refine wp_float [] [(0, 0), (1, 0), (3, 0), (4, 0), (2, 1), (5, 1)] [6, 7] [6, 7] [] (by kernel_rfl) (by kernel_rfl) (by kernel_rfl) (fun _ _ d _ _ h => by cases d <;> exact h) (fun _ _ d _ _ h => by cases d <;> exact h) (fun x hx => by cases hx) ?_
                iterate 4 ((refine wpFp_read (v := ?_) rfl ?_ (fun w1 h1 => ?_) ?_; rotate_left 1; rfl; (obtain ⟨os1, d1, rfl⟩ := h1.more; go_simp; first | done | rfl)); try simp only [Act.put, zqA, zqB, zqC])
                (refine wpFp_eff rfl ?_ (fun wf hXf hE K hK => ?_); rfl; obtain ⟨osf, df, rfl⟩ := hXf.more; go_simp; refine (h1 _).mono ?_; rintro e w' ⟨rfl, hb⟩; refine hK _ _ (fun _ => True) (by (try simp only [more_drew, more_more]); exact hb) (fun _ _ _ _ => trivial) trivial ?_)
                try simp only [Act.put, zqA, zqB, zqC]
                (refine wpFp_eff rfl ?_ (fun wf hXf hE K hK => ?_); rfl; obtain ⟨osf, df, rfl⟩ := hXf.more; go_simp; refine (h2 _).mono ?_; rintro e w' ⟨rfl, hb⟩; refine hK _ _ (fun _ => True) (by (try simp only [more_drew, more_more]); exact hb) (fun _ _ _ _ => trivial) trivial ?_)
                try simp only [Act.put, zqA, zqB, zqC]
                refine wpFp_zero fun osa da hE => ?_
                try simp only [Act.put, zqA, zqB, zqC]
                iterate 2 ((refine wpTl_op rfl ?_ (fun K hK => ?_); rfl; go_simp; refine hK _ _ ?_); try simp only [Act.put, zqA, zqB, zqC])
                refine wpTl_nil ?_
                go_wp2_with fail
                go_ret
                exact ⟨rfl, by with_reducible repeat (first | exact Ext.refl _ | apply Ext.drew | apply Ext.alloc | apply Ext.more_)⟩
              · rw [if_neg hg]
                go_enter Tryd.func62, Tryd.ntmps62
                go_upto_region 1 with fail
                refine wp_float [] [(0, 0), (1, 0), (3, 0), (4, 0), (2, 1), (5, 1)] [6, 7] [6, 7] [] (by kernel_rfl) (by kernel_rfl) (by kernel_rfl) (fun _ _ d _ _ h => by cases d <;> exact h) (fun _ _ d _ _ h => by cases d <;> exact h) (fun x hx => by cases hx) ?_
                iterate 4 ((refine wpFp_read (v := ?_) rfl ?_ (fun w1 h1 => ?_) ?_; rotate_left 1; rfl; (obtain ⟨os1, d1, rfl⟩ := h1.more; go_simp; first | done | rfl)); try simp only [Act.put, zqA, zqB, zqC])
                (refine wpFp_eff rfl ?_ (fun wf hXf hE K hK => ?_); rfl; obtain ⟨osf, df, rfl⟩ := hXf.more; go_simp; refine (h1 _).mono ?_; rintro e w' ⟨rfl, hb⟩; refine hK _ _ (fun _ => True) (by (try simp only [more_drew, more_more]); exact hb) (fun _ _ _ _ => trivial) trivial ?_)
                try simp only [Act.put, zqA, zqB, zqC]
                (refine wpFp_eff rfl ?_ (fun wf hXf hE K hK => ?_); rfl; obtain ⟨osf, df, rfl⟩ := hXf.more; go_simp; refine (h2 _).mono ?_; rintro e w' ⟨rfl, hb⟩; refine hK _ _ (fun _ => True) (by (try simp only [more_drew, more_more]); exact hb) (fun _ _ _ _ => trivial) trivial ?_)
                try simp only [Act.put, zqA, zqB, zqC]
                refine wpFp_zero fun osa da hE => ?_
                try simp only [Act.put, zqA, zqB, zqC]
                iterate 2 ((refine wpTl_op rfl ?_ (fun K hK => ?_); rfl; go_simp; refine hK _ _ ?_); try simp only [Act.put, zqA, zqB, zqC])
                refine wpTl_nil ?_
                go_wp2_with fail
                go_ret
                exact ⟨rfl, by with_reducible repeat (first | exact Ext.refl _ | apply Ext.drew | apply Ext.alloc | apply Ext.more_)⟩
          · rw [if_neg k4]
            have q1 : (k == 1) = false := by simp [k1]
            have q2 : (k == 2) = false := by simp [k2]
            have q3 : (k == 3) = false := by simp [k3]
            have q4 : (k == 4) = false := by simp [k4]
            clear k1 k2 k3 k4
            go_enter Tryd.func62, Tryd.ntmps62
            go_upto_region 1 with fail
            refine wp_float [] [(0, 0), (1, 0), (3, 0), (4, 0), (2, 1), (5, 1)] [6, 7] [6, 7] [] (by kernel_rfl) (by kernel_rfl) (by kernel_rfl) (fun _ _ d _ _ h => by cases d <;> exact h) (fun _ _ d _ _ h => by cases d <;> exact h) (fun x hx => by cases hx) ?_
            iterate 4 ((refine wpFp_read (v := ?_) rfl ?_ (fun w1 h1 => ?_) ?_; rotate_left 1; rfl; (obtain ⟨os1, d1, rfl⟩ := h1.more; go_simp; first | done | rfl)); try simp only [Act.put, zqA, zqB, zqC])
            (refine wpFp_eff rfl ?_ (fun wf hXf hE K hK => ?_); rfl; obtain ⟨osf, df, rfl⟩ := hXf.more; go_simp; refine (h1 _).mono ?_; rintro e w' ⟨rfl, hb⟩; refine hK _ _ (fun _ => True) (by (try simp only [more_drew, more_more]); exact hb) (fun _ _ _ _ => trivial) trivial ?_)
            try simp only [Act.put, zqA, zqB, zqC]
            (refine wpFp_eff rfl ?_ (fun wf hXf hE K hK => ?_); rfl; obtain ⟨osf, df, rfl⟩ := hXf.more; go_simp; refine (h2 _).mono ?_; rintro e w' ⟨rfl, hb⟩; refine hK _ _ (fun _ => True) (by (try simp only [more_drew, more_more]); exact hb) (fun _ _ _ _ => trivial) trivial ?_)
            try simp only [Act.put, zqA, zqB, zqC]
            refine wpFp_zero fun osa da hE => ?_
            try simp only [Act.put, zqA, zqB, zqC]
            iterate 2 ((refine wpTl_op rfl ?_ (fun K hK => ?_); rfl; go_simp; refine hK _ _ ?_); try simp only [Act.put, zqA, zqB, zqC])
            refine wpTl_nil ?_
            go_wp2_with fail
            go_ret
            exact ⟨rfl, by with_reducible repeat (first | exact Ext.refl _ | apply Ext.drew | apply Ext.alloc | apply Ext.more_)⟩
  · rw [if_pos (show k ≠ k' from hk)]
    have q0 : (k != k') = true := by simpa using hk
    by_cases hl : k < k'
    · rw [if_pos hl]
      go_enter Tryd.func62, Tryd.ntmps62
      go_upto_region 1 with fail
      refine wp_float [] [(0, 0), (1, 0), (3, 0), (4, 0), (2, 1), (5, 1)] [6, 7] [6, 7] [] (by kernel_rfl) (by kernel_rfl) (by kernel_rfl) (fun _ _ d _ _ h => by cases d <;> exact h) (fun _ _ d _ _ h => by cases d <;> exact h) (fun x hx => by cases hx) ?_
      iterate 4 ((refine wpFp_read (v := ?_) rfl ?_ (fun w1 h1 => ?_) ?_; rotate_left 1; rfl; (obtain ⟨os1, d1, rfl⟩ := h1.more; go_simp; first | done | rfl)); try simp only [Act.put, zqA, zqB, zqC])
      (refine wpFp_eff rfl ?_ (fun wf hXf hE K hK => ?_); rfl; obtain ⟨osf, df, rfl⟩ := hXf.more; go_simp; refine (h1 _).mono ?_; rintro e w' ⟨rfl, hb⟩; refine hK _ _ (fun _ => True) (by (try simp only [more_drew, more_more]); exact hb) (fun _ _ _ _ => trivial) trivial ?_)
      try simp only [Act.put, zqA, zqB, zqC]
      (refine wpFp_eff rfl ?_ (fun wf hXf hE K hK => ?_); rfl; obtain ⟨osf, df, rfl⟩ := hXf.more; go_simp; refine (h2 _).mono ?_; rintro e w' ⟨rfl, hb⟩; refine hK _ _ (fun _ => True) (by (try simp only [more_drew, more_more]); exact hb) (fun _ _ _ _ => trivial) trivial ?_)
      try simp only [Act.put, zqA, zqB, zqC]
      refine wpFp_zero fun osa da hE => ?_
      try simp only [Act.put, zqA, zqB, zqC]
      iterate 2 ((refine wpTl_op rfl ?_ (fun K hK => ?_); rfl; go_simp; refine hK _ _ ?_); try simp only [Act.put, zqA, zqB, zqC])
      refine wpTl_nil ?_
      go_wp2_with fail
      go_ret
      exact ⟨rfl, by with_reducible repeat (first | exact Ext.refl _ | apply Ext.drew | apply Ext.alloc | apply Ext.more_)⟩
    · rw [if_neg hl]
      go_enter Tryd.func62, Tryd.ntmps62
      go_upto_region 1 with fail
      refine wp_float [] [(0, 0), (1, 0), (3, 0), (4, 0), (2, 1), (5, 1)] [6, 7] [6, 7] [] (by kernel_rfl) (by kernel_rfl) (by kernel_rfl) (fun _ _ d _ _ h => by cases d <;> exact h) (fun _ _ d _ _ h => by cases d <;> exact h) (fun x hx => by cases hx) ?_
      iterate 4 ((refine wpFp_read (v := ?_) rfl ?_ (fun w1 h1 => ?_) ?_; rotate_left 1; rfl; (obtain ⟨os1, d1, rfl⟩ := h1.more; go_simp; first | done | rfl)); try simp only [Act.put, zqA, zqB, zqC])
      (refine wpFp_eff rfl ?_ (fun wf hXf hE K hK => ?_); rfl; obtain ⟨osf, df, rfl⟩ := hXf.more; go_simp; refine (h1 _).mono ?_; rintro e w' ⟨rfl, hb⟩; refine hK _ _ (fun _ => True) (by (try simp only [more_drew, more_more]); exact hb) (fun _ _ _ _ => trivial) trivial ?_)
      try simp only [Act.put, zqA, zqB, zqC]
      (refine wpFp_eff rfl ?_ (fun wf hXf hE K hK => ?_); rfl; obtain ⟨osf, df, rfl⟩ := hXf.more; go_simp; refine (h2 _).mono ?_; rintro e w' ⟨rfl, hb⟩; refine hK _ _ (fun _ => True) (by (try simp only [more_drew, more_more]); exact hb) (fun _ _ _ _ => trivial) trivial ?_)
      try simp only [Act.put, zqA, zqB, zqC]
      refine wpFp_zero fun osa da hE => ?_
      try simp only [Act.put, zqA, zqB, zqC]
      iterate 2 ((refine wpTl_op rfl ?_ (fun K hK => ?_); rfl; go_simp; refine hK _ _ ?_); try simp only [Act.put, zqA, zqB, zqC])
      refine wpTl_nil ?_
      go_wp2_with fail
      go_ret
      exact ⟨rfl, by with_reducible repeat (first | exact Ext.refl _ | apply Ext.drew | apply Ext.alloc | apply Ext.more_)⟩
end Go.Proofs.YtljgagjipamdeaaDoor
namespace Go.Proofs.YtljgagjipamdeaaDoor
open Go.RowKit NM
/-- The first place, and the last one, from place k on; -1: there is none. -/
def firstN (p : Val → Bool) : List Val → Nat → Int
  | [], _ => -1
  | x :: l, k => if p x then k else firstN p l (k + 1)
def lastN (p : Val → Bool) : List Val → Nat → Int → Int
  | [], _, a => a
  | x :: l, k, a => lastN p l (k + 1) (if p x then k else a)
/-- What counts, and stands so. -/
def stP (q : Int → Bool) (x v : Val) : Bool := decide (v.kind = x.kind) && q (cmpV v x)
theorem firstN_yes {p : Val → Bool} {l : List Val} {k : Nat} {v : Val} (h : l[k]? = some v) (hp : p v = true) : firstN p (l.drop k) k = k := by
  obtain ⟨hk, rfl⟩ := List.getElem?_eq_some_iff.1 h
  rw [List.drop_eq_getElem_cons hk]; simp [firstN, hp]
theorem firstN_no {p : Val → Bool} {l : List Val} {k : Nat} {v : Val} (h : l[k]? = some v) (hp : p v = false) : firstN p (l.drop k) k = firstN p (l.drop (k + 1)) (k + 1) := by
  obtain ⟨hk, rfl⟩ := List.getElem?_eq_some_iff.1 h
  rw [List.drop_eq_getElem_cons hk]; simp [firstN, hp]
theorem lastN_yes {p : Val → Bool} {l : List Val} {k : Nat} {v : Val} {a : Int} (h : l[k]? = some v) (hp : p v = true) : lastN p (l.drop k) k a = lastN p (l.drop (k + 1)) (k + 1) k := by
  obtain ⟨hk, rfl⟩ := List.getElem?_eq_some_iff.1 h
  rw [List.drop_eq_getElem_cons hk]; simp [lastN, hp]
theorem lastN_no {p : Val → Bool} {l : List Val} {k : Nat} {v : Val} {a : Int} (h : l[k]? = some v) (hp : p v = false) : lastN p (l.drop k) k a = lastN p (l.drop (k + 1)) (k + 1) a := by
  obtain ⟨hk, rfl⟩ := List.getElem?_eq_some_iff.1 h
  rw [List.drop_eq_getElem_cons hk]; simp [lastN, hp]
def Want (fid : FuncId) (q : Int → Bool) : Prop := ∀ (sg : Int) (W : World), Calls Tryd.prog fid #[.int .i64 sg] W fun e W' => e = .returned (.bool (q sg)) ∧ Ext W W'
set_option maxHeartbeats 1000000 in
theorem first_any (fid : FuncId) (q : Int → Bool) (hq : Want fid q) (hent : ∀ (args : Array Value) (W : World), (callFunc fid args).run Tryd.prog W = .ok (.enter fid args) W)
    (A : Option Addr) (n cap : Nat) (l : List Val) (x : Val) (w : World) (h : ArrIn w A n cap l) (hx : x.ok) (r : Int) (hr : firstN (stP q x) l 0 = r) :
    Calls Tryd.prog 56 #[.slice A n cap, VV x.kind x.mant x.exp x.text x.truth x.fault, fn0 fid] w fun e w' => e = .returned (.int .i64 r) ∧ Ext w w' := by
  have hsm := h.small
  have HR := Lib.hid hr
  clear hr
  have hlen := h.len
  go_enter Tryd.func56, Tryd.ntmps56
  go_wp2_with fail
  go_loopw [11] (fun i wr => ∃ k : Nat, k ≤ n ∧ i = .int .i64 k ∧ Ext (w.alloc (Obj.cells #[.int .i64 x.kind, .int .i64 x.mant, .int .i64 x.exp, .string x.text, .bool x.truth, .int .i64 x.fault] 28)) wr ∧ Hid (firstN (stP q x) (l.drop k) k = r)) (fun i _ => n - (intOf i).toNat)
  case atStart => exact ⟨0, Nat.zero_le _, rfl, Ext.refl _, HR⟩
  case round =>
    obtain ⟨k, hk, rfl, hX, H⟩ := hrel
    obtain ⟨os, d, rfl⟩ := hX.more
    clear hX
    by_cases hlt : k < n
    · obtain ⟨v, b, off, hv, hvo, rfl, hat⟩ := h.at hlt
      obtain ⟨v0, v1, v2, v3, v4, v5⟩ := hat
      have hbl : b < w.heap.size := lt_of_cell v0
      by_cases hkd : v.kind = x.kind
      · have hkd' : (v.kind == x.kind) = true := by simpa using hkd
        have hst : stP q x v = q (cmpV v x) := by simp [stP, hkd]
        generalize hs : cmpV v x = sg at *
        have hc := fun W => hs ▸ vcmp_any v x W hvo hx
        cases hqs : q sg
        · have H' := (firstN_no hv (hst.trans hqs)).symm.trans H.out
          have HQ := fun W => hqs ▸ hq sg W
          have H2 := Lib.hid H'
          clear H' H hqs hst hs hkd
          go_wp2_with (first | (go_at_call 62; (with_reducible refine (hc _).mono ?_); rintro e w' ⟨rfl, hb⟩; obtain ⟨os, d, rfl⟩ := hb.more; clear hb) | ((with_reducible refine (HQ _).mono ?_); rintro e w' ⟨rfl, hb⟩; obtain ⟨os2, d2, rfl⟩ := hb.more; clear hb))
          refine ⟨⟨k + 1, by omega, by go_num, by with_reducible repeat (first | exact Ext.refl _ | apply Ext.drew | apply Ext.alloc | apply Ext.more_), H2⟩, by simp [intOf]; omega⟩
        · have H' := (firstN_yes hv (hst.trans hqs)).symm.trans H.out
          have HQ := fun W => hqs ▸ hq sg W
          subst H'
          clear H hqs hst hs hkd
          go_wp2_with (first | (go_at_call 62; (with_reducible refine (hc _).mono ?_); rintro e w' ⟨rfl, hb⟩; obtain ⟨os, d, rfl⟩ := hb.more; clear hb) | ((with_reducible refine (HQ _).mono ?_); rintro e w' ⟨rfl, hb⟩; obtain ⟨os2, d2, rfl⟩ := hb.more; clear hb))
          go_ret
          exact ⟨rfl, by with_reducible repeat (first | exact Ext.refl _ | apply Ext.drew | apply Ext.alloc | apply Ext.more_)⟩
      · have hkd' : (v.kind == x.kind) = false := by simpa using hkd
        have H2 := Lib.hid ((firstN_no hv (by simp [stP, hkd])).symm.trans H.out)
        clear H
        go_wp2_with fail
        refine ⟨⟨k + 1, by omega, by go_num, by with_reducible repeat (first | exact Ext.refl _ | apply Ext.drew | apply Ext.alloc | apply Ext.more_), H2⟩, by simp [intOf]; omega⟩
    · have hd : l.drop k = [] := List.drop_eq_nil_of_le (by omega)
      have hr : (-1 : Int) = r := by have := H.out; rw [hd] at this; exact this
      subst hr
      clear H hd
      go_wp2_with fail
      go_ret
      exact ⟨rfl, by with_reducible repeat (first | exact Ext.refl _ | apply Ext.drew | apply Ext.alloc | apply Ext.more_)⟩
set_option maxHeartbeats 1000000 in
theorem last_any (fid : FuncId) (q : Int → Bool) (hq : Want fid q) (hent : ∀ (args : Array Value) (W : World), (callFunc fid args).run Tryd.prog W = .ok (.enter fid args) W)
    (A : Option Addr) (n cap : Nat) (l : List Val) (x : Val) (w : World) (h : ArrIn w A n cap l) (hx : x.ok) (r : Int) (hr : lastN (stP q x) l 0 (-1) = r) :
    Calls Tryd.prog 58 #[.slice A n cap, VV x.kind x.mant x.exp x.text x.truth x.fault, fn0 fid] w fun e w' => e = .returned (.int .i64 r) ∧ Ext w w' := by
  have hsm := h.small
  have HR := Lib.hid hr
  clear hr
  have hlen := h.len
  go_enter Tryd.func58, Tryd.ntmps58
  go_wp2_with fail
  go_loopw [7, 12] (fun t i wr => ∃ (k : Nat) (a : Int), k ≤ n ∧ t = .int .i64 a ∧ i = .int .i64 k ∧ Ext (w.alloc (Obj.cells #[.int .i64 x.kind, .int .i64 x.mant, .int .i64 x.exp, .string x.text, .bool x.truth, .int .i64 x.fault] 28)) wr ∧ Hid (lastN (stP q x) (l.drop k) k a = r)) (fun _ i _ => n - (intOf i).toNat)
  case atStart => exact ⟨0, -1, Nat.zero_le _, rfl, rfl, Ext.refl _, HR⟩
  case round =>
    obtain ⟨k, a, hk, rfl, rfl, hX, H⟩ := hrel
    obtain ⟨os, d, rfl⟩ := hX.more
    clear hX
    by_cases hlt : k < n
    · obtain ⟨v, b, off, hv, hvo, rfl, hat⟩ := h.at hlt
      obtain ⟨v0, v1, v2, v3, v4, v5⟩ := hat
      have hbl : b < w.heap.size := lt_of_cell v0
      by_cases hkd : v.kind = x.kind
      · have hkd' : (v.kind == x.kind) = true := by simpa using hkd
        have hst : stP q x v = q (cmpV v x) := by simp [stP, hkd]
        generalize hs : cmpV v x = sg at *
        have hc := fun W => hs ▸ vcmp_any v x W hvo hx
        cases hqs : q sg
        · have H' := (lastN_no hv (hst.trans hqs)).symm.trans H.out
          have HQ := fun W => hqs ▸ hq sg W
          have H2 := Lib.hid H'
          clear H' H hqs hst hs hkd
          go_wp2_with (first | (go_at_call 62; (with_reducible refine (hc _).mono ?_); rintro e w' ⟨rfl, hb⟩; obtain ⟨os, d, rfl⟩ := hb.more; clear hb) | ((with_reducible refine (HQ _).mono ?_); rintro e w' ⟨rfl, hb⟩; obtain ⟨os2, d2, rfl⟩ := hb.more; clear hb))
          refine ⟨⟨k + 1, a, by omega, rfl, by go_num, by with_reducible repeat (first | exact Ext.refl _ | apply Ext.drew | apply Ext.alloc | apply Ext.more_), H2⟩, by simp [intOf]; omega⟩
        · have H' := (lastN_yes hv (hst.trans hqs)).symm.trans H.out
          have HQ := fun W => hqs ▸ hq sg W
          have H2 := Lib.hid H'
          clear H' H hqs hst hs hkd
          go_wp2_with (first | (go_at_call 62; (with_reducible refine (hc _).mono ?_); rintro e w' ⟨rfl, hb⟩; obtain ⟨os, d, rfl⟩ := hb.more; clear hb) | ((with_reducible refine (HQ _).mono ?_); rintro e w' ⟨rfl, hb⟩; obtain ⟨os2, d2, rfl⟩ := hb.more; clear hb))
          refine ⟨⟨k + 1, k, by omega, rfl, by go_num, by with_reducible repeat (first | exact Ext.refl _ | apply Ext.drew | apply Ext.alloc | apply Ext.more_), H2⟩, by simp [intOf]; omega⟩
      · have hkd' : (v.kind == x.kind) = false := by simpa using hkd
        have H2 := Lib.hid ((lastN_no hv (by simp [stP, hkd])).symm.trans H.out)
        clear H
        go_wp2_with fail
        refine ⟨⟨k + 1, a, by omega, rfl, by go_num, by with_reducible repeat (first | exact Ext.refl _ | apply Ext.drew | apply Ext.alloc | apply Ext.more_), H2⟩, by simp [intOf]; omega⟩
    · have hd : l.drop k = [] := List.drop_eq_nil_of_le (by omega)
      have hr : a = r := by have := H.out; rw [hd] at this; exact this
      subst hr
      clear H hd
      go_wp2_with fail
      go_ret
      exact ⟨rfl, by with_reducible repeat (first | exact Ext.refl _ | apply Ext.drew | apply Ext.alloc | apply Ext.more_)⟩
theorem want_just : Want 57 (fun s => decide (s = 0)) := fun sg W => by go_enter Tryd.func57, Tryd.ntmps57; go_wp2_with fail; go_ret; exact ⟨rfl, by with_reducible repeat (first | exact Ext.refl _ | apply Ext.drew | apply Ext.alloc | apply Ext.more_)⟩
theorem want_upTo : Want 59 (fun s => decide (s ≤ 0)) := fun sg W => by go_enter Tryd.func59, Tryd.ntmps59; go_wp2_with fail; go_ret; exact ⟨rfl, by with_reducible repeat (first | exact Ext.refl _ | apply Ext.drew | apply Ext.alloc | apply Ext.more_)⟩
def justN (l : List Val) (x : Val) : Int := firstN (stP (fun s => decide (s = 0)) x) l 0
def upToN (l : List Val) (x : Val) : Int := lastN (stP (fun s => decide (s ≤ 0)) x) l 0 (-1)
theorem just_any (A : Option Addr) (n cap : Nat) (l : List Val) (x : Val) (w : World) (h : ArrIn w A n cap l) (hx : x.ok) : Calls Tryd.prog 37 #[.slice A n cap, VV x.kind x.mant x.exp x.text x.truth x.fault] w fun e w' => e = .returned (.int .i64 (justN l x)) ∧ Ext w w' := by go_enter Tryd.func37, Tryd.ntmps37; go_wp2_with (go_at_call 56; (with_reducible refine (first_any 57 _ want_just (fun args W => by go_simp) A n cap l x _ (h.ext (by with_reducible repeat (first | exact Ext.refl _ | apply Ext.drew | apply Ext.alloc | apply Ext.more_))) hx _ rfl).mono ?_); rintro e w' ⟨rfl, hb⟩; obtain ⟨os, d, rfl⟩ := hb.more; clear hb); go_ret; exact ⟨rfl, by with_reducible repeat (first | exact Ext.refl _ | apply Ext.drew | apply Ext.alloc | apply Ext.more_)⟩
theorem upTo_any (A : Option Addr) (n cap : Nat) (l : List Val) (x : Val) (w : World) (h : ArrIn w A n cap l) (hx : x.ok) : Calls Tryd.prog 38 #[.slice A n cap, VV x.kind x.mant x.exp x.text x.truth x.fault] w fun e w' => e = .returned (.int .i64 (upToN l x)) ∧ Ext w w' := by go_enter Tryd.func38, Tryd.ntmps38; go_wp2_with (go_at_call 58; (with_reducible refine (last_any 59 _ want_upTo (fun args W => by go_simp) A n cap l x _ (h.ext (by with_reducible repeat (first | exact Ext.refl _ | apply Ext.drew | apply Ext.alloc | apply Ext.more_))) hx _ rfl).mono ?_); rintro e w' ⟨rfl, hb⟩; obtain ⟨os, d, rfl⟩ := hb.more; clear hb); go_ret; exact ⟨rfl, by with_reducible repeat (first | exact Ext.refl _ | apply Ext.drew | apply Ext.alloc | apply Ext.more_)⟩
end Go.Proofs.YtljgagjipamdeaaDoor
namespace Go.Proofs.YtljgagjipamdeaaDoor
open Go.RowKit NM
abbrev tnV (x : Val) : Value := .tuple #[NV (tnP x).1 (tnP x).2, .int .i64 (tnF x)]
theorem tn_blank : tnV (Val.only 0) = .tuple #[NV 0 0, .int .i64 0] := rfl
theorem tn_num (m e : Int) : tnV ⟨1, m, e, ⟨#[]⟩, false, 0⟩ = .tuple #[NV m e, .int .i64 0] := rfl
theorem tn_true : tnV (truthV true) = .tuple #[NV 1 0, .int .i64 0] := rfl
theorem tn_false : tnV (truthV false) = .tuple #[NV 0 0, .int .i64 0] := rfl
theorem tn_bad (f : Int) : tnV (badV f) = .tuple #[NV 0 0, .int .i64 f] := rfl
theorem tn_text_no {t : ByteArray} (h : parS t = none) : tnV ⟨2, 0, 0, t, false, 0⟩ = .tuple #[NV 0 0, .int .i64 2] := by unfold tnV tnP tnF; simp [h]
theorem tn_text_yes {t : ByteArray} {p : Int × Int} (h : parS t = some p) : tnV ⟨2, 0, 0, t, false, 0⟩ = .tuple #[NV p.1 p.2, .int .i64 0] := by unfold tnV tnP tnF; simp [h]
set_option maxHeartbeats 1000000 in
theorem toNum_any (x : Val) (w : World) (hx : x.right) :
    Calls Tryd.prog 52 #[VV x.kind x.mant x.exp x.text x.truth x.fault] w fun e w' => e = .returned (tnV x) ∧ Ext w w' := by
  rcases hx.form with rfl | ⟨m, e, rfl, hr⟩ | ⟨t, rfl, ht⟩ | ⟨b, rfl⟩ | ⟨f, rfl, hf⟩
  · rw [tn_blank]
    simp only [Val.only]
    go_enter Tryd.func52, Tryd.ntmps52
    go_wp2_with fail
    exact bodyPost_ret (v := .tuple #[NV 0 0, .int .i64 0]) (by simp [results, Tryd.results52, go_sem]) rfl ⟨rfl, by with_reducible repeat (first | exact Ext.refl _ | apply Ext.drew | apply Ext.alloc | apply Ext.more_)⟩
  · rw [tn_num]
    clear hx hr
    simp only
    go_enter Tryd.func52, Tryd.ntmps52
    go_wp2_with fail
    exact bodyPost_ret (v := .tuple #[NV m e, .int .i64 0]) (by simp [results, Tryd.results52, go_sem]) rfl ⟨rfl, by with_reducible repeat (first | exact Ext.refl _ | apply Ext.drew | apply Ext.alloc | apply Ext.more_)⟩
  · have hp := fun W => parse_any t W (by omega)
    simp only
    cases h : parS t with
    | none =>
      rw [tn_text_no h]
      rw [h] at hp
      simp only [rnV, rm, re, Option.getD_none, Option.isSome_none] at hp
      clear h hx
      go_enter Tryd.func52, Tryd.ntmps52
      go_wp2_with (go_at_call 68; (with_reducible refine (hp _).mono ?_); rintro e w' ⟨rfl, hb⟩; obtain ⟨os, d, rfl⟩ := hb.more; clear hb)
      exact bodyPost_ret (v := .tuple #[NV 0 0, .int .i64 2]) (by simp [results, Tryd.results52, go_sem]) rfl ⟨rfl, by with_reducible repeat (first | exact Ext.refl _ | apply Ext.drew | apply Ext.alloc | apply Ext.more_)⟩
    | some p =>
      rw [tn_text_yes h]
      rw [h] at hp
      simp only [rnV, rm, re, Option.getD_some, Option.isSome_some] at hp
      clear h hx
      go_enter Tryd.func52, Tryd.ntmps52
      go_wp2_with (go_at_call 68; (with_reducible refine (hp _).mono ?_); rintro e w' ⟨rfl, hb⟩; obtain ⟨os, d, rfl⟩ := hb.more; clear hb)
      exact bodyPost_ret (v := .tuple #[NV p.1 p.2, .int .i64 0]) (by simp [results, Tryd.results52, go_sem]) rfl ⟨rfl, by with_reducible repeat (first | exact Ext.refl _ | apply Ext.drew | apply Ext.alloc | apply Ext.more_)⟩
  · cases b
    · rw [tn_false]
      simp only [truthV]
      clear hx
      go_enter Tryd.func52, Tryd.ntmps52
      go_wp2_with fail
      exact bodyPost_ret (v := .tuple #[NV 0 0, .int .i64 0]) (by simp [results, Tryd.results52, go_sem]) rfl ⟨rfl, by with_reducible repeat (first | exact Ext.refl _ | apply Ext.drew | apply Ext.alloc | apply Ext.more_)⟩
    · rw [tn_true]
      simp only [truthV]
      clear hx
      go_enter Tryd.func52, Tryd.ntmps52
      go_wp2_with fail
      exact bodyPost_ret (v := .tuple #[NV 1 0, .int .i64 0]) (by simp [results, Tryd.results52, go_sem]) rfl ⟨rfl, by with_reducible repeat (first | exact Ext.refl _ | apply Ext.drew | apply Ext.alloc | apply Ext.more_)⟩
  · rw [tn_bad]
    simp only [badV]
    clear hx hf
    go_enter Tryd.func52, Tryd.ntmps52
    go_upto_region 13 with fail
    go_region
    all_goals
      go_wp2_with fail
      exact bodyPost_ret (v := .tuple #[NV 0 0, .int .i64 f]) (by simp [results, Tryd.results52, go_sem]) rfl ⟨rfl, by with_reducible repeat (first | exact Ext.refl _ | apply Ext.drew | apply Ext.alloc | apply Ext.more_)⟩
end Go.Proofs.YtljgagjipamdeaaDoor
namespace Go.Proofs.YtljgagjipamdeaaDoor
open Go.RowKit NM
/-- A number of at most 15 digits is what it is. -/
theorem exactx {x e : Int} (hx : x.natAbs < T 15) (h1 : -40 ≤ e) (h2 : e ≤ 25) : ∃ m k, rndI x e = some (m, k) ∧ Rt m k ∧ sc m k = sc x e ∧ (m = 0 ↔ x = 0) ∧ (x ≠ 0 → e ≤ k) := by
  have hn : nd x.natAbs ≤ 15 := (nd_le_iff _ _).2 hx
  have hz : nd x.natAbs - 15 = 0 := by omega
  by_cases h0 : x = 0
  · subst h0
    refine ⟨0, 0, ?_, rt_zero, ?_, ⟨fun _ => rfl, fun _ => rfl⟩, fun h => absurd rfl h⟩
    · unfold rndI; exact rnd_nought _ _ _
    · unfold sc; rw [Int.zero_mul, Int.zero_mul]
  · have hN : x.natAbs ≠ 0 := by omega
    have e1 : n1 x.natAbs false = x.natAbs := by unfold n1; rw [hz, cutN_zero]
    have e2' : n2 x.natAbs false e = x.natAbs := by
      unfold n2; rw [e1, hz, show (-40 - (e + ((0 : Nat) : Int))).toNat = 0 by omega, cutN_zero]
    have e3 : NM.e2 x.natAbs e = e := by unfold NM.e2; rw [hz]; omega
    have hr : rndI x e = some (sg (decide (x < 0)) (trim x.natAbs e).1, (trim x.natAbs e).2) := by
      unfold rndI
      rw [rnd_fin, e2', e3]
      unfold fin
      rw [if_neg hN, if_neg (by omega)]
    obtain ⟨k, g1, g2, g3⟩ := trim_spec x.natAbs e hN
    have g4 : (trim x.natAbs e).1 ≠ 0 := fun h => g3 (by rw [h])
    refine ⟨_, _, hr, ?_, ?_, ⟨fun h => absurd (sg_zero.1 h) g4, fun h => absurd h h0⟩, fun _ => by rw [g2]; omega⟩
    · have := hr; unfold rndI at this; exact rnd_right this
    · have g5 := sc_trim (N := x.natAbs) (e := e) hN (by omega)
      unfold sc
      rw [← sg_mul_nat, g5, sg_mul_nat, sg_nat]
/-- The number of a whole number. -/
def wholeN (n : Int) : Int × Int := (rndI n 0).getD (0, 0)
theorem wholex {n : Int} (h : n.natAbs < T 15) : rndI n 0 = some (wholeN n) ∧ Rt (wholeN n).1 (wholeN n).2 ∧ sc (wholeN n).1 (wholeN n).2 = sc n 0 ∧ ((wholeN n).1 = 0 ↔ n = 0) ∧ 0 ≤ (wholeN n).2 := by
  obtain ⟨m, k, h1, h2, h3, h4, h5⟩ := exactx h (e := 0) (by omega) (by omega)
  have hw : wholeN n = (m, k) := by unfold wholeN; rw [h1]; rfl
  rw [hw]
  refine ⟨h1, h2, h3, h4, ?_⟩
  by_cases h0 : n = 0
  · have hm := h4.2 h0
    rcases h2 with ⟨_, hk⟩ | ⟨hm', _⟩
    · show 0 ≤ k; omega
    · exact absurd hm hm'
  · exact h5 h0
theorem sc_whole0 (n : Int) : sc n 0 = n * (T 100 : Nat) := rfl
end Go.Proofs.YtljgagjipamdeaaDoor
namespace Go.Proofs.YtljgagjipamdeaaDoor
open NM
/-- 10 to the power 140: what no right number reaches, scaled. -/
def MX : Nat := T 140
/-- A value without its sign, scaled, to the nearest of so many, a half up; but beyond the greatest one itself. -/
def GU (U x : Nat) : Nat := (if U ≤ 2 * (x % U) then x / U + 1 else x / U) * U
def HU (U x : Nat) : Nat := if GU U x < MX then GU U x else x
/-- The same with a sign. -/
def HI (U : Nat) (x : Int) : Int := if x < 0 then -(HU U x.natAbs : Int) else HU U x.natAbs
theorem sc_sg (neg : Bool) (N : Nat) (e : Int) : sc (sg neg N) e = sg neg (N * T (e + 100).toNat) := by unfold sc; rw [sg_mul_nat]
theorem sg_nought (b : Bool) : sg b 0 = 0 := by cases b <;> rfl
end Go.Proofs.YtljgagjipamdeaaDoor
namespace Go.Proofs.YtljgagjipamdeaaDoor
open Go.RowKit NM
theorem fin_whole {neg : Bool} {N : Nat} (h : nd N ≤ 15) : rnd neg N false 0 = some (sg neg (trim N 0).1, (trim N 0).2) := by
  rw [rnd_small h (by omega)]
  unfold fin
  by_cases h0 : N = 0
  · subst h0; rw [if_pos rfl, trim_zero]; cases neg <;> rfl
  · rw [if_neg h0, if_neg (by omega)]
theorem floorN_nd {m e : Int} {k : Nat} (h : Rt m e) (hk : 0 < k) : nd (floorN m k) ≤ 15 := by
  obtain ⟨b1, _, _⟩ := Rt_bd h
  have hT15 : T 15 = 1000000000000000 := by decide
  have h1 : m.natAbs / T k ≤ m.natAbs / T 1 := Nat.div_le_div_left (T_mono hk) (T_pos 1)
  have h2 : T 1 = 10 := by decide
  rw [h2] at h1
  rw [nd_le_iff]
  unfold floorN
  split <;> omega
end Go.Proofs.YtljgagjipamdeaaDoor
namespace Go.Proofs.YtljgagjipamdeaaDoor
open Go.RowKit NM
/-- 10 to the power 100, as a word. -/
def HX : Int := ((T 100 : Nat) : Int)
theorem HX_pos : 0 < HX := by have := T_pos 100; unfold HX; omega
theorem whole_sc {neg : Bool} {N : Nat} (h : nd N ≤ 15) : Rt (sg neg (trim N 0).1) (trim N 0).2 ∧ sc (sg neg (trim N 0).1) (trim N 0).2 = sg neg N * HX ∧ 0 ≤ (trim N 0).2 := by
  have h1 := fin_whole (neg := neg) h
  refine ⟨rnd_right h1, ?_, ?_⟩
  · rw [sc_sg]
    by_cases h0 : N = 0
    · rw [h0, trim_zero, Nat.zero_mul, sg_nought, Int.zero_mul]
    · rw [sc_trim h0 (by omega), sg_mul_nat]; rfl
  · by_cases h0 : N = 0
    · rw [h0, trim_zero]; exact Int.le_refl _
    · obtain ⟨k, _, hb, _⟩ := trim_spec N 0 h0
      rw [hb]; omega
theorem floor_spec {m e : Int} (h : Rt m e) : Rt (floorS m e).1 (floorS m e).2 ∧ 0 ≤ (floorS m e).2 ∧ sc (floorS m e).1 (floorS m e).2 ≤ sc m e ∧ sc m e < sc (floorS m e).1 (floorS m e).2 + HX := by
  have hH := HX_pos
  unfold floorS
  rw [if_neg (by simpa using h)]
  by_cases h0 : 0 ≤ e
  · rw [if_pos h0]; exact ⟨h, h0, Int.le_refl _, by show sc m e < sc m e + HX; omega⟩
  · rw [if_neg h0]
    obtain ⟨b1, b2, b3⟩ := Rt_bd h
    obtain ⟨k, hk⟩ : ∃ k : Nat, -e = (k : Int) := ⟨(-e).toNat, by omega⟩
    rw [hk, Int.toNat_natCast]
    have hk0 : 0 < k := by omega
    have hk100 : k ≤ 100 := by omega
    obtain ⟨w1, w2, w3⟩ := whole_sc (neg := decide (m < 0)) (floorN_nd h hk0)
    refine ⟨w1, w3, ?_⟩
    show sc (sg (decide (m < 0)) (trim (floorN m k) 0).1) (trim (floorN m k) 0).2 ≤ sc m e ∧ sc m e < sc (sg (decide (m < 0)) (trim (floorN m k) 0).1) (trim (floorN m k) 0).2 + HX
    rw [w2]
    have hdm := Nat.div_add_mod m.natAbs (T k)
    have hml := Nat.mod_lt m.natAbs (T_pos k)
    have hsc : sc m e = m * ((T (100 - k) : Nat) : Int) := by unfold sc; congr 3; omega
    have hHX : HX = ((T k : Nat) : Int) * ((T (100 - k) : Nat) : Int) := by unfold HX; rw [← T_cast_mul]; congr 2; omega
    have hr0 : m < 0 → m.natAbs % T k ≠ 0 := by
      intro hm
      rcases h with ⟨h1, _⟩ | ⟨_, _, h3, _, _⟩
      · omega
      · exact mod_T_ne h3 hk0
    have ht := T_pos (100 - k)
    unfold floorN
    rw [hsc, hHX]
    generalize T (100 - k) = t at *
    generalize m.natAbs / T k = q at *
    generalize m.natAbs % T k = r at *
    generalize T k = u at *
    have htI : (0 : Int) < (t : Int) := by omega
    have hrt : (r : Int) * (t : Int) < (u : Int) * (t : Int) := Int.mul_lt_mul_of_pos_right (by omega) htI
    have hrp : 0 ≤ (r : Int) * (t : Int) := Int.mul_nonneg (by omega) (by omega)
    by_cases hm : m < 0
    · have hmr : m = -((u : Int) * (q : Int) + (r : Int)) := by rw [← Int.natCast_mul]; omega
      have hr1 : 0 < (r : Int) * (t : Int) := Int.mul_pos (by have := hr0 hm; omega) htI
      rw [if_pos hm, decide_eq_true hm]
      have e1 : sg true (q + 1) * ((u : Int) * (t : Int)) = -((q : Int) * ((u : Int) * (t : Int))) - (u : Int) * (t : Int) := by
        simp only [sg, if_true]; rw [Int.neg_mul, Int.natCast_add, Int.add_mul]; simp; omega
      have e2 : m * (t : Int) = -((q : Int) * ((u : Int) * (t : Int))) - (r : Int) * (t : Int) := by
        rw [hmr, Int.neg_mul, Int.add_mul, Int.mul_comm (u : Int) (q : Int), Int.mul_assoc]; omega
      rw [e1, e2]
      omega
    · have hmr : m = (u : Int) * (q : Int) + (r : Int) := by rw [← Int.natCast_mul]; omega
      rw [if_neg hm, show decide (m < 0) = false by simp [hm]]
      have e1 : sg false q * ((u : Int) * (t : Int)) = (q : Int) * ((u : Int) * (t : Int)) := by simp [sg]
      have e2 : m * (t : Int) = (q : Int) * ((u : Int) * (t : Int)) + (r : Int) * (t : Int) := by
        rw [hmr, Int.add_mul, Int.mul_comm (u : Int) (q : Int), Int.mul_assoc]
      rw [e1, e2]
      omega
theorem int_go : ∀ (k : Nat) (n : Int), (n * (T k : Nat)).natAbs ≤ 1000000000000000 → intGo n k = some (n * (T k : Nat))
  | 0, n, _ => by simp [intGo, T]
  | k + 1, n, h => by
    have h1 : n * ((T (k + 1) : Nat) : Int) = n * 10 * ((T k : Nat) : Int) := by rw [T_succ, Int.natCast_mul, ← Int.mul_assoc]; rfl
    rw [h1] at h ⊢
    have h2 : n.natAbs * 10 ≤ 1000000000000000 := by
      have h3 : (n * 10 * ((T k : Nat) : Int)).natAbs = n.natAbs * 10 * T k := by rw [Int.natAbs_mul, Int.natAbs_mul, Int.natAbs_natCast]; rfl
      rw [h3] at h
      exact Nat.le_trans (Nat.le_mul_of_pos_right _ (T_pos k)) h
    rw [intGo, if_neg (by omega)]
    exact int_go k (n * 10) h
theorem sc_whole {m e : Int} (h : 0 ≤ e) : sc m e = m * (T e.toNat : Nat) * HX := by
  unfold sc HX
  rw [Int.mul_assoc, ← T_cast_mul]; congr 3; omega
end Go.Proofs.YtljgagjipamdeaaDoor
namespace Go.Proofs.YtljgagjipamdeaaDoor
open Go.RowKit
theorem part_prod {R C row col rows cols i j : Nat} (hi : i < rows) (hj : j < cols) (h1 : row + rows ≤ R) (h2 : col + cols ≤ C) (hN : R * C ≤ 4096) : (row + i) * C + col + j < R * C ∧ (row + i) * C ≤ 4096 := by
  have : (row + i + 1) * C ≤ R * C := Nat.mul_le_mul_right C (by omega)
  rw [Nat.succ_mul] at this
  omega
set_option maxHeartbeats 400000 in
theorem part1_any (pa pr pc R C row col rows cols : Nat) (A : Option Addr) (n cap : Nat) (l : List Val) (i j : Nat) (W : World) (hb : ABox pa R C A n cap W) (hpr : pr < W.heap.size) (hpc : pc < W.heap.size) (cr : W.cell? ⟨pr, 0, none⟩ = some (.int .i64 row)) (cc : W.cell? ⟨pc, 0, none⟩ = some (.int .i64 col)) (h : ArrIn W A n cap l) (hn : n = R * C) (hN : n ≤ 4096)
    (hi : i < rows) (hj : j < cols) (h1 : row + rows ≤ R) (h2 : col + cols ≤ C) (hR : R ≤ 4096) (hC : C ≤ 4096) (x : Val) (hx : getV l ((row + i) * C + col + j) = x) :
    Calls Tryd.prog 73 #[.int .i64 i, .int .i64 j, .pointer (some ⟨pa, 0, none⟩), .pointer (some ⟨pr, 0, none⟩), .pointer (some ⟨pc, 0, none⟩)] W fun e W' => e = .returned (VV x.kind x.mant x.exp x.text x.truth x.fault) ∧ Ext W W' := by
  subst hn
  obtain ⟨hk, hk2⟩ := part_prod hi hj h1 h2 hN
  obtain ⟨b, off, rfl, hv, ho⟩ := h.get hk
  rw [hx] at hv
  clear hx ho
  obtain ⟨v0, v1, v2, v3, v4, v5⟩ := hv
  have hbl : b < W.heap.size := lt_of_cell v0
  obtain ⟨hp, b0, b1, b2⟩ := hb
  have w1 : IntKind.i64.wrap (((row : Int) + (i : Int)) * (C : Int)) = (((row + i) * C : Nat) : Int) := by
    rw [IntKind.wrap_i64, Int.natCast_mul, Int.natCast_add]
    have : (((row + i) * C : Nat) : Int) ≤ 4096 := by omega
    rw [Int.natCast_mul, Int.natCast_add] at this
    have h0 : (0 : Int) ≤ ((row : Int) + (i : Int)) * (C : Int) := Int.mul_nonneg (by omega) (by omega)
    omega
  generalize hjc : (row + i) * C = jc at *
  generalize hrc : R * C = rc at *
  clear hjc hrc
  go_enter Tryd.func73, Tryd.ntmps73
  go_wp2
  exact bodyPost_ret (v := VV x.kind x.mant x.exp x.text x.truth x.fault) (by simp [results, Tryd.results73, go_sem]) rfl ⟨rfl, by repeat (first | exact Ext.refl _ | exact ext_app _ _ _ _ _ | exact ext_app2 _ _ _ _ _ _ | apply Ext.drew | apply Ext.alloc | apply Ext.more_)⟩
def partL (C row col rows cols : Nat) (l : List Val) : List Val := vals (fun i j => getV l ((row + i) * C + col + j)) cols (rows * cols)
set_option maxHeartbeats 600000 in
theorem part_yes (R C row col rows cols : Nat) (A : Option Addr) (n cap : Nat) (l : List Val) (w : World) (h : ArrIn w A n cap l) (hr : rightA R C l = true) (hr1 : 1 ≤ rows) (hc1 : 1 ≤ cols) (h1 : row + rows ≤ R) (h2 : col + cols ≤ C) :
    Calls Tryd.prog 55 #[AV R C (.slice A n cap), .int .i64 row, .int .i64 col, .int .i64 rows, .int .i64 cols] w fun e w' => ∃ D c, e = .returned (.tuple #[AV rows cols (.slice D (rows * cols) c), .bool true]) ∧ SlV w.heap.size w' D (partL C row col rows cols l) ∧ rows * cols ≤ c ∧ Ext w w' := by
  obtain ⟨r1, r2, r3, r4, r5, r6⟩ := right_bd hr
  have hln := h.len
  have HN := Lib.hid (show n = R * C by omega)
  have hN : n ≤ 4096 := by omega
  clear r4 hln
  have hh : hasB R C row col = true := by simp [hasB]; omega
  have hT : rows * cols ≤ 4096 := by
    have a1 : rows * cols ≤ rows * C := Nat.mul_le_mul_left _ (by omega)
    have a2 : rows * C ≤ R * C := Nat.mul_le_mul_right _ (by omega)
    omega
  generalize hL : partL C row col rows cols l = LL
  have HL := Lib.hid hL
  clear hL
  generalize hTT : rows * cols = T at *
  have HT := Lib.hid hTT
  clear hTT
  go_enter Tryd.func55, Tryd.ntmps55
  go_wp2_with fail
  refine (right_any _ _ _ _ _ _ _ (h.ext (by repeat (first | exact Ext.refl _ | exact ext_app _ _ _ _ _ | exact ext_app2 _ _ _ _ _ _ | apply Ext.drew | apply Ext.alloc | apply Ext.more_)))).mono ?_; rintro e w' ⟨rfl, hb⟩; obtain ⟨os1, d1, rfl⟩ := hb.more; clear hb
  go_wp2_with fail
  refine (has_any _ _ _ _ _ _ rfl).mono ?_; rintro e w' ⟨rfl, hb⟩; obtain ⟨os2, d2, rfl⟩ := hb.more; clear hb
  go_wp2_with fail
  refine (build_pure rows cols 73 #[.pointer (some ⟨w.heap.size, 0, none⟩), .pointer (some ⟨w.heap.size + 1, 0, none⟩), .pointer (some ⟨w.heap.size + 1 + 1, 0, none⟩)] (fun i j => getV l ((row + i) * C + col + j)) _ hr1 hc1 (by rw [HT.out]; exact hT) (fun _ _ => by kernel_rfl) ?_).mono ?_
  · intro i j W hi hj hx
    have hz := hx.size
    refine part1_any w.heap.size (w.heap.size + 1) (w.heap.size + 1 + 1) R C row col rows cols A n cap l i j W (ABox.ext ?_ hx) ?_ ?_ (hx.cell_some ?_) (hx.cell_some ?_) (h.ext (Ext.trans ?_ hx)) HN.out hN hi hj h1 h2 r5 r6 _ rfl
    · refine ⟨?_, ?_, ?_, ?_⟩ <;> simp [go_sem]
    · simp at hz; omega
    · simp at hz; omega
    · simp [go_sem]
    · simp [go_sem]
    · exact (by repeat (first | exact Ext.refl _ | exact ext_app _ _ _ _ _ | exact ext_app2 _ _ _ _ _ _ | apply Ext.drew | apply Ext.alloc | apply Ext.more_))
  rintro e w' ⟨D, c', rfl, hs, hc', hb⟩
  obtain ⟨os', d', rfl⟩ := hb.more
  rw [HT.out] at hs hc' ⊢
  change SlV _ _ _ (vals _ _ _) at hs
  have hs' := hs
  rw [show vals (fun i j => getV l ((row + i) * C + col + j)) cols T = LL by rw [← HL.out, partL, HT.out]] at hs'
  clear hs
  go_wp2
  exact bodyPost_ret (v := .tuple #[AV rows cols (.slice D T c'), .bool true]) (by simp [results, Tryd.results55, go_sem]) rfl ⟨D, c', rfl, (by (try simp only [more_more] at hs'); (try simp only [drew_more] at hs'); (try simp only [more_drew] at hs'); (try simp only [Array.append_assoc] at hs'); exact Rd.swap hs' (by first | (simp; done) | (simp; omega) | omega) (by first | (simp; done) | (simp; omega) | omega) (by first | (simp; done) | (simp; omega) | omega)), hc', by repeat (first | exact Ext.refl _ | exact ext_app _ _ _ _ _ | exact ext_app2 _ _ _ _ _ _ | apply Ext.drew | apply Ext.alloc | apply Ext.more_)⟩
end Go.Proofs.YtljgagjipamdeaaDoor
namespace Go.Proofs.YtljgagjipamdeaaDoor
open Go.RowKit NM
theorem rt_i64 {m e : Int} (h : Rt m e) : I64 m := by
  obtain ⟨h1, h2, h3⟩ := Rt_bd h
  unfold I64; omega
def cntV (n : Int) : Val := ⟨1, (wholeN n).1, (wholeN n).2, ⟨#[]⟩, false, 0⟩
set_option maxHeartbeats 1000000 in
theorem fcount_any (n : Int) (w : World) (htab : Tab w) (hn : n.natAbs < T 15) :
    Calls Tryd.prog 40 #[.int .i64 n] w fun e w' => e = .returned (VV (cntV n).kind (cntV n).mant (cntV n).exp (cntV n).text (cntV n).truth (cntV n).fault) ∧ Ext w w' := by
  have hi : I64 n := by have : T 15 = 1000000000000000 := (by decide); unfold I64; omega
  have hm := fun W h => make_any n 0 W h hi (by unfold I64; omega)
  rw [show rnd (decide (n < 0)) n.natAbs false 0 = some (wholeN n) from (wholex hn).1] at hm
  simp only [rnV, rm, re, Option.getD_some, Option.isSome_some] at hm
  have HT := Lib.hid htab
  unfold cntV
  clear htab hn hi
  go_enter Tryd.func40, Tryd.ntmps40
  go_wp2_with (first | (go_at_call 61; (with_reducible refine (hm _ (HT.out.ext (by with_reducible repeat (first | exact Ext.refl _ | apply Ext.drew | apply Ext.alloc | apply Ext.more_)))).mono ?_); rintro e w' ⟨rfl, hb⟩; obtain ⟨os, d, rfl⟩ := hb.more; clear hb) | (go_at_call 47; (with_reducible refine (of_any _ _ _).mono ?_); rintro e w' ⟨rfl, hb⟩; obtain ⟨os, d, rfl⟩ := hb.more; clear hb))
  exact bodyPost_ret (v := VV 1 (wholeN n).1 (wholeN n).2 ⟨#[]⟩ false 0) (by simp [results, Tryd.results40, go_sem]) rfl ⟨rfl, by with_reducible repeat (first | exact Ext.refl _ | apply Ext.drew | apply Ext.alloc | apply Ext.more_)⟩
/-- A value's whole number, and a fault. -/
def wholeO (v : Val) : Int × Int := if tnF v = 0 then ((intS (floorS (tnP v).1 (tnP v).2).1 (floorS (tnP v).1 (tnP v).2).2).getD 0, if (intS (floorS (tnP v).1 (tnP v).2).1 (floorS (tnP v).1 (tnP v).2).2).isSome then 0 else 5) else (0, tnF v)
set_option maxHeartbeats 1000000 in
theorem whole_any (r c : Int) (A : Option Addr) (n cap : Nat) (l : List Val) (w : World) (h : ArrIn w A n cap l) (v : Val) (hv : l[0]? = some v) (hr : v.right) (y : Int × Int) (hy : wholeO v = y) :
    Calls Tryd.prog 34 #[AV r c (.slice A n cap)] w fun e w' => e = .returned (.tuple #[.int .i64 y.1, .int .i64 y.2]) ∧ Ext w w' := by
  have hn : 0 < n := by rw [← h.len]; exact (List.getElem?_eq_some_iff.1 hv).1
  obtain ⟨v', b, off, hv', hvo, rfl, hat⟩ := h.at hn
  obtain rfl : v' = v := by rw [hv] at hv'; simpa using hv'.symm
  obtain ⟨v0, v1, v2, v3, v4, v5⟩ := hat
  simp only [Nat.zero_mul, Nat.add_zero] at v0 v1 v2 v3 v4 v5
  have hbl : b < w.heap.size := lt_of_cell v0
  have ht := fun W => toNum_any v' W hr
  have hi1 : I64 (tnP v').1 := rt_i64 (tn_rt hr)
  subst hy
  unfold wholeO
  generalize htp : tnP v' = p at *
  generalize htf : tnF v' = f at *
  by_cases hf : f = 0
  · subst hf
    rw [if_pos rfl]
    have hfl := fun W => floor_any p.1 p.2 W hi1
    have hi2 : I64 (floorS p.1 p.2).1 := rt_i64 (by exact (floor_spec (by rw [← htp]; exact tn_rt hr)).1)
    generalize hq : floorS p.1 p.2 = q at *
    have hin := fun W => int_any q.1 q.2 W hi2
    cases hI : intS q.1 q.2 with
    | none =>
      rw [hI] at hin
      simp only [inV, Option.getD_none, Option.isSome_none] at hin ⊢
      simp only [tnV, htp, htf] at ht
      clear hI hq htp htf hv hv' hvo hr hi1 hi2
      go_enter Tryd.func34, Tryd.ntmps34
      go_wp2_with (first | (go_at_call 52; (with_reducible refine (ht _).mono ?_); rintro e w' ⟨rfl, hb⟩; obtain ⟨os, d, rfl⟩ := hb.more; clear hb) | (go_at_call 54; (with_reducible refine (hfl _).mono ?_); rintro e w' ⟨rfl, hb⟩; obtain ⟨os, d, rfl⟩ := hb.more; clear hb) | (go_at_call 53; (with_reducible refine (hin _).mono ?_); rintro e w' ⟨rfl, hb⟩; obtain ⟨os, d, rfl⟩ := hb.more; clear hb))
      exact bodyPost_ret (v := .tuple #[.int .i64 0, .int .i64 5]) (by simp [results, Tryd.results34, go_sem]) rfl ⟨rfl, by with_reducible repeat (first | exact Ext.refl _ | apply Ext.drew | apply Ext.alloc | apply Ext.more_)⟩
    | some i =>
      rw [hI] at hin
      simp only [inV, Option.getD_some, Option.isSome_some] at hin ⊢
      simp only [tnV, htp, htf] at ht
      clear hI hq htp htf hv hv' hvo hr hi1 hi2
      go_enter Tryd.func34, Tryd.ntmps34
      go_wp2_with (first | (go_at_call 52; (with_reducible refine (ht _).mono ?_); rintro e w' ⟨rfl, hb⟩; obtain ⟨os, d, rfl⟩ := hb.more; clear hb) | (go_at_call 54; (with_reducible refine (hfl _).mono ?_); rintro e w' ⟨rfl, hb⟩; obtain ⟨os, d, rfl⟩ := hb.more; clear hb) | (go_at_call 53; (with_reducible refine (hin _).mono ?_); rintro e w' ⟨rfl, hb⟩; obtain ⟨os, d, rfl⟩ := hb.more; clear hb))
      exact bodyPost_ret (v := .tuple #[.int .i64 i, .int .i64 0]) (by simp [results, Tryd.results34, go_sem]) rfl ⟨rfl, by with_reducible repeat (first | exact Ext.refl _ | apply Ext.drew | apply Ext.alloc | apply Ext.more_)⟩
  · rw [if_neg hf]
    have hf' : (f != 0) = true := by simpa using hf
    simp only [tnV, htp, htf] at ht
    clear htp htf hv hv' hvo hr hi1
    go_enter Tryd.func34, Tryd.ntmps34
    go_wp2_with (first | (go_at_call 52; (with_reducible refine (ht _).mono ?_); rintro e w' ⟨rfl, hb⟩; obtain ⟨os, d, rfl⟩ := hb.more; clear hb))
    exact bodyPost_ret (v := .tuple #[.int .i64 0, .int .i64 f]) (by simp [results, Tryd.results34, go_sem]) rfl ⟨rfl, by with_reducible repeat (first | exact Ext.refl _ | apply Ext.drew | apply Ext.alloc | apply Ext.more_)⟩
/-- What is sought, and a fault. -/
def soughtO (v : Val) : Val × Int := if v.kind = 4 then (Val.zero, v.fault) else if v.kind = 0 then (cntV 0, 0) else (v, 0)
abbrev vfV (p : Val × Int) : Value := .tuple #[VV p.1.kind p.1.mant p.1.exp p.1.text p.1.truth p.1.fault, .int .i64 p.2]
set_option maxHeartbeats 1000000 in
theorem sought_any (r c : Int) (A : Option Addr) (n cap : Nat) (l : List Val) (w : World) (htab : Tab w) (h : ArrIn w A n cap l) (v : Val) (hv : l[0]? = some v) :
    Calls Tryd.prog 36 #[AV r c (.slice A n cap)] w fun e w' => e = .returned (vfV (soughtO v)) ∧ Ext w w' := by
  have hn : 0 < n := by rw [← h.len]; exact (List.getElem?_eq_some_iff.1 hv).1
  obtain ⟨v', b, off, hv', hvo, rfl, hat⟩ := h.at hn
  obtain rfl : v' = v := by rw [hv] at hv'; simpa using hv'.symm
  obtain ⟨v0, v1, v2, v3, v4, v5⟩ := hat
  simp only [Nat.zero_mul, Nat.add_zero] at v0 v1 v2 v3 v4 v5
  have hbl : b < w.heap.size := lt_of_cell v0
  have HT := Lib.hid htab
  have hc := fun W (h : Tab W) => fcount_any 0 W h (by decide)
  unfold soughtO
  obtain ⟨k, m, ex, t, bb, f⟩ := v'
  simp only at v0 v1 v2 v3 v4 v5
  clear htab hv hv' hvo
  by_cases h4 : k = 4
  · subst h4
    rw [if_pos rfl]
    simp only [vfV, Val.zero]
    go_enter Tryd.func36, Tryd.ntmps36
    go_upto_region 5 with fail
    go_region
    all_goals
      go_wp2_with fail
      exact bodyPost_ret (v := .tuple #[VV 0 0 0 ⟨#[]⟩ false 0, .int .i64 f]) (by simp [results, Tryd.results36, go_sem]) rfl ⟨rfl, by with_reducible repeat (first | exact Ext.refl _ | apply Ext.drew | apply Ext.alloc | apply Ext.more_)⟩
  · have h4' : (k == 4) = false := by simpa using h4
    rw [if_neg h4]
    by_cases h0 : k = 0
    · subst h0
      rw [if_pos rfl]
      clear h4 h4'
      generalize hcv : cntV 0 = y at *
      go_enter Tryd.func36, Tryd.ntmps36
      go_wp2_with (first | (go_at_call 40; (with_reducible refine (hc _ (HT.out.ext (by with_reducible repeat (first | exact Ext.refl _ | apply Ext.drew | apply Ext.alloc | apply Ext.more_)))).mono ?_); rintro e w' ⟨rfl, hb⟩; obtain ⟨os, d, rfl⟩ := hb.more; clear hb))
      exact bodyPost_ret (v := .tuple #[VV y.kind y.mant y.exp y.text y.truth y.fault, .int .i64 0]) (by simp [results, Tryd.results36, go_sem]) rfl ⟨rfl, by with_reducible repeat (first | exact Ext.refl _ | apply Ext.drew | apply Ext.alloc | apply Ext.more_)⟩
    · have h0' : (k == 0) = false := by simpa using h0
      rw [if_neg h0]
      go_enter Tryd.func36, Tryd.ntmps36
      go_wp2_with fail
      exact bodyPost_ret (v := .tuple #[VV k m ex t bb f, .int .i64 0]) (by simp [results, Tryd.results36, go_sem]) rfl ⟨rfl, by with_reducible repeat (first | exact Ext.refl _ | apply Ext.drew | apply Ext.alloc | apply Ext.more_)⟩
end Go.Proofs.YtljgagjipamdeaaDoor
namespace Go.Proofs.YtljgagjipamdeaaDoor
open Go.RowKit NM
/-- A part of an array. -/
def partA (a : NA) (row col rows cols : Nat) : NA := ⟨rows, cols, partL a.C row col rows cols a.l⟩
theorem partL_mem {C row col rows cols : Nat} {l : List Val} {v : Val} {R : Nat} (hl : l.length = R * C) (h1 : row + rows ≤ R) (h2 : col + cols ≤ C) (h : v ∈ partL C row col rows cols l) : v ∈ l := by
  unfold partL vals at h
  simp only [List.mem_map, List.mem_range] at h
  obtain ⟨t, ht, rfl⟩ := h
  have hc : 0 < cols := by rcases Nat.eq_zero_or_pos cols with h | h; (subst h; simp at ht); exact h
  have hi : t / cols < rows := Nat.div_lt_of_lt_mul (by rw [Nat.mul_comm]; exact ht)
  have hj : t % cols < cols := Nat.mod_lt _ hc
  have hk : (row + t / cols) * C + col + t % cols < l.length := by
    rw [hl]
    have : (row + t / cols) * C + C ≤ R * C := by
      have := Nat.mul_le_mul_right C (show row + t / cols + 1 ≤ R by omega)
      rw [Nat.add_mul, Nat.one_mul] at this
      exact this
    omega
  unfold getV
  rw [List.getElem?_eq_getElem hk]
  exact List.getElem_mem hk
theorem partA_ok {a : NA} (ha : a.ok) (hr : a.right) {row col rows cols : Nat} (h1 : row + rows ≤ a.R) (h2 : col + cols ≤ a.C) : (partA a row col rows cols).ok := fun x hx =>
  ha x (partL_mem (rightA_nat.1 hr).2.2.2.1 h1 h2 hx)
set_option maxHeartbeats 1000000 in
theorem fpart_any (a : NA) (row col rows cols : Nat) (A : Option Addr) (n cap : Nat) (w : World) (h : ArrIn w A n cap a.l) (hr : a.right) (hr1 : 1 ≤ rows) (hc1 : 1 ≤ cols) (h1 : row + rows ≤ a.R) (h2 : col + cols ≤ a.C) :
    Calls Tryd.prog 35 #[AV a.R a.C (.slice A n cap), .int .i64 row, .int .i64 col, .int .i64 rows, .int .i64 cols] w fun e w' => ResA w (partA a row col rows cols) e w' := by
  have hok := partA_ok h.ok hr h1 h2
  have hp := fun W (hW : ArrIn W A n cap a.l) => part_yes a.R a.C row col rows cols A n cap a.l W hW hr hr1 hc1 h1 h2
  have hle : rows * cols ≤ 4096 := by
    have := (rightA_nat.1 hr).2.2.1
    exact Nat.le_trans (Nat.mul_le_mul (by omega) (by omega)) this
  have hl : (partL a.C row col rows cols a.l).length = rows * cols := by unfold partL; rw [vals_length]
  unfold partA at hok ⊢
  generalize partL a.C row col rows cols a.l = L at *
  generalize rows * cols = N at *
  obtain ⟨R, C, l⟩ := a
  simp only at h hp
  clear hr hr1 hc1 h1 h2
  go_enter Tryd.func35, Tryd.ntmps35
  go_wp2_with (go_at_call 55; (with_reducible refine (hp _ (h.ext (by with_reducible repeat (first | exact Ext.refl _ | apply Ext.drew | apply Ext.alloc | apply Ext.more_)))).mono ?_); rintro e w' ⟨D, c, rfl, hD, hc, hb⟩; obtain ⟨os, d, rfl⟩ := hb.more; clear hb)
  exact bodyPost_ret (v := AV rows cols (.slice D N c)) (by simp [results, Tryd.results35, go_sem]) rfl ⟨D, N, c, rfl, ⟨Rd.alloc ((by (try simp only [more_more] at hD); (try simp only [drew_more] at hD); (try simp only [more_drew] at hD); (try simp only [Array.append_assoc] at hD); exact Rd.swap hD (by first | (simp; done) | (simp; omega) | omega) (by first | (simp; done) | (simp; omega) | omega) (by first | (simp; done) | (simp; omega) | omega))) _, hl, hc, by omega, hok⟩, by with_reducible repeat (first | exact Ext.refl _ | apply Ext.drew | apply Ext.alloc | apply Ext.more_)⟩
theorem args2 {w : World} {A : Option Addr} {cap : Nat} {a p : Ar} (h : ArgsIn w A 2 cap [a, p]) : ∃ b off, A = some ⟨b, off, none⟩ ∧ b < w.heap.size ∧ ArAt w b off a ∧ ArAt w b (off + 3) p ∧ ArOk w a ∧ ArOk w p := by
  obtain ⟨b, off, rfl, h1, h2⟩ := h.get (k := 0) (a := a) rfl
  obtain ⟨b', off', e, h3, h4⟩ := h.get (k := 1) (a := p) rfl
  simp only [Option.some.injEq, Addr.mk.injEq, and_true] at e
  obtain ⟨rfl, rfl⟩ := e
  exact ⟨b, off, rfl, lt_of_cell h1.1, h1, h3, h2, h4⟩
theorem args3 {w : World} {A : Option Addr} {cap : Nat} {a p q : Ar} (h : ArgsIn w A 3 cap [a, p, q]) : ∃ b off, A = some ⟨b, off, none⟩ ∧ b < w.heap.size ∧ ArAt w b off a ∧ ArAt w b (off + 3) p ∧ ArAt w b (off + 6) q ∧ ArOk w a ∧ ArOk w p ∧ ArOk w q := by
  obtain ⟨b, off, rfl, h1, h2⟩ := h.get (k := 0) (a := a) rfl
  obtain ⟨b', off', e, h3, h4⟩ := h.get (k := 1) (a := p) rfl
  obtain ⟨b2, off2, e2, h5, h6⟩ := h.get (k := 2) (a := q) rfl
  simp only [Option.some.injEq, Addr.mk.injEq, and_true] at e e2
  obtain ⟨rfl, rfl⟩ := e
  obtain ⟨rfl, rfl⟩ := e2
  exact ⟨b, off, rfl, lt_of_cell h1.1, h1, h3, h5, h2, h4, h6⟩
end Go.Proofs.YtljgagjipamdeaaDoor
namespace Go.Proofs.YtljgagjipamdeaaDoor
open Go.RowKit NM
theorem firstN_range (p : Val → Bool) : ∀ (l : List Val) (k : Nat), firstN p l k = -1 ∨ ((k : Int) ≤ firstN p l k ∧ firstN p l k < k + l.length)
  | [], k => Or.inl rfl
  | x :: l, k => by
    unfold firstN
    split
    · right; simp only [List.length_cons]; omega
    · rcases firstN_range p l (k + 1) with h | h
      · exact Or.inl h
      · right; simp only [List.length_cons]; omega
theorem lastN_range (p : Val → Bool) : ∀ (l : List Val) (k : Nat) (a : Int), lastN p l k a = a ∨ ((k : Int) ≤ lastN p l k a ∧ lastN p l k a < k + l.length)
  | [], k, a => Or.inl rfl
  | x :: l, k, a => by
    unfold lastN
    rcases lastN_range p l (k + 1) (if p x then (k : Int) else a) with h | h
    · rw [h]
      split
      · right; simp only [List.length_cons]; omega
      · exact Or.inl rfl
    · right; simp only [List.length_cons]; omega
theorem justN_range (l : List Val) (x : Val) : justN l x = -1 ∨ (0 ≤ justN l x ∧ justN l x < l.length) := by
  have := firstN_range (stP (fun s => decide (s = 0)) x) l 0
  unfold justN; simpa using this
theorem upToN_range (l : List Val) (x : Val) : upToN l x = -1 ∨ (0 ≤ upToN l x ∧ upToN l x < l.length) := by
  have := lastN_range (stP (fun s => decide (s ≤ 0)) x) l 0 (-1)
  unfold upToN; simpa using this
/-- The array of a place; -1: there is none. -/
def placeO (k : Int) : NA := if k < 0 then aloneO 6 else oneA (cntV (k + 1))
theorem cnt_right {n : Int} (h : n.natAbs < T 15) : (cntV n).right := right_num (wholex h).2.1
theorem soughtO_self {v : Val} (h0 : v.kind ≠ 0) (h4 : v.kind ≠ 4) : soughtO v = (v, 0) := by unfold soughtO; rw [if_neg h4, if_neg h0]
set_option maxHeartbeats 1000000 in
theorem match3_just (A : Option Addr) (cap : Nat) (a p q : Ar) (v u : Val) (w : World) (htab : Tab w) (h : ArgsIn w A 3 cap [a, p, q]) (hv : a.x.l[0]? = some v) (hvr : v.right) (h0 : v.kind ≠ 0) (h4 : v.kind ≠ 4)
    (hu : q.x.l[0]? = some u) (hur : u.right) (hk : wholeO u = (0, 0)) (hl : p.x.R ≤ 1 ∨ p.x.C ≤ 1) :
    Calls Tryd.prog 24 #[.slice A 3 cap] w fun e w' => ResA w (placeO (justN p.x.l v)) e w' := by
  obtain ⟨b, off, rfl, hbl, ⟨u0, u1, u2⟩, ⟨v0, v1, v2⟩, ⟨t0, t1, t2⟩, ha, hp, hq⟩ := args3 h
  have hcap := h.cap
  have hso := fun W (hT : Tab W) (hW : ArrIn W a.A a.n a.cap a.x.l) => sought_any a.x.R a.x.C a.A a.n a.cap a.x.l W hT hW v hv
  rw [soughtO_self h0 h4] at hso
  have hw := fun W (hW : ArrIn W q.A q.n q.cap q.x.l) => whole_any q.x.R q.x.C q.A q.n q.cap q.x.l W hW u hu hur _ hk
  have hf := fun W (hW : ArrIn W p.A p.n p.cap p.x.l) => just_any p.A p.n p.cap p.x.l v W hW hvr.ok
  have hrg := justN_range p.x.l v
  have hlen : p.x.l.length ≤ 4096 := by
    have := rightA_nat.1 hp.right
    omega
  generalize justN p.x.l v = t at *
  have hpa := hp.arr
  have haa := ha.arr
  have hqa := hq.arr
  have HT := Lib.hid htab
  obtain ⟨⟨R, C, l⟩, A1, n1, cap1⟩ := a
  obtain ⟨⟨R2, C2, l2⟩, A2, n2, cap2⟩ := p
  obtain ⟨⟨R3, C3, l3⟩, A3, n3, cap3⟩ := q
  obtain ⟨vk, vm, ve, vt, vb, vf⟩ := v
  simp only at u0 u1 u2 v0 v1 v2 t0 t1 t2 hso hw hf hpa haa hqa hl hlen hrg
  clear h hv hvr h0 h4 hu hur hk ha hp hq htab
  have hz : ¬ (1 < R2 ∧ 1 < C2) := by omega
  by_cases ht : t < 0
  · have hx : placeO t = aloneO 6 := by unfold placeO; rw [if_pos ht]
    rw [hx]
    clear hx hrg
    go_enter Tryd.func24, Tryd.ntmps24
    go_wp2_with (first | (go_at_call 36; (with_reducible refine (hso _ (HT.out.ext (by with_reducible repeat (first | exact Ext.refl _ | apply Ext.drew | apply Ext.alloc | apply Ext.more_))) (haa.ext (by with_reducible repeat (first | exact Ext.refl _ | apply Ext.drew | apply Ext.alloc | apply Ext.more_)))).mono ?_); rintro e w' ⟨rfl, hb⟩; obtain ⟨os0, d0, rfl⟩ := hb.more; clear hb) | (go_at_call 34; (with_reducible refine (hw _ (hqa.ext (by with_reducible repeat (first | exact Ext.refl _ | apply Ext.drew | apply Ext.alloc | apply Ext.more_)))).mono ?_); rintro e w' ⟨rfl, hb⟩; obtain ⟨os1, d1, rfl⟩ := hb.more; clear hb) | (go_at_call 37; (with_reducible refine (hf _ (hpa.ext (by with_reducible repeat (first | exact Ext.refl _ | apply Ext.drew | apply Ext.alloc | apply Ext.more_)))).mono ?_); rintro e w' ⟨rfl, hb⟩; obtain ⟨os, d, rfl⟩ := hb.more; clear hb) | (go_at_call 18; (with_reducible refine (alone_any _ _).mono ?_); rintro e w' ⟨D, m, cc, rfl, hD, hb⟩; obtain ⟨os5, d5, rfl⟩ := hb.more; clear hb; have hDr := hD.rd))
    all_goals exact bodyPost_ret (v := AV (aloneO 6).R (aloneO 6).C (.slice D m cc)) (by simp [results, Tryd.results24, go_sem]) rfl ⟨D, m, cc, rfl, ⟨(by (try simp only [more_more] at hDr); (try simp only [drew_more] at hDr); (try simp only [more_drew] at hDr); (try simp only [Array.append_assoc] at hDr); exact Rd.swap hDr (by first | (simp; done) | (simp; omega) | omega) (by first | (simp; done) | (simp; omega) | omega) (by first | (simp; done) | (simp; omega) | omega)), hD.len, hD.cap, hD.small, hD.ok⟩, by with_reducible repeat (first | exact Ext.refl _ | apply Ext.drew | apply Ext.alloc | apply Ext.more_)⟩
  · have hx : placeO t = oneA (cntV (t + 1)) := by unfold placeO; rw [if_neg ht]
    have hT15 : (t + 1).natAbs < T 15 := by have : T 15 = 1000000000000000 := (by decide); omega
    have hc := fun W (hW : Tab W) => fcount_any (t + 1) W hW hT15
    have hcr := cnt_right hT15
    have hw1 : IntKind.i64.wrap (t + 1) = t + 1 := by rw [IntKind.wrap_i64]; omega
    have hon := fun W => one_res (cntV (t + 1)) W hcr.ok hcr
    rw [hx]
    clear hx hrg hT15 hcr
    generalize cntV (t + 1) = y at *
    go_enter Tryd.func24, Tryd.ntmps24
    go_wp2_with (first | (go_at_call 36; (with_reducible refine (hso _ (HT.out.ext (by with_reducible repeat (first | exact Ext.refl _ | apply Ext.drew | apply Ext.alloc | apply Ext.more_))) (haa.ext (by with_reducible repeat (first | exact Ext.refl _ | apply Ext.drew | apply Ext.alloc | apply Ext.more_)))).mono ?_); rintro e w' ⟨rfl, hb⟩; obtain ⟨os0, d0, rfl⟩ := hb.more; clear hb) | (go_at_call 34; (with_reducible refine (hw _ (hqa.ext (by with_reducible repeat (first | exact Ext.refl _ | apply Ext.drew | apply Ext.alloc | apply Ext.more_)))).mono ?_); rintro e w' ⟨rfl, hb⟩; obtain ⟨os1, d1, rfl⟩ := hb.more; clear hb) | (go_at_call 37; (with_reducible refine (hf _ (hpa.ext (by with_reducible repeat (first | exact Ext.refl _ | apply Ext.drew | apply Ext.alloc | apply Ext.more_)))).mono ?_); rintro e w' ⟨rfl, hb⟩; obtain ⟨os, d, rfl⟩ := hb.more; clear hb) | (go_at_call 40; (with_reducible refine (hc _ (HT.out.ext (by with_reducible repeat (first | exact Ext.refl _ | apply Ext.drew | apply Ext.alloc | apply Ext.more_)))).mono ?_); rintro e w' ⟨rfl, hb⟩; obtain ⟨os4, d4, rfl⟩ := hb.more; clear hb) | (go_at_call 28; (with_reducible refine (hon _).mono ?_); rintro e w' ⟨D, m, cc, rfl, hD, hb⟩; obtain ⟨os5, d5, rfl⟩ := hb.more; clear hb; have hDr := hD.rd))
    all_goals exact bodyPost_ret (v := AV (oneA y).R (oneA y).C (.slice D m cc)) (by simp [results, Tryd.results24, go_sem]) rfl ⟨D, m, cc, rfl, ⟨(by (try simp only [more_more] at hDr); (try simp only [drew_more] at hDr); (try simp only [more_drew] at hDr); (try simp only [Array.append_assoc] at hDr); exact Rd.swap hDr (by first | (simp; done) | (simp; omega) | omega) (by first | (simp; done) | (simp; omega) | omega) (by first | (simp; done) | (simp; omega) | omega)), hD.len, hD.cap, hD.small, hD.ok⟩, by with_reducible repeat (first | exact Ext.refl _ | apply Ext.drew | apply Ext.alloc | apply Ext.more_)⟩
set_option maxHeartbeats 1000000 in
theorem match3_upTo (A : Option Addr) (cap : Nat) (a p q : Ar) (v u : Val) (w : World) (htab : Tab w) (h : ArgsIn w A 3 cap [a, p, q]) (hv : a.x.l[0]? = some v) (hvr : v.right) (h0 : v.kind ≠ 0) (h4 : v.kind ≠ 4)
    (hu : q.x.l[0]? = some u) (hur : u.right) (hk : wholeO u = (1, 0)) (hl : p.x.R ≤ 1 ∨ p.x.C ≤ 1) :
    Calls Tryd.prog 24 #[.slice A 3 cap] w fun e w' => ResA w (placeO (upToN p.x.l v)) e w' := by
  obtain ⟨b, off, rfl, hbl, ⟨u0, u1, u2⟩, ⟨v0, v1, v2⟩, ⟨t0, t1, t2⟩, ha, hp, hq⟩ := args3 h
  have hcap := h.cap
  have hso := fun W (hT : Tab W) (hW : ArrIn W a.A a.n a.cap a.x.l) => sought_any a.x.R a.x.C a.A a.n a.cap a.x.l W hT hW v hv
  rw [soughtO_self h0 h4] at hso
  have hw := fun W (hW : ArrIn W q.A q.n q.cap q.x.l) => whole_any q.x.R q.x.C q.A q.n q.cap q.x.l W hW u hu hur _ hk
  have hf := fun W (hW : ArrIn W p.A p.n p.cap p.x.l) => upTo_any p.A p.n p.cap p.x.l v W hW hvr.ok
  have hrg := upToN_range p.x.l v
  have hlen : p.x.l.length ≤ 4096 := by
    have := rightA_nat.1 hp.right
    omega
  generalize upToN p.x.l v = t at *
  have hpa := hp.arr
  have haa := ha.arr
  have hqa := hq.arr
  have HT := Lib.hid htab
  obtain ⟨⟨R, C, l⟩, A1, n1, cap1⟩ := a
  obtain ⟨⟨R2, C2, l2⟩, A2, n2, cap2⟩ := p
  obtain ⟨⟨R3, C3, l3⟩, A3, n3, cap3⟩ := q
  obtain ⟨vk, vm, ve, vt, vb, vf⟩ := v
  simp only at u0 u1 u2 v0 v1 v2 t0 t1 t2 hso hw hf hpa haa hqa hl hlen hrg
  clear h hv hvr h0 h4 hu hur hk ha hp hq htab
  have hz : ¬ (1 < R2 ∧ 1 < C2) := by omega
  by_cases ht : t < 0
  · have hx : placeO t = aloneO 6 := by unfold placeO; rw [if_pos ht]
    rw [hx]
    clear hx hrg
    go_enter Tryd.func24, Tryd.ntmps24
    go_wp2_with (first | (go_at_call 36; (with_reducible refine (hso _ (HT.out.ext (by with_reducible repeat (first | exact Ext.refl _ | apply Ext.drew | apply Ext.alloc | apply Ext.more_))) (haa.ext (by with_reducible repeat (first | exact Ext.refl _ | apply Ext.drew | apply Ext.alloc | apply Ext.more_)))).mono ?_); rintro e w' ⟨rfl, hb⟩; obtain ⟨os0, d0, rfl⟩ := hb.more; clear hb) | (go_at_call 34; (with_reducible refine (hw _ (hqa.ext (by with_reducible repeat (first | exact Ext.refl _ | apply Ext.drew | apply Ext.alloc | apply Ext.more_)))).mono ?_); rintro e w' ⟨rfl, hb⟩; obtain ⟨os1, d1, rfl⟩ := hb.more; clear hb) | (go_at_call 38; (with_reducible refine (hf _ (hpa.ext (by with_reducible repeat (first | exact Ext.refl _ | apply Ext.drew | apply Ext.alloc | apply Ext.more_)))).mono ?_); rintro e w' ⟨rfl, hb⟩; obtain ⟨os, d, rfl⟩ := hb.more; clear hb) | (go_at_call 18; (with_reducible refine (alone_any _ _).mono ?_); rintro e w' ⟨D, m, cc, rfl, hD, hb⟩; obtain ⟨os5, d5, rfl⟩ := hb.more; clear hb; have hDr := hD.rd))
    all_goals exact bodyPost_ret (v := AV (aloneO 6).R (aloneO 6).C (.slice D m cc)) (by simp [results, Tryd.results24, go_sem]) rfl ⟨D, m, cc, rfl, ⟨(by (try simp only [more_more] at hDr); (try simp only [drew_more] at hDr); (try simp only [more_drew] at hDr); (try simp only [Array.append_assoc] at hDr); exact Rd.swap hDr (by first | (simp; done) | (simp; omega) | omega) (by first | (simp; done) | (simp; omega) | omega) (by first | (simp; done) | (simp; omega) | omega)), hD.len, hD.cap, hD.small, hD.ok⟩, by with_reducible repeat (first | exact Ext.refl _ | apply Ext.drew | apply Ext.alloc | apply Ext.more_)⟩
  · have hx : placeO t = oneA (cntV (t + 1)) := by unfold placeO; rw [if_neg ht]
    have hT15 : (t + 1).natAbs < T 15 := by have : T 15 = 1000000000000000 := (by decide); omega
    have hc := fun W (hW : Tab W) => fcount_any (t + 1) W hW hT15
    have hcr := cnt_right hT15
    have hw1 : IntKind.i64.wrap (t + 1) = t + 1 := by rw [IntKind.wrap_i64]; omega
    have hon := fun W => one_res (cntV (t + 1)) W hcr.ok hcr
    rw [hx]
    clear hx hrg hT15 hcr
    generalize cntV (t + 1) = y at *
    go_enter Tryd.func24, Tryd.ntmps24
    go_wp2_with (first | (go_at_call 36; (with_reducible refine (hso _ (HT.out.ext (by with_reducible repeat (first | exact Ext.refl _ | apply Ext.drew | apply Ext.alloc | apply Ext.more_))) (haa.ext (by with_reducible repeat (first | exact Ext.refl _ | apply Ext.drew | apply Ext.alloc | apply Ext.more_)))).mono ?_); rintro e w' ⟨rfl, hb⟩; obtain ⟨os0, d0, rfl⟩ := hb.more; clear hb) | (go_at_call 34; (with_reducible refine (hw _ (hqa.ext (by with_reducible repeat (first | exact Ext.refl _ | apply Ext.drew | apply Ext.alloc | apply Ext.more_)))).mono ?_); rintro e w' ⟨rfl, hb⟩; obtain ⟨os1, d1, rfl⟩ := hb.more; clear hb) | (go_at_call 38; (with_reducible refine (hf _ (hpa.ext (by with_reducible repeat (first | exact Ext.refl _ | apply Ext.drew | apply Ext.alloc | apply Ext.more_)))).mono ?_); rintro e w' ⟨rfl, hb⟩; obtain ⟨os, d, rfl⟩ := hb.more; clear hb) | (go_at_call 40; (with_reducible refine (hc _ (HT.out.ext (by with_reducible repeat (first | exact Ext.refl _ | apply Ext.drew | apply Ext.alloc | apply Ext.more_)))).mono ?_); rintro e w' ⟨rfl, hb⟩; obtain ⟨os4, d4, rfl⟩ := hb.more; clear hb) | (go_at_call 28; (with_reducible refine (hon _).mono ?_); rintro e w' ⟨D, m, cc, rfl, hD, hb⟩; obtain ⟨os5, d5, rfl⟩ := hb.more; clear hb; have hDr := hD.rd))
    all_goals exact bodyPost_ret (v := AV (oneA y).R (oneA y).C (.slice D m cc)) (by simp [results, Tryd.results24, go_sem]) rfl ⟨D, m, cc, rfl, ⟨(by (try simp only [more_more] at hDr); (try simp only [drew_more] at hDr); (try simp only [more_drew] at hDr); (try simp only [Array.append_assoc] at hDr); exact Rd.swap hDr (by first | (simp; done) | (simp; omega) | omega) (by first | (simp; done) | (simp; omega) | omega) (by first | (simp; done) | (simp; omega) | omega)), hD.len, hD.cap, hD.small, hD.ok⟩, by with_reducible repeat (first | exact Ext.refl _ | apply Ext.drew | apply Ext.alloc | apply Ext.more_)⟩
set_option maxHeartbeats 1000000 in
theorem match2_upTo (A : Option Addr) (cap : Nat) (a p : Ar) (v : Val) (w : World) (htab : Tab w) (h : ArgsIn w A 2 cap [a, p]) (hv : a.x.l[0]? = some v) (hvr : v.right) (h0 : v.kind ≠ 0) (h4 : v.kind ≠ 4)
    (hl : p.x.R ≤ 1 ∨ p.x.C ≤ 1) :
    Calls Tryd.prog 24 #[.slice A 2 cap] w fun e w' => ResA w (placeO (upToN p.x.l v)) e w' := by
  obtain ⟨b, off, rfl, hbl, ⟨u0, u1, u2⟩, ⟨v0, v1, v2⟩, ha, hp⟩ := args2 h
  have hcap := h.cap
  have hso := fun W (hT : Tab W) (hW : ArrIn W a.A a.n a.cap a.x.l) => sought_any a.x.R a.x.C a.A a.n a.cap a.x.l W hT hW v hv
  rw [soughtO_self h0 h4] at hso
  have hf := fun W (hW : ArrIn W p.A p.n p.cap p.x.l) => upTo_any p.A p.n p.cap p.x.l v W hW hvr.ok
  have hrg := upToN_range p.x.l v
  have hlen : p.x.l.length ≤ 4096 := by
    have := rightA_nat.1 hp.right
    omega
  generalize upToN p.x.l v = t at *
  have hpa := hp.arr
  have haa := ha.arr
  have HT := Lib.hid htab
  obtain ⟨⟨R, C, l⟩, A1, n1, cap1⟩ := a
  obtain ⟨⟨R2, C2, l2⟩, A2, n2, cap2⟩ := p
  obtain ⟨vk, vm, ve, vt, vb, vf⟩ := v
  simp only at u0 u1 u2 v0 v1 v2 hso hf hpa haa hl hlen hrg
  clear h hv hvr h0 h4 ha hp htab
  have hz : ¬ (1 < R2 ∧ 1 < C2) := by omega
  by_cases ht : t < 0
  · have hx : placeO t = aloneO 6 := by unfold placeO; rw [if_pos ht]
    rw [hx]
    clear hx hrg
    go_enter Tryd.func24, Tryd.ntmps24
    go_wp2_with (first | (go_at_call 36; (with_reducible refine (hso _ (HT.out.ext (by with_reducible repeat (first | exact Ext.refl _ | apply Ext.drew | apply Ext.alloc | apply Ext.more_))) (haa.ext (by with_reducible repeat (first | exact Ext.refl _ | apply Ext.drew | apply Ext.alloc | apply Ext.more_)))).mono ?_); rintro e w' ⟨rfl, hb⟩; obtain ⟨os0, d0, rfl⟩ := hb.more; clear hb) | (go_at_call 38; (with_reducible refine (hf _ (hpa.ext (by with_reducible repeat (first | exact Ext.refl _ | apply Ext.drew | apply Ext.alloc | apply Ext.more_)))).mono ?_); rintro e w' ⟨rfl, hb⟩; obtain ⟨os, d, rfl⟩ := hb.more; clear hb) | (go_at_call 18; (with_reducible refine (alone_any _ _).mono ?_); rintro e w' ⟨D, m, cc, rfl, hD, hb⟩; obtain ⟨os5, d5, rfl⟩ := hb.more; clear hb; have hDr := hD.rd))
    all_goals exact bodyPost_ret (v := AV (aloneO 6).R (aloneO 6).C (.slice D m cc)) (by simp [results, Tryd.results24, go_sem]) rfl ⟨D, m, cc, rfl, ⟨(by (try simp only [more_more] at hDr); (try simp only [drew_more] at hDr); (try simp only [more_drew] at hDr); (try simp only [Array.append_assoc] at hDr); exact Rd.swap hDr (by first | (simp; done) | (simp; omega) | omega) (by first | (simp; done) | (simp; omega) | omega) (by first | (simp; done) | (simp; omega) | omega)), hD.len, hD.cap, hD.small, hD.ok⟩, by with_reducible repeat (first | exact Ext.refl _ | apply Ext.drew | apply Ext.alloc | apply Ext.more_)⟩
  · have hx : placeO t = oneA (cntV (t + 1)) := by unfold placeO; rw [if_neg ht]
    have hT15 : (t + 1).natAbs < T 15 := by have : T 15 = 1000000000000000 := (by decide); omega
    have hc := fun W (hW : Tab W) => fcount_any (t + 1) W hW hT15
    have hcr := cnt_right hT15
    have hw1 : IntKind.i64.wrap (t + 1) = t + 1 := by rw [IntKind.wrap_i64]; omega
    have hon := fun W => one_res (cntV (t + 1)) W hcr.ok hcr
    rw [hx]
    clear hx hrg hT15 hcr
    generalize cntV (t + 1) = y at *
    go_enter Tryd.func24, Tryd.ntmps24
    go_wp2_with (first | (go_at_call 36; (with_reducible refine (hso _ (HT.out.ext (by with_reducible repeat (first | exact Ext.refl _ | apply Ext.drew | apply Ext.alloc | apply Ext.more_))) (haa.ext (by with_reducible repeat (first | exact Ext.refl _ | apply Ext.drew | apply Ext.alloc | apply Ext.more_)))).mono ?_); rintro e w' ⟨rfl, hb⟩; obtain ⟨os0, d0, rfl⟩ := hb.more; clear hb) | (go_at_call 38; (with_reducible refine (hf _ (hpa.ext (by with_reducible repeat (first | exact Ext.refl _ | apply Ext.drew | apply Ext.alloc | apply Ext.more_)))).mono ?_); rintro e w' ⟨rfl, hb⟩; obtain ⟨os, d, rfl⟩ := hb.more; clear hb) | (go_at_call 40; (with_reducible refine (hc _ (HT.out.ext (by with_reducible repeat (first | exact Ext.refl _ | apply Ext.drew | apply Ext.alloc | apply Ext.more_)))).mono ?_); rintro e w' ⟨rfl, hb⟩; obtain ⟨os4, d4, rfl⟩ := hb.more; clear hb) | (go_at_call 28; (with_reducible refine (hon _).mono ?_); rintro e w' ⟨D, m, cc, rfl, hD, hb⟩; obtain ⟨os5, d5, rfl⟩ := hb.more; clear hb; have hDr := hD.rd))
    all_goals exact bodyPost_ret (v := AV (oneA y).R (oneA y).C (.slice D m cc)) (by simp [results, Tryd.results24, go_sem]) rfl ⟨D, m, cc, rfl, ⟨(by (try simp only [more_more] at hDr); (try simp only [drew_more] at hDr); (try simp only [more_drew] at hDr); (try simp only [Array.append_assoc] at hDr); exact Rd.swap hDr (by first | (simp; done) | (simp; omega) | omega) (by first | (simp; done) | (simp; omega) | omega) (by first | (simp; done) | (simp; omega) | omega)), hD.len, hD.cap, hD.small, hD.ok⟩, by with_reducible repeat (first | exact Ext.refl _ | apply Ext.drew | apply Ext.alloc | apply Ext.more_)⟩
end Go.Proofs.YtljgagjipamdeaaDoor
namespace Go.Proofs.YtljgagjipamdeaaDoor
open Go.RowKit NM
/-- A value's truth, and a fault. -/
def truthO (v : Val) : Bool × Int :=
  if v.kind = 1 then (decide (v.mant ≠ 0), 0)
  else if v.kind = 2 then (if (foldB v.text).toList == [84, 82, 85, 69] then (true, 0) else if (foldB v.text).toList == [70, 65, 76, 83, 69] then (false, 0) else (false, 2))
  else if v.kind = 3 then (v.truth, 0)
  else if v.kind = 4 then (false, v.fault)
  else (false, 0)
abbrev bfV (p : Bool × Int) : Value := .tuple #[.bool p.1, .int .i64 p.2]
set_option maxHeartbeats 1000000 in
theorem toTruth_any (v : Val) (w : World) (hv : v.right) :
    Calls Tryd.prog 43 #[VV v.kind v.mant v.exp v.text v.truth v.fault] w fun e w' => e = .returned (bfV (truthO v)) ∧ Ext w w' := by
  rcases hv.form with rfl | ⟨m, e, rfl, hr⟩ | ⟨t, rfl, ht⟩ | ⟨x, rfl⟩ | ⟨f, rfl, hf⟩
  · show Calls Tryd.prog 43 #[VV 0 0 0 ⟨#[]⟩ false 0] w fun e w' => e = .returned (.tuple #[.bool false, .int .i64 0]) ∧ Ext w w'
    go_enter Tryd.func43, Tryd.ntmps43
    go_wp2
    exact bodyPost_ret (v := .tuple #[.bool false, .int .i64 0]) (by simp [results, Tryd.results43, go_sem]) rfl ⟨rfl, by with_reducible repeat (first | exact Ext.refl _ | apply Ext.drew | apply Ext.alloc | apply Ext.more_)⟩
  · show Calls Tryd.prog 43 #[VV 1 m e ⟨#[]⟩ false 0] w fun e w' => e = .returned (.tuple #[.bool (decide (m ≠ 0)), .int .i64 0]) ∧ Ext w w'
    clear hr hv
    by_cases hm : m = 0
    · subst hm
      go_enter Tryd.func43, Tryd.ntmps43
      go_wp2
      exact bodyPost_ret (v := .tuple #[.bool false, .int .i64 0]) (by simp [results, Tryd.results43, go_sem]) rfl ⟨rfl, by with_reducible repeat (first | exact Ext.refl _ | apply Ext.drew | apply Ext.alloc | apply Ext.more_)⟩
    · rw [decide_eq_true hm]
      have hm' : (m != 0) = true := by simpa using hm
      go_enter Tryd.func43, Tryd.ntmps43
      go_wp2
      exact bodyPost_ret (v := .tuple #[.bool true, .int .i64 0]) (by simp [results, Tryd.results43, go_sem]) rfl ⟨rfl, by with_reducible repeat (first | exact Ext.refl _ | apply Ext.drew | apply Ext.alloc | apply Ext.more_)⟩
  · have hF := fun W => fold_any t W (by omega)
    have hT : truthO ⟨2, 0, 0, t, false, 0⟩ = if (foldB t).toList == [84, 82, 85, 69] then (true, 0) else if (foldB t).toList == [70, 65, 76, 83, 69] then (false, 0) else (false, 2) := rfl
    rw [hT]
    show Calls Tryd.prog 43 #[VV 2 0 0 t false 0] w _
    clear hT ht hv
    generalize foldB t = X at *
    cases h1 : X.toList == [84, 82, 85, 69] with
    | true =>
      rw [if_pos rfl]
      go_enter Tryd.func43, Tryd.ntmps43
      go_wp2_with (go_at_call 63; (with_reducible refine (hF _).mono ?_); rintro e w' ⟨rfl, hb⟩; obtain ⟨os, d, rfl⟩ := hb.more; clear hb)
      exact bodyPost_ret (v := .tuple #[.bool true, .int .i64 0]) (by simp [results, Tryd.results43, go_sem]) rfl ⟨rfl, by with_reducible repeat (first | exact Ext.refl _ | apply Ext.drew | apply Ext.alloc | apply Ext.more_)⟩
    | false =>
      rw [if_neg (by simp)]
      cases h2 : X.toList == [70, 65, 76, 83, 69] with
      | true =>
        rw [if_pos rfl]
        go_enter Tryd.func43, Tryd.ntmps43
        go_wp2_with (go_at_call 63; (with_reducible refine (hF _).mono ?_); rintro e w' ⟨rfl, hb⟩; obtain ⟨os, d, rfl⟩ := hb.more; clear hb)
        exact bodyPost_ret (v := .tuple #[.bool false, .int .i64 0]) (by simp [results, Tryd.results43, go_sem]) rfl ⟨rfl, by with_reducible repeat (first | exact Ext.refl _ | apply Ext.drew | apply Ext.alloc | apply Ext.more_)⟩
      | false =>
        rw [if_neg (by simp)]
        go_enter Tryd.func43, Tryd.ntmps43
        go_wp2_with (go_at_call 63; (with_reducible refine (hF _).mono ?_); rintro e w' ⟨rfl, hb⟩; obtain ⟨os, d, rfl⟩ := hb.more; clear hb)
        exact bodyPost_ret (v := .tuple #[.bool false, .int .i64 2]) (by simp [results, Tryd.results43, go_sem]) rfl ⟨rfl, by with_reducible repeat (first | exact Ext.refl _ | apply Ext.drew | apply Ext.alloc | apply Ext.more_)⟩
  · show Calls Tryd.prog 43 #[VV 3 0 0 ⟨#[]⟩ x 0] w fun e w' => e = .returned (.tuple #[.bool x, .int .i64 0]) ∧ Ext w w'
    go_enter Tryd.func43, Tryd.ntmps43
    go_wp2
    exact bodyPost_ret (v := .tuple #[.bool x, .int .i64 0]) (by simp [results, Tryd.results43, go_sem]) rfl ⟨rfl, by with_reducible repeat (first | exact Ext.refl _ | apply Ext.drew | apply Ext.alloc | apply Ext.more_)⟩
  · show Calls Tryd.prog 43 #[VV 4 0 0 ⟨#[]⟩ false f] w fun e w' => e = .returned (.tuple #[.bool false, .int .i64 f]) ∧ Ext w w'
    go_enter Tryd.func43, Tryd.ntmps43
    go_upto_region 14 with fail
    go_region
    all_goals
      go_wp2
      exact bodyPost_ret (v := .tuple #[.bool false, .int .i64 f]) (by simp [results, Tryd.results43, go_sem]) rfl ⟨rfl, by with_reducible repeat (first | exact Ext.refl _ | apply Ext.drew | apply Ext.alloc | apply Ext.more_)⟩
end Go.Proofs.YtljgagjipamdeaaDoor
namespace Go.Proofs.YtljgagjipamdeaaDoor
open Go.RowKit
theorem turn_at (R C : Nat) (l : List Val) {i j : Nat} (hi : i < C) (hj : j < R) : getV (turnL R C l) (i * R + j) = getV l (j * C + i) := getV_vals _ hi hj
theorem turnL_length (R C : Nat) (l : List Val) : (turnL R C l).length = C * R := vals_length _ _ _
theorem getV_all {P : Val → Prop} {l : List Val} {k : Nat} (h : ∀ x ∈ l, P x) (hk : k < l.length) : P (getV l k) := h _ (getV_mem hk)
theorem turn_all {P : Val → Prop} {R C : Nat} {l : List Val} (hl : l.length = R * C) (h : ∀ x ∈ l, P x) : ∀ x ∈ turnL R C l, P x := by
  intro x hx
  unfold turnL vals at hx
  obtain ⟨t, ht, rfl⟩ := List.mem_map.1 hx
  have ht' : t < C * R := List.mem_range.1 ht
  have hR : 0 < R := by rcases Nat.eq_zero_or_pos R with rfl | h; · simp at ht'
                        · exact h
  refine getV_all h ?_
  rw [hl]
  have h1 : t / R < C := Nat.div_lt_of_lt_mul (by rw [Nat.mul_comm]; exact ht')
  have h2 : t % R < R := Nat.mod_lt _ hR
  calc t % R * C + t / R < t % R * C + C := by omega
    _ = (t % R + 1) * C := by rw [Nat.succ_mul]
    _ ≤ R * C := Nat.mul_le_mul_right _ h2
theorem turn_right {R C : Nat} {l : List Val} (h : rightA R C l = true) : rightA C R (turnL R C l) = true := by
  obtain ⟨a1, a2, a3, a4, a5⟩ := rightA_nat.1 h
  exact rightA_nat.2 ⟨a2, a1, by rw [Nat.mul_comm]; exact a3, turnL_length _ _ _, turn_all a4 a5⟩
end Go.Proofs.YtljgagjipamdeaaDoor
namespace Go.Proofs.YtljgagjipamdeaaDoor
open Go.RowKit
theorem wp_append_own {P : Program} (w : World) {o : Oper} {a : Act} {K : Act → World → Prop} {Q : Exit → Act → World → Prop} (s x : Operand) (t : TypeId)
    (ho : o.op = .call { callee := .builtin .append, args := #[s, x], argTypes := #[t, t] })
    (base : Nat) (e : TypeId) (i : TypeInfo) (z : Value) (size bytes : Nat) (ht : P.underlying t = some (.slice e)) (hi : P.info? e = some i) (hz : i.zero = some z)
    (hsize : i.size = size) (hby : i.bytes = bytes) (hzs : z.cells.size = size) (hsz : 0 < size)
    (v : Value) (n : Nat) (xs : List Value) (hs : a.eval s = v) (hown : w.ownsRow base e size v n xs)
    (ad : Addr) (m c : Nat) (news : List Value) (hx : a.eval x = .slice (some ad) m c) (hl : news.length = m * size) (hnews : ∀ j u, news[j]? = some u → w.cell? (ad.add j) = some u) (h1 : ∀ u ∈ news, u.oneCell' = true)
    (b1 : n + m ≤ maxLen) (b2 : (n + m) * bytes ≤ 140737488355328) (hbase : base ≤ w.heap.size)
    (h : ∀ v' w', w'.ownsRow base e size v' (n + m) (xs ++ news) → w.grownBy w' v.ownBlock → K (a.put o.dst v') w') : o.wp P a w K Q := by
  obtain ⟨v', w', hr, h2, h3, _⟩ := run_append_own (P := P) w base t o.type e i z size bytes ht hi hz hsize hby hzs hsz v n xs hown ad m c news hl hnews h1 b1 b2 hbase
  unfold Oper.wp execOp
  simp only [ho, resolve, invoke, builtin, Sem.run_bind, Sem.run_pure, Result.andThen_ok, List.map_toArray, List.map_cons, List.map_nil, hs, hx, hr]
  exact h v' w' h2 h3
theorem new_cells_at (w : World) (n : Nat) (cs : List Value) {C : Array Value} (hn : n = w.heap.size) (hC : C = cs.toArray) (ty : TypeId) : ∀ j u, cs[j]? = some u → (w.alloc (.cells C ty)).cell? ((⟨n, 0, none⟩ : Addr).add j) = some u := by
  subst hn hC; exact new_cells w cs ty
theorem own_slice {w : World} {base : Nat} {e : TypeId} {size n : Nat} {v : Value} {xs : List Value} (h : w.ownsRow base e size v n xs) : ∃ A c, v = .slice A n c := by
  rcases h.2 with ⟨rfl, rfl⟩ | ⟨g, cap, cur, rfl, _⟩
  · exact ⟨_, _, rfl⟩
  · exact ⟨_, _, rfl⟩
theorem own_ext {w w1 : World} {base : Nat} {e : TypeId} {size n : Nat} {v : Value} {xs : List Value} (h : w.ownsRow base e size v n xs) (hx : Ext w w1) : w1.ownsRow base e size v n xs := by
  refine ⟨h.1, ?_⟩
  rcases h.2 with h2 | ⟨g, cap, cur, hv, hg, hh, r⟩
  · exact .inl h2
  · refine .inr ⟨g, cap, cur, hv, hg, ?_, r⟩
    rw [hx.block ?_]; exact hh
    rcases Nat.lt_or_ge g w.heap.size with hl | hl
    · exact hl
    · rw [Array.getElem?_eq_none hl] at hh; cases hh
theorem own_block {w : World} {base : Nat} {e : TypeId} {size n : Nat} {v : Value} {xs : List Value} (h : w.ownsRow base e size v n xs) : ∀ k, v.ownBlock = some k → base ≤ k := by
  intro k hk
  rcases h.2 with ⟨rfl, _⟩ | ⟨g, cap, cur, rfl, hg, _⟩
  · cases hk
  · simp only [Value.ownBlock, Option.some.injEq] at hk; omega
/-- An array's variable (block s0) whose list has been put together by append: k values so far. -/
structure Acc (w0 : World) (s0 : Nat) (r c : Int) (A : Option Addr) (cap k : Nat) (l : List Val) (wr : World) : Prop where
  ext : Ext w0 wr
  hi : w0.heap.size ≤ s0
  row : wr.heap[s0]? = some (.cells #[.int .i64 r, .int .i64 c, .slice A k cap] 24)
  own : wr.ownsRow (s0 + 1) 28 6 (.slice A k cap) k (vcells l)
theorem lt_of_block {w : World} {b : Nat} {o : Obj} (h : w.heap[b]? = some o) : b < w.heap.size := by
  rcases Nat.lt_or_ge b w.heap.size with hl | hl
  · exact hl
  · rw [Array.getElem?_eq_none hl] at h; cases h
/-- What reads need of it. -/
def AccS (w0 : World) (s0 : Nat) (r c : Int) (A : Option Addr) (cap k : Nat) (W : World) : Prop := Ext w0 W ∧ W.heap[s0]? = some (.cells #[.int .i64 r, .int .i64 c, .slice A k cap] 24)
section
variable {w0 : World} {s0 : Nat} {r c : Int} {A : Option Addr} {cap k : Nat} {l : List Val} {wr : World}
theorem Acc.lt (h : Acc w0 s0 r c A cap k l wr) : s0 < wr.heap.size := lt_of_block h.row
theorem Acc.of_ext (h : Acc w0 s0 r c A cap k l wr) {w1 : World} (hx : Ext wr w1) : Acc w0 s0 r c A cap k l w1 :=
  ⟨h.ext.trans hx, h.hi, by rw [hx.block h.lt]; exact h.row, own_ext h.own hx⟩
theorem Acc.start (w0 : World) (r c : Int) : Acc w0 w0.heap.size r c none 0 0 [] (w0.alloc (.cells #[.int .i64 r, .int .i64 c, .slice none 0 0] 24)) :=
  ⟨(Ext.refl _).alloc _, Nat.le_refl _, heap_alloc_new _ _, World.ownsRow_nil _ _ _ _⟩
theorem Acc.rd (h : Acc w0 s0 r c A cap k l wr) : SlV (s0 + 1) wr A l ∧ k ≤ cap := by
  obtain ⟨A', c', e, hr, hc⟩ := Rd.of_own h.own
  simp only [Value.slice.injEq, true_and] at e
  obtain ⟨rfl, rfl⟩ := e
  exact ⟨hr, hc⟩
theorem Acc.step (h : Acc w0 s0 r c A cap k l wr) {x : Val} {v' : Value} {w1 w3 : World} {ty : TypeId} (hx : Ext wr w1)
    (hg : (w1.alloc (.cells x.cells.toArray ty)).grownBy w3 (Value.slice A k cap).ownBlock) (ho : w3.ownsRow (s0 + 1) 28 6 v' (k + 1) (vcells l ++ x.cells)) :
    ∃ A' cap', v' = .slice A' (k + 1) cap' ∧ w3.heap[s0]? = some (.cells #[.int .i64 r, .int .i64 c, .slice A k cap] 24) ∧ Ext w0 w3 ∧ Acc w0 s0 r c A' cap' (k + 1) (l ++ [x]) (w3.setCell ⟨s0, 2, none⟩ v') := by
  obtain ⟨A', cap', rfl⟩ := own_slice ho
  have h1 := h.of_ext hx
  have hlt := h1.lt
  have hnb : some s0 ≠ (Value.slice A k cap).ownBlock := fun e => by have := own_block h.own _ e.symm; omega
  have hrow : w3.heap[s0]? = some (.cells #[.int .i64 r, .int .i64 c, .slice A k cap] 24) := by
    rw [hg.block _ (by simp; omega) hnb, Below.heap_alloc _ _ _ hlt]; exact h1.row
  have hex : Ext w0 w3 := by
    have h2 : Ext w0 (w1.alloc (.cells x.cells.toArray ty)) := h1.ext.alloc _
    exact ⟨hg.os.trans h2.os, hg.tape.trans h2.tape, hg.output.trans h2.output, Nat.le_trans h2.size hg.size, fun b hb => (hg.block b (Nat.lt_of_lt_of_le hb h2.size) (fun e => by have := own_block h.own _ e.symm; have := h.hi; omega)).trans (h2.block hb)⟩
  refine ⟨A', cap', rfl, hrow, hex, Ext.set hex _ h.hi, h.hi, ?_, ?_⟩
  · simp [World.setCell, Array.getElem?_modify, hrow]
  · have : vcells (l ++ [x]) = vcells l ++ x.cells := by simp [vcells]
    rw [this]
    refine ho.kept (row := some s0) ⟨rfl, rfl, rfl, by simp [World.setCell], fun b hb hne => Below.heap_setCell _ _ _ _ (fun e => hne (by simp [e]))⟩ ?_
    right
    intro e
    have := own_block ho s0 e
    omega
end
set_option maxHeartbeats 400000 in
theorem refGet_any (R C i j : Nat) (A : Option Addr) (n cap : Nat) (l : List Val) (w : World) (h : ArrIn w A n cap l) (hn : n = R * C) (hN : n ≤ 4096) (hi : i < R) (hj : j < C) (x : Val) (hx : getV l (i * C + j) = x) :
    Calls Tryd.prog 16 #[AV R C (.slice A n cap), .int .i64 i, .int .i64 j] w fun e w' => e = .returned (VV x.kind x.mant x.exp x.text x.truth x.fault) ∧ Ext w w' := by
  subst hn
  obtain ⟨hk, hk2⟩ := cell_prod R hi hj hN
  obtain ⟨b, off, rfl, hv, ho⟩ := h.get hk
  rw [hx] at hv
  clear hx ho
  obtain ⟨v0, v1, v2, v3, v4, v5⟩ := hv
  have hbl : b < w.heap.size := lt_of_cell v0
  have w1 : IntKind.i64.wrap ((i : Int) * (C : Int)) = ((i * C : Nat) : Int) := by rw [IntKind.wrap_i64, Int.natCast_mul]; omega
  generalize hjc : i * C = jc at *
  generalize hrc : R * C = rc at *
  clear hjc hrc
  go_enter Tryd.func16, Tryd.ntmps16
  go_wp2
  exact bodyPost_ret (v := VV x.kind x.mant x.exp x.text x.truth x.fault) (by simp [results, Tryd.results16, go_sem]) rfl ⟨rfl, by repeat (first | exact Ext.refl _ | exact ext_app _ _ _ _ _ | exact ext_app2 _ _ _ _ _ _ | apply Ext.drew | apply Ext.alloc | apply Ext.more_)⟩
end Go.Proofs.YtljgagjipamdeaaDoor
namespace Go.Proofs.YtljgagjipamdeaaDoor
open Go.RowKit
set_option maxHeartbeats 800000 in
theorem refTurn_any (R C : Nat) (A : Option Addr) (n cap : Nat) (l : List Val) (w : World) (h : ArrIn w A n cap l) (hr1 : 1 ≤ R) (hc1 : 1 ≤ C) (hN : n ≤ 4096) (hn : n = R * C) :
    Calls Tryd.prog 8 #[AV R C (.slice A n cap)] w fun e w' => ArrO w.heap.size w' e C R (turnL R C l) ∧ Ext w w' := by
  obtain ⟨i0, hi0, hz0, hz1, hz2⟩ := info_parts info_val
  have hcr : C * R ≤ 4096 := by rw [Nat.mul_comm]; omega
  have b1 : R ≤ 4096 := by have : R * 1 ≤ R * C := Nat.mul_le_mul_left R hc1; omega
  have b2 : C ≤ 4096 := by have : 1 * C ≤ R * C := Nat.mul_le_mul_right C hr1; omega
  have HN := Lib.hid hn
  clear hn
  go_enter Tryd.func8, Tryd.ntmps8
  go_wp2
  have hacc0 := Acc.start ((w.alloc (Obj.cells #[.int .i64 R, .int .i64 C, .slice A n cap] 24)).alloc (Obj.cells #[.int .i64 0, .int .i64 0, .slice none 0 0] 24)) C R
  go_loopw [4] (fun i wr => ∃ (r cp : Nat) (D : Option Addr), r ≤ C ∧ i = .int .i64 r ∧ Acc ((w.alloc (Obj.cells #[.int .i64 R, .int .i64 C, .slice A n cap] 24)).alloc (Obj.cells #[.int .i64 0, .int .i64 0, .slice none 0 0] 24)) (w.heap.size + 1 + 1) C R D cp (r * R) (vals (fun i j => getV l (j * C + i)) R (r * R)) wr) (fun i _ => C - (intOf i).toNat)
  case atStart => exact ⟨0, 0, none, Nat.zero_le _, rfl, by simpa [vals] using hacc0⟩
  case round =>
    clear hacc0
    obtain ⟨r, cp, D, hr, rfl, hacc⟩ := hrel
    have p0 : wr.cell? ⟨w.heap.size, 0, none⟩ = some (.int .i64 R) := hacc.ext.cell_some (by simp [go_sem])
    have p1 : wr.cell? ⟨w.heap.size, 1, none⟩ = some (.int .i64 C) := hacc.ext.cell_some (by simp [go_sem])
    have hlt0 := hacc.lt
    by_cases hlt : r < C
    · go_wp2
      clear p0 p1 hlt0
      obtain ⟨wo, rfl⟩ : ∃ wo : World, wo = wr := ⟨_, rfl⟩
      go_loopw [5] (fun i wr => ∃ (j cp : Nat) (D : Option Addr), j ≤ R ∧ i = .int .i64 j ∧ Acc ((w.alloc (Obj.cells #[.int .i64 R, .int .i64 C, .slice A n cap] 24)).alloc (Obj.cells #[.int .i64 0, .int .i64 0, .slice none 0 0] 24)) (w.heap.size + 1 + 1) C R D cp (r * R + j) (vals (fun i j => getV l (j * C + i)) R (r * R + j)) wr) (fun i _ => R - (intOf i).toNat)
      case atStart => exact ⟨0, cp, D, Nat.zero_le _, rfl, by simpa using hacc⟩
      case round =>
        clear hacc
        obtain ⟨j, cp, D, hj, rfl, hacc⟩ := hrel
        have p0 : wr.cell? ⟨w.heap.size, 0, none⟩ = some (.int .i64 R) := hacc.ext.cell_some (by simp [go_sem])
        have hlt0 := hacc.lt
        by_cases hjt : j < R
        · have hk : r * R + j < 4096 := by have := cell_prod C hlt hjt hcr; omega
          go_wp2
          clear p0
          generalize hx : getV l (j * C + r) = x
          refine wp_plan (S := AccS _ _ _ _ _ _ _) [(0, 0), (1, 0), (2, 0), (3, 0), (4, 0), (5, 1), (6, 1), (7, 1), (8, 0), (9, 2)] [9] (by kernel_rfl) (by kernel_rfl) (by kernel_rfl) (fun _ _ d _ _ h => by cases d <;> exact h) ⟨(hacc.of_ext (by repeat (first | exact Ext.refl _ | (with_reducible (first | exact ext_d _ _ _ _ | exact ext_app _ _ _ _ _ | apply Ext.drew | apply Ext.alloc | apply Ext.more_)) | apply Ext.drew | apply Ext.alloc | apply Ext.more_))).ext, (hacc.of_ext (by repeat (first | exact Ext.refl _ | (with_reducible (first | exact ext_d _ _ _ _ | exact ext_app _ _ _ _ _ | apply Ext.drew | apply Ext.alloc | apply Ext.more_)) | apply Ext.drew | apply Ext.alloc | apply Ext.more_))).row⟩ ?_
          iterate 5 ((refine wpPl_read (v := ?_) rfl ?_ (fun w1 h1 => ?_) ?_; rotate_left 1; rfl; (obtain ⟨h1e, h1r⟩ := h1; have c2 := cell_of_row _ _ 2 _ _ _ h1r; clear h1r; obtain ⟨os1, d1, rfl⟩ := h1e.more; (try simp only [more_more, Array.append_assoc] at c2); go_simp; first | done | rfl)); try simp only [Act.put, zqA, zqB, zqC])
          (refine wpPl_eff rfl ?_ (fun K hK => ?_); rfl; go_simp; refine (refGet_any R C j r A n cap l _ (h.ext (Ext.trans (by repeat (first | exact Ext.refl _ | exact ext_app _ _ _ _ _ | exact ext_app2 _ _ _ _ _ _ | apply Ext.drew | apply Ext.alloc | apply Ext.more_)) hacc.ext.drew)) HN.out hN hjt hlt x hx).mono ?_; rintro e w' ⟨rfl, hb⟩; obtain ⟨os, d, rfl⟩ := hb.more; clear hb; refine hK _ _ ⟨(hacc.of_ext (by repeat (first | exact Ext.refl _ | (with_reducible (first | exact ext_d _ _ _ _ | exact ext_app _ _ _ _ _ | apply Ext.drew | apply Ext.alloc | apply Ext.more_)) | apply Ext.drew | apply Ext.alloc | apply Ext.more_))).ext, (hacc.of_ext (by repeat (first | exact Ext.refl _ | (with_reducible (first | exact ext_d _ _ _ _ | exact ext_app _ _ _ _ _ | apply Ext.drew | apply Ext.alloc | apply Ext.more_)) | apply Ext.drew | apply Ext.alloc | apply Ext.more_))).row⟩ ?_)
          try simp only [Act.put, zqA, zqB, zqC]
          (refine wpPl_eff rfl ?_ (fun K hK => ?_); rfl; go_simp; refine hK _ _ ⟨(hacc.of_ext (by repeat (first | exact Ext.refl _ | (with_reducible (first | exact ext_d _ _ _ _ | exact ext_app _ _ _ _ _ | apply Ext.drew | apply Ext.alloc | apply Ext.more_)) | apply Ext.drew | apply Ext.alloc | apply Ext.more_))).ext, (hacc.of_ext (by repeat (first | exact Ext.refl _ | (with_reducible (first | exact ext_d _ _ _ _ | exact ext_app _ _ _ _ _ | apply Ext.drew | apply Ext.alloc | apply Ext.more_)) | apply Ext.drew | apply Ext.alloc | apply Ext.more_))).row⟩ ?_)
          try simp only [Act.put, zqA, zqB, zqC]
          (refine wpPl_eff rfl ?_ (fun K hK => ?_); rfl)
          refine wp_append_own _ _ _ _ rfl _ 28 i0 (VV 0 0 0 ⟨#[]⟩ false 0) 6 56 Tryd.underlying22 hi0 hz0 hz1 hz2 rfl (by decide) _ _ _ rfl (own_ext hacc.own (by repeat (first | exact Ext.refl _ | (with_reducible (first | exact ext_d _ _ _ _ | exact ext_app _ _ _ _ _ | apply Ext.drew | apply Ext.alloc | apply Ext.more_)) | apply Ext.drew | apply Ext.alloc | apply Ext.more_))) _ 1 1 (Val.cells x) rfl rfl (new_cells_at _ _ _ (by simp) rfl _) (cells_one _) (by simp only [maxLen]; omega) (by omega) (by have := hacc.lt; simp; omega) ?_
          intro v3 w3 ho3 hg3
          obtain ⟨A2, cap2, rfl, hrow3, hex3, hacc2⟩ := hacc.step (by repeat (first | exact Ext.refl _ | (with_reducible (first | exact ext_d _ _ _ _ | exact ext_app _ _ _ _ _ | apply Ext.drew | apply Ext.alloc | apply Ext.more_)) | apply Ext.drew | apply Ext.alloc | apply Ext.more_)) hg3 ho3
          refine hK _ _ ⟨hex3, hrow3⟩ ?_
          try simp only [Act.put, zqA, zqB, zqC]
          (refine wpPl_read (v := ?_) rfl ?_ (fun w1 h1 => ?_) ?_; rotate_left 1; rfl; (obtain ⟨h1e, h1r⟩ := h1; have c2 := cell_of_row _ _ 2 _ _ _ h1r; clear h1r; obtain ⟨os1, d1, rfl⟩ := h1e.more; (try simp only [more_more, Array.append_assoc] at c2); go_simp; first | done | rfl))
          try simp only [Act.put, zqA, zqB, zqC]
          have c2 := cell_of_row _ _ 2 _ _ _ hrow3
          have f2 := frozen_of_row _ _ 2 _ _ hrow3
          clear hrow3 hex3 hg3 ho3
          (refine wpPl_tail rfl ?_ (fun K hK => ?_); rfl; go_simp; refine hK _ _ ?_)
          clear c2 f2
          try simp only [Act.put]
          refine wpPl_nil ?_
          go_wp2
          refine ⟨⟨j + 1, cap2, A2, by omega, by go_num, ?_⟩, by simp [intOf]; omega⟩
          rw [show r * R + (j + 1) = r * R + j + 1 by omega, vals_succ _ R r j hjt, hx]
          exact hacc2
        · obtain rfl : j = R := by omega
          go_wp2
          refine ⟨⟨r + 1, cp, D, by omega, by go_num, by rw [Nat.succ_mul]; exact hacc⟩, by simp [intOf]; omega⟩
    · obtain rfl : r = C := by omega
      have q0 : wr.cell? ⟨w.heap.size + 1, 0, none⟩ = some (.int .i64 0) := hacc.ext.cell_some (by simp [go_sem]); have q1 : wr.cell? ⟨w.heap.size + 1, 1, none⟩ = some (.int .i64 0) := hacc.ext.cell_some (by simp [go_sem]); have q2 : wr.cell? ⟨w.heap.size + 1, 2, none⟩ = some (.slice none 0 0) := hacc.ext.cell_some (by simp [go_sem]); have q3 : wr.frozen? ⟨w.heap.size + 1, 0, none⟩ = false := (hacc.ext.frozen (p := ⟨w.heap.size + 1, 0, none⟩) (by simp)).trans (by simp [go_sem]); have q4 : wr.frozen? ⟨w.heap.size + 1, 1, none⟩ = false := (hacc.ext.frozen (p := ⟨w.heap.size + 1, 1, none⟩) (by simp)).trans (by simp [go_sem]); have q5 : wr.frozen? ⟨w.heap.size + 1, 2, none⟩ = false := (hacc.ext.frozen (p := ⟨w.heap.size + 1, 2, none⟩) (by simp)).trans (by simp [go_sem]); have c0 := cell_of_row _ _ 0 _ _ _ hacc.row; have c1 := cell_of_row _ _ 1 _ _ _ hacc.row; have c2 := cell_of_row _ _ 2 _ _ _ hacc.row
      go_wp2
      obtain ⟨hrd, hcp⟩ := hacc.rd
      have hl : (turnL R r l).length = r * R := vals_length _ _ _
      refine bodyPost_ret (v := AV r R (.slice D (r * R) cp)) (by simp [results, Tryd.results8, go_sem, q0, q1, q2]) rfl ⟨⟨D, cp, by rw [hl], ?_, by rw [hl]; exact hcp⟩, ?_⟩
      · exact Rd.mono (((hrd.set_far _ (by simp)).set_far _ (by simp)).set_far _ (by simp)) (by omega)
      · exact Ext.set (Ext.set (Ext.set (Ext.trans (by repeat (first | exact Ext.refl _ | exact ext_app _ _ _ _ _ | exact ext_app2 _ _ _ _ _ _ | apply Ext.drew | apply Ext.alloc | apply Ext.more_)) hacc.ext) _ (by simp)) _ (by simp)) _ (by simp)
end Go.Proofs.YtljgagjipamdeaaDoor
namespace Go.Proofs.YtljgagjipamdeaaDoor
open Go.RowKit NM
@[go_sem] theorem run_field_L (r c : Int) (s : Value) (w : World) : (Instr.field 24 (AV r c s) 2).run Tryd.prog w = .ok s w := by
  first | rfl | kernel_rfl
/-- An array turned. -/
def turnN (a : NA) : NA := ⟨a.C, a.R, turnL a.R a.C a.l⟩
theorem turnN_right {a : NA} (h : a.right) : (turnN a).right := turn_right h
theorem turn_res (a : NA) (A : Option Addr) (n cap : Nat) (w : World) (h : ArrIn w A n cap a.l) (hr : a.right) :
    Calls Tryd.prog 44 #[AV a.R a.C (.slice A n cap)] w fun e w' => ResA w (turnN a) e w' := by
  refine (turn_yes a.R a.C A n cap a.l w h hr).mono ?_
  rintro e w' ⟨⟨D, c, rfl, hs, hc⟩, hX⟩
  obtain ⟨a1, a2, a3, a4, a5⟩ := rightA_nat.1 hr
  exact ⟨D, _, c, rfl, ⟨hs, rfl, hc, by rw [turnL_length]; rw [Nat.mul_comm] at a3; omega, turn_all a4 h.ok⟩, hX⟩
theorem refTurn_res (a : NA) (A : Option Addr) (n cap : Nat) (w : World) (h : ArrIn w A n cap a.l) (hr : a.right) :
    Calls Tryd.prog 8 #[AV a.R a.C (.slice A n cap)] w fun e w' => ResA w (turnN a) e w' := by
  obtain ⟨a1, a2, a3, a4, a5⟩ := rightA_nat.1 hr
  have hln := h.len
  refine (refTurn_any a.R a.C A n cap a.l w h a1 a2 (by omega) (by omega)).mono ?_
  rintro e w' ⟨⟨D, c, rfl, hs, hc⟩, hX⟩
  exact ⟨D, _, c, rfl, ⟨hs, rfl, hc, by rw [turnL_length]; rw [Nat.mul_comm] at a3; omega, turn_all a4 h.ok⟩, hX⟩
theorem args4 {w : World} {A : Option Addr} {cap : Nat} {a p q s : Ar} (h : ArgsIn w A 4 cap [a, p, q, s]) : ∃ b off, A = some ⟨b, off, none⟩ ∧ b < w.heap.size ∧ ArAt w b off a ∧ ArAt w b (off + 3) p ∧ ArAt w b (off + 6) q ∧ ArAt w b (off + 9) s ∧ ArOk w a ∧ ArOk w p ∧ ArOk w q ∧ ArOk w s := by
  obtain ⟨b, off, rfl, h1, h2⟩ := h.get (k := 0) (a := a) rfl
  obtain ⟨b', off', e, h3, h4⟩ := h.get (k := 1) (a := p) rfl
  obtain ⟨b2, off2, e2, h5, h6⟩ := h.get (k := 2) (a := q) rfl
  obtain ⟨b3, off3, e3, h7, h8⟩ := h.get (k := 3) (a := s) rfl
  simp only [Option.some.injEq, Addr.mk.injEq, and_true] at e e2 e3
  obtain ⟨rfl, rfl⟩ := e
  obtain ⟨rfl, rfl⟩ := e2
  obtain ⟨rfl, rfl⟩ := e3
  exact ⟨b, off, rfl, lt_of_cell h1.1, h1, h3, h5, h7, h2, h4, h6, h8⟩
/-- What VLOOKUP tells of an array, what is sought, a column and a truth. -/
def vlookO (T : NA) (v : Val × Int) (k : Int × Int) (u : Bool × Int) : NA :=
  if v.2 ≠ 0 then aloneO v.2 else if k.2 ≠ 0 then aloneO k.2 else if u.2 ≠ 0 then aloneO u.2
  else if k.1 < 1 then aloneO 2 else if (T.C : Int) < k.1 then aloneO 3
  else if (if u.1 then upToN (partA T 0 0 T.R 1).l v.1 else justN (partA T 0 0 T.R 1).l v.1) < 0 then aloneO 6
  else oneA (getV T.l ((if u.1 then upToN (partA T 0 0 T.R 1).l v.1 else justN (partA T 0 0 T.R 1).l v.1).toNat * T.C + (k.1.toNat - 1)))
theorem sought_ok {v : Val} (hv : v.right) : (soughtO v).1.ok := by
  unfold soughtO
  split
  · exact ⟨by simp [Val.zero, I64], by simp [Val.zero, I64], by simp [Val.zero, I64], by show (0 : Nat) ≤ 9223372036854775807; omega, by simp [Val.zero, I64]⟩
  · split
    · exact (cnt_right (n := 0) (by decide)).ok
    · exact hv.ok
set_option maxHeartbeats 4000000 in
theorem below4_any (A : Option Addr) (cap : Nat) (a p q s : Ar) (v k u : Val) (w : World) (htab : Tab w) (h : ArgsIn w A 4 cap [a, p, q, s]) (hv : a.x.l[0]? = some v) (hk : q.x.l[0]? = some k) (hu : s.x.l[0]? = some u) (hvr : v.right) (hkr : k.right) (hur : u.right) :
    Calls Tryd.prog 26 #[.slice A 4 cap] w fun e w' => ResA w (vlookO p.x (soughtO v) (wholeO k) (truthO u)) e w' := by
  obtain ⟨b, off, rfl, hbl, ⟨u0, u1, u2⟩, ⟨v0, v1, v2⟩, ⟨t0, t1, t2⟩, ⟨s0, s1, s2⟩, ha, hp, hq, hs⟩ := args4 h
  have hcap := h.cap
  have hso := fun W (hT : Tab W) (hW : ArrIn W a.A a.n a.cap a.x.l) => sought_any a.x.R a.x.C a.A a.n a.cap a.x.l W hT hW v hv
  have hw := fun W (hW : ArrIn W q.A q.n q.cap q.x.l) => whole_any q.x.R q.x.C q.A q.n q.cap q.x.l W hW k hk hkr _ rfl
  have htt := fun W => toTruth_any u W hur
  have hxo := sought_ok hvr
  obtain ⟨u', b', off', hu', _, hsA, su⟩ := hs.arr.at (k := 0) (by rw [← hs.arr.len]; exact (List.getElem?_eq_some_iff.1 hu).1)
  obtain rfl : u' = u := by rw [hu] at hu'; simpa using hu'.symm
  obtain ⟨w0, w1, w2, w3, w4, w5⟩ := su
  simp only [Nat.zero_mul, Nat.add_zero] at w0 w1 w2 w3 w4 w5
  have hbu : b' < w.heap.size := lt_of_cell w0
  have hsn : 0 < s.n := by rw [← hs.arr.len]; exact (List.getElem?_eq_some_iff.1 hu).1
  rw [hsA] at s2
  generalize soughtO v = x at *
  generalize wholeO k = kk at *
  generalize truthO u' = uu at *
  obtain ⟨x, xf⟩ := x
  obtain ⟨kk, kf⟩ := kk
  obtain ⟨uu, uf⟩ := uu
  have haa := ha.arr
  have hqa := hq.arr
  have hpa := hp.arr
  have HP := Lib.hid hp
  have HT := Lib.hid htab
  simp only at hxo
  clear h hv hk hu hvr hkr hur ha hp hq hs htab hu'
  obtain ⟨⟨R, C, l⟩, A1, n1, cap1⟩ := a
  obtain ⟨⟨R2, C2, l2⟩, A2, n2, cap2⟩ := p
  obtain ⟨⟨R3, C3, l3⟩, A3, n3, cap3⟩ := q
  obtain ⟨⟨R4, C4, l4⟩, A4, n4, cap4⟩ := s
  simp only at u0 u1 u2 v0 v1 v2 t0 t1 t2 s0 s1 s2 hso hw haa hqa hpa hsn hsA
  by_cases hxf : xf = 0
  · subst hxf
    by_cases hkf : kf = 0
    · subst hkf
      by_cases huf : uf = 0
      · subst huf
        by_cases hk1 : kk < 1
        · have hX : vlookO ⟨R2, C2, l2⟩ (x, 0) (kk, 0) (uu, 0) = aloneO 2 := by unfold vlookO; simp [hk1]
          rw [hX]
          clear hX
          go_enter Tryd.func26, Tryd.ntmps26
          go_wp2_with (first | (go_at_call 36; (with_reducible refine (hso _ (HT.out.ext (by with_reducible repeat (first | exact Ext.refl _ | apply Ext.drew | apply Ext.alloc | apply Ext.more_))) (haa.ext (by with_reducible repeat (first | exact Ext.refl _ | apply Ext.drew | apply Ext.alloc | apply Ext.more_)))).mono ?_); rintro e w' ⟨rfl, hb⟩; obtain ⟨os0, d0, rfl⟩ := hb.more; clear hb) | (go_at_call 34; (with_reducible refine (hw _ (hqa.ext (by with_reducible repeat (first | exact Ext.refl _ | apply Ext.drew | apply Ext.alloc | apply Ext.more_)))).mono ?_); rintro e w' ⟨rfl, hb⟩; obtain ⟨os1, d1, rfl⟩ := hb.more; clear hb) | (go_at_call 43; (with_reducible refine (htt _).mono ?_); rintro e w' ⟨rfl, hb⟩; obtain ⟨os2, d2, rfl⟩ := hb.more; clear hb) | (go_at_call 18; (with_reducible refine (alone_any _ _).mono ?_); rintro e w' ⟨D, m, cc, rfl, hD, hb⟩; obtain ⟨os5, d5, rfl⟩ := hb.more; clear hb; have hDr := hD.rd))
          all_goals exact bodyPost_ret (v := AV (aloneO 2).R (aloneO 2).C (.slice D m cc)) (by simp [results, Tryd.results26, go_sem]) rfl ⟨D, m, cc, rfl, ⟨(by (try simp only [more_more] at hDr); (try simp only [drew_more] at hDr); (try simp only [more_drew] at hDr); (try simp only [Array.append_assoc] at hDr); exact Rd.swap hDr (by first | (simp; done) | (simp; omega) | omega) (by first | (simp; done) | (simp; omega) | omega) (by first | (simp; done) | (simp; omega) | omega)), hD.len, hD.cap, hD.small, hD.ok⟩, by with_reducible repeat (first | exact Ext.refl _ | apply Ext.drew | apply Ext.alloc | apply Ext.more_)⟩
        · by_cases hk2 : (C2 : Int) < kk
          · have hX : vlookO ⟨R2, C2, l2⟩ (x, 0) (kk, 0) (uu, 0) = aloneO 3 := by unfold vlookO; simp [hk1, hk2]
            rw [hX]
            clear hX
            go_enter Tryd.func26, Tryd.ntmps26
            go_wp2_with (first | (go_at_call 36; (with_reducible refine (hso _ (HT.out.ext (by with_reducible repeat (first | exact Ext.refl _ | apply Ext.drew | apply Ext.alloc | apply Ext.more_))) (haa.ext (by with_reducible repeat (first | exact Ext.refl _ | apply Ext.drew | apply Ext.alloc | apply Ext.more_)))).mono ?_); rintro e w' ⟨rfl, hb⟩; obtain ⟨os0, d0, rfl⟩ := hb.more; clear hb) | (go_at_call 34; (with_reducible refine (hw _ (hqa.ext (by with_reducible repeat (first | exact Ext.refl _ | apply Ext.drew | apply Ext.alloc | apply Ext.more_)))).mono ?_); rintro e w' ⟨rfl, hb⟩; obtain ⟨os1, d1, rfl⟩ := hb.more; clear hb) | (go_at_call 43; (with_reducible refine (htt _).mono ?_); rintro e w' ⟨rfl, hb⟩; obtain ⟨os2, d2, rfl⟩ := hb.more; clear hb) | (go_at_call 18; (with_reducible refine (alone_any _ _).mono ?_); rintro e w' ⟨D, m, cc, rfl, hD, hb⟩; obtain ⟨os5, d5, rfl⟩ := hb.more; clear hb; have hDr := hD.rd))
            all_goals exact bodyPost_ret (v := AV (aloneO 3).R (aloneO 3).C (.slice D m cc)) (by simp [results, Tryd.results26, go_sem]) rfl ⟨D, m, cc, rfl, ⟨(by (try simp only [more_more] at hDr); (try simp only [drew_more] at hDr); (try simp only [more_drew] at hDr); (try simp only [Array.append_assoc] at hDr); exact Rd.swap hDr (by first | (simp; done) | (simp; omega) | omega) (by first | (simp; done) | (simp; omega) | omega) (by first | (simp; done) | (simp; omega) | omega)), hD.len, hD.cap, hD.small, hD.ok⟩, by with_reducible repeat (first | exact Ext.refl _ | apply Ext.drew | apply Ext.alloc | apply Ext.more_)⟩
          · have hPr := rightA_nat.1 HP.out.right
            have hR1 : 1 ≤ R2 := hPr.1
            have hC1 : 1 ≤ C2 := hPr.2.1
            have hRC : R2 * C2 ≤ 4096 := hPr.2.2.1
            have hll : l2.length = R2 * C2 := hPr.2.2.2.1
            have hlr : ∀ x ∈ l2, x.right := fun x hx => hPr.2.2.2.2 x hx
            have hln : l2.length = n2 := hpa.len
            have hpt := fun W (hW : ArrIn W A2 n2 cap2 l2) => fpart_any ⟨R2, C2, l2⟩ 0 0 R2 1 A2 n2 cap2 W hW HP.out.right hR1 (Nat.le_refl 1) (by show 0 + R2 ≤ R2; omega) (by show 0 + 1 ≤ C2; omega)
            have hKlen : (partA ⟨R2, C2, l2⟩ 0 0 R2 1).l.length = R2 := by
              show (partL _ _ _ _ _ _).length = _
              unfold partL; rw [vals_length]; omega
            have hX : vlookO ⟨R2, C2, l2⟩ (x, 0) (kk, 0) (uu, 0) = if (if uu then upToN (partA ⟨R2, C2, l2⟩ 0 0 R2 1).l x else justN (partA ⟨R2, C2, l2⟩ 0 0 R2 1).l x) < 0 then aloneO 6 else oneA (getV l2 ((if uu then upToN (partA ⟨R2, C2, l2⟩ 0 0 R2 1).l x else justN (partA ⟨R2, C2, l2⟩ 0 0 R2 1).l x).toNat * C2 + (kk.toNat - 1))) := by
              unfold vlookO; simp [hk1, hk2]
            rw [hX]
            obtain ⟨i, rfl⟩ : ∃ i : Nat, kk = (i : Int) + 1 := ⟨kk.toNat - 1, by omega⟩
            have hiC : i < C2 := by omega
            rw [show ((i : Int) + 1).toNat - 1 = i by omega]
            simp only [show ((0 : Nat) : Int) = 0 from rfl, show ((1 : Nat) : Int) = 1 from rfl] at hpt
            have hup := fun DK mK cK W (hW : ArrIn W DK mK cK (partA ⟨R2, C2, l2⟩ 0 0 R2 1).l) => upTo_any DK mK cK _ x W hW hxo
            have hju := fun DK mK cK W (hW : ArrIn W DK mK cK (partA ⟨R2, C2, l2⟩ 0 0 R2 1).l) => just_any DK mK cK _ x W hW hxo
            have rup := upToN_range (partA ⟨R2, C2, l2⟩ 0 0 R2 1).l x
            have rju := justN_range (partA ⟨R2, C2, l2⟩ 0 0 R2 1).l x
            rw [hKlen] at rup rju
            generalize upToN (partA ⟨R2, C2, l2⟩ 0 0 R2 1).l x = tu at *
            generalize justN (partA ⟨R2, C2, l2⟩ 0 0 R2 1).l x = tj at *
            rw [show partA ⟨R2, C2, l2⟩ 0 0 R2 1 = ⟨R2, 1, (partA ⟨R2, C2, l2⟩ 0 0 R2 1).l⟩ from rfl] at hpt
            generalize (partA ⟨R2, C2, l2⟩ 0 0 R2 1).l = KL at *
            clear hX hKlen HP hPr
            cases uu with
            | true =>
              simp only [if_true]
              clear hju rju
              by_cases ht : tu < 0
              · rw [if_pos ht]
                obtain rfl : tu = -1 := by omega
                clear ht rup hll hln hlr hRC
                go_enter Tryd.func26, Tryd.ntmps26
                go_wp2_with (first | (first | (go_at_call 36; (with_reducible refine (hso _ (HT.out.ext (by with_reducible repeat (first | exact Ext.refl _ | apply Ext.drew | apply Ext.alloc | apply Ext.more_))) (haa.ext (by with_reducible repeat (first | exact Ext.refl _ | apply Ext.drew | apply Ext.alloc | apply Ext.more_)))).mono ?_); rintro e w' ⟨rfl, hb⟩; obtain ⟨os0, d0, rfl⟩ := hb.more; clear hb) | (go_at_call 34; (with_reducible refine (hw _ (hqa.ext (by with_reducible repeat (first | exact Ext.refl _ | apply Ext.drew | apply Ext.alloc | apply Ext.more_)))).mono ?_); rintro e w' ⟨rfl, hb⟩; obtain ⟨os1, d1, rfl⟩ := hb.more; clear hb) | (go_at_call 43; (with_reducible refine (htt _).mono ?_); rintro e w' ⟨rfl, hb⟩; obtain ⟨os2, d2, rfl⟩ := hb.more; clear hb) | (go_at_call 18; (with_reducible refine (alone_any _ _).mono ?_); rintro e w' ⟨D, m, cc, rfl, hD, hb⟩; obtain ⟨os5, d5, rfl⟩ := hb.more; clear hb; have hDr := hD.rd)) | (go_at_call 35; go_loud (refine (hpt _ (hpa.ext (by with_reducible repeat (first | exact Ext.refl _ | apply Ext.drew | apply Ext.alloc | apply Ext.more_)))).mono ?_); rintro e w' ⟨DK, mK, cK, rfl, hDK, hb⟩; obtain ⟨osk, dk, rfl⟩ := hb.more; clear hb) | (go_at_call 38; (with_reducible refine (hup DK mK cK _ (hDK.arr.ext (by with_reducible repeat (first | exact Ext.refl _ | apply Ext.drew | apply Ext.alloc | apply Ext.more_)))).mono ?_); rintro e w' ⟨rfl, hb⟩; obtain ⟨osf, df, rfl⟩ := hb.more; clear hb))
                all_goals exact bodyPost_ret (v := AV (aloneO 6).R (aloneO 6).C (.slice D m cc)) (by simp [results, Tryd.results26, go_sem]) rfl ⟨D, m, cc, rfl, ⟨(by (try simp only [more_more] at hDr); (try simp only [drew_more] at hDr); (try simp only [more_drew] at hDr); (try simp only [Array.append_assoc] at hDr); exact Rd.swap hDr (by first | (simp; done) | (simp; omega) | omega) (by first | (simp; done) | (simp; omega) | omega) (by first | (simp; done) | (simp; omega) | omega)), hD.len, hD.cap, hD.small, hD.ok⟩, by with_reducible repeat (first | exact Ext.refl _ | apply Ext.drew | apply Ext.alloc | apply Ext.more_)⟩
              · rw [if_neg ht]
                obtain ⟨j, rfl⟩ : ∃ j : Nat, tu = (j : Int) := ⟨tu.toNat, by omega⟩
                have hjR : j < R2 := by omega
                have hmul : j * C2 + C2 ≤ R2 * C2 := by (have := Nat.mul_le_mul_right C2 (show j + 1 ≤ R2 by omega)); rw [Nat.add_mul, Nat.one_mul] at this; exact this
                have hNl : j * C2 + i < n2 := by omega
                have hPc : (j : Int) * (C2 : Int) = ((j * C2 : Nat) : Int) := by simp
                rw [show ((j : Nat) : Int).toNat = j from rfl]
                obtain ⟨y, b2, off2, hy, hyo, hA2, ⟨y0, y1, y2, y3, y4, y5⟩⟩ := hpa.at hNl
                have hgy : getV l2 (j * C2 + i) = y := by unfold getV; rw [hy]; rfl
                rw [hgy]
                have hyr : y.right := hlr y (List.mem_of_getElem? hy)
                generalize hP : j * C2 = P at *
                generalize hN : P + i = N at *
                have m1 : IntKind.i64.wrap ((P : Nat) : Int) = (P : Int) := by rw [IntKind.wrap_i64]; omega
                have m2 : IntKind.i64.wrap ((P : Int) + ((i : Int) + 1)) = (N : Int) + 1 := by rw [IntKind.wrap_i64]; omega
                have m3 : IntKind.i64.wrap ((N : Int) + 1 - 1) = (N : Int) := by rw [IntKind.wrap_i64]; omega
                have m4 : IntKind.i64.wrap (N : Int) = (N : Int) := by rw [IntKind.wrap_i64]; omega
                have hby : b2 < w.heap.size := lt_of_cell y0
                have hon := fun W => one_res y W hyo hyr
                have h1n : 1 ≤ N + 1 := by omega
                subst hA2
                clear ht hll hln hlr hRC hmul hy hgy hP hN
                go_enter Tryd.func26, Tryd.ntmps26
                go_wp2_with (first | (first | (go_at_call 36; (with_reducible refine (hso _ (HT.out.ext (by with_reducible repeat (first | exact Ext.refl _ | apply Ext.drew | apply Ext.alloc | apply Ext.more_))) (haa.ext (by with_reducible repeat (first | exact Ext.refl _ | apply Ext.drew | apply Ext.alloc | apply Ext.more_)))).mono ?_); rintro e w' ⟨rfl, hb⟩; obtain ⟨os0, d0, rfl⟩ := hb.more; clear hb) | (go_at_call 34; (with_reducible refine (hw _ (hqa.ext (by with_reducible repeat (first | exact Ext.refl _ | apply Ext.drew | apply Ext.alloc | apply Ext.more_)))).mono ?_); rintro e w' ⟨rfl, hb⟩; obtain ⟨os1, d1, rfl⟩ := hb.more; clear hb) | (go_at_call 43; (with_reducible refine (htt _).mono ?_); rintro e w' ⟨rfl, hb⟩; obtain ⟨os2, d2, rfl⟩ := hb.more; clear hb) | (go_at_call 18; (with_reducible refine (alone_any _ _).mono ?_); rintro e w' ⟨D, m, cc, rfl, hD, hb⟩; obtain ⟨os5, d5, rfl⟩ := hb.more; clear hb; have hDr := hD.rd)) | (go_at_call 35; go_loud (refine (hpt _ (hpa.ext (by with_reducible repeat (first | exact Ext.refl _ | apply Ext.drew | apply Ext.alloc | apply Ext.more_)))).mono ?_); rintro e w' ⟨DK, mK, cK, rfl, hDK, hb⟩; obtain ⟨osk, dk, rfl⟩ := hb.more; clear hb) | (go_at_call 38; (with_reducible refine (hup DK mK cK _ (hDK.arr.ext (by with_reducible repeat (first | exact Ext.refl _ | apply Ext.drew | apply Ext.alloc | apply Ext.more_)))).mono ?_); rintro e w' ⟨rfl, hb⟩; obtain ⟨osf, df, rfl⟩ := hb.more; clear hb) | (go_at_call 28; (with_reducible refine (hon _).mono ?_); rintro e w' ⟨D, m, cc, rfl, hD, hb⟩; obtain ⟨os5, d5, rfl⟩ := hb.more; clear hb; have hDr := hD.rd))
                all_goals exact bodyPost_ret (v := AV (oneA y).R (oneA y).C (.slice D m cc)) (by simp [results, Tryd.results26, go_sem]) rfl ⟨D, m, cc, rfl, ⟨(by (try simp only [more_more] at hDr); (try simp only [drew_more] at hDr); (try simp only [more_drew] at hDr); (try simp only [Array.append_assoc] at hDr); exact Rd.swap hDr (by first | (simp; done) | (simp; omega) | omega) (by first | (simp; done) | (simp; omega) | omega) (by first | (simp; done) | (simp; omega) | omega)), hD.len, hD.cap, hD.small, hD.ok⟩, by with_reducible repeat (first | exact Ext.refl _ | apply Ext.drew | apply Ext.alloc | apply Ext.more_)⟩
            | false =>
              simp only [Bool.false_eq_true, if_false]
              clear hup rup
              by_cases ht : tj < 0
              · rw [if_pos ht]
                obtain rfl : tj = -1 := by omega
                clear ht rju hll hln hlr hRC
                go_enter Tryd.func26, Tryd.ntmps26
                go_wp2_with (first | (first | (go_at_call 36; (with_reducible refine (hso _ (HT.out.ext (by with_reducible repeat (first | exact Ext.refl _ | apply Ext.drew | apply Ext.alloc | apply Ext.more_))) (haa.ext (by with_reducible repeat (first | exact Ext.refl _ | apply Ext.drew | apply Ext.alloc | apply Ext.more_)))).mono ?_); rintro e w' ⟨rfl, hb⟩; obtain ⟨os0, d0, rfl⟩ := hb.more; clear hb) | (go_at_call 34; (with_reducible refine (hw _ (hqa.ext (by with_reducible repeat (first | exact Ext.refl _ | apply Ext.drew | apply Ext.alloc | apply Ext.more_)))).mono ?_); rintro e w' ⟨rfl, hb⟩; obtain ⟨os1, d1, rfl⟩ := hb.more; clear hb) | (go_at_call 43; (with_reducible refine (htt _).mono ?_); rintro e w' ⟨rfl, hb⟩; obtain ⟨os2, d2, rfl⟩ := hb.more; clear hb) | (go_at_call 18; (with_reducible refine (alone_any _ _).mono ?_); rintro e w' ⟨D, m, cc, rfl, hD, hb⟩; obtain ⟨os5, d5, rfl⟩ := hb.more; clear hb; have hDr := hD.rd)) | (go_at_call 35; go_loud (refine (hpt _ (hpa.ext (by with_reducible repeat (first | exact Ext.refl _ | apply Ext.drew | apply Ext.alloc | apply Ext.more_)))).mono ?_); rintro e w' ⟨DK, mK, cK, rfl, hDK, hb⟩; obtain ⟨osk, dk, rfl⟩ := hb.more; clear hb) | (go_at_call 37; (with_reducible refine (hju DK mK cK _ (hDK.arr.ext (by with_reducible repeat (first | exact Ext.refl _ | apply Ext.drew | apply Ext.alloc | apply Ext.more_)))).mono ?_); rintro e w' ⟨rfl, hb⟩; obtain ⟨osf, df, rfl⟩ := hb.more; clear hb))
                all_goals exact bodyPost_ret (v := AV (aloneO 6).R (aloneO 6).C (.slice D m cc)) (by simp [results, Tryd.results26, go_sem]) rfl ⟨D, m, cc, rfl, ⟨(by (try simp only [more_more] at hDr); (try simp only [drew_more] at hDr); (try simp only [more_drew] at hDr); (try simp only [Array.append_assoc] at hDr); exact Rd.swap hDr (by first | (simp; done) | (simp; omega) | omega) (by first | (simp; done) | (simp; omega) | omega) (by first | (simp; done) | (simp; omega) | omega)), hD.len, hD.cap, hD.small, hD.ok⟩, by with_reducible repeat (first | exact Ext.refl _ | apply Ext.drew | apply Ext.alloc | apply Ext.more_)⟩
              · rw [if_neg ht]
                obtain ⟨j, rfl⟩ : ∃ j : Nat, tj = (j : Int) := ⟨tj.toNat, by omega⟩
                have hjR : j < R2 := by omega
                have hmul : j * C2 + C2 ≤ R2 * C2 := by (have := Nat.mul_le_mul_right C2 (show j + 1 ≤ R2 by omega)); rw [Nat.add_mul, Nat.one_mul] at this; exact this
                have hNl : j * C2 + i < n2 := by omega
                have hPc : (j : Int) * (C2 : Int) = ((j * C2 : Nat) : Int) := by simp
                rw [show ((j : Nat) : Int).toNat = j from rfl]
                obtain ⟨y, b2, off2, hy, hyo, hA2, ⟨y0, y1, y2, y3, y4, y5⟩⟩ := hpa.at hNl
                have hgy : getV l2 (j * C2 + i) = y := by unfold getV; rw [hy]; rfl
                rw [hgy]
                have hyr : y.right := hlr y (List.mem_of_getElem? hy)
                generalize hP : j * C2 = P at *
                generalize hN : P + i = N at *
                have m1 : IntKind.i64.wrap ((P : Nat) : Int) = (P : Int) := by rw [IntKind.wrap_i64]; omega
                have m2 : IntKind.i64.wrap ((P : Int) + ((i : Int) + 1)) = (N : Int) + 1 := by rw [IntKind.wrap_i64]; omega
                have m3 : IntKind.i64.wrap ((N : Int) + 1 - 1) = (N : Int) := by rw [IntKind.wrap_i64]; omega
                have m4 : IntKind.i64.wrap (N : Int) = (N : Int) := by rw [IntKind.wrap_i64]; omega
                have hby : b2 < w.heap.size := lt_of_cell y0
                have hon := fun W => one_res y W hyo hyr
                have h1n : 1 ≤ N + 1 := by omega
                subst hA2
                clear ht hll hln hlr hRC hmul hy hgy hP hN
                go_enter Tryd.func26, Tryd.ntmps26
                go_wp2_with (first | (first | (go_at_call 36; (with_reducible refine (hso _ (HT.out.ext (by with_reducible repeat (first | exact Ext.refl _ | apply Ext.drew | apply Ext.alloc | apply Ext.more_))) (haa.ext (by with_reducible repeat (first | exact Ext.refl _ | apply Ext.drew | apply Ext.alloc | apply Ext.more_)))).mono ?_); rintro e w' ⟨rfl, hb⟩; obtain ⟨os0, d0, rfl⟩ := hb.more; clear hb) | (go_at_call 34; (with_reducible refine (hw _ (hqa.ext (by with_reducible repeat (first | exact Ext.refl _ | apply Ext.drew | apply Ext.alloc | apply Ext.more_)))).mono ?_); rintro e w' ⟨rfl, hb⟩; obtain ⟨os1, d1, rfl⟩ := hb.more; clear hb) | (go_at_call 43; (with_reducible refine (htt _).mono ?_); rintro e w' ⟨rfl, hb⟩; obtain ⟨os2, d2, rfl⟩ := hb.more; clear hb) | (go_at_call 18; (with_reducible refine (alone_any _ _).mono ?_); rintro e w' ⟨D, m, cc, rfl, hD, hb⟩; obtain ⟨os5, d5, rfl⟩ := hb.more; clear hb; have hDr := hD.rd)) | (go_at_call 35; go_loud (refine (hpt _ (hpa.ext (by with_reducible repeat (first | exact Ext.refl _ | apply Ext.drew | apply Ext.alloc | apply Ext.more_)))).mono ?_); rintro e w' ⟨DK, mK, cK, rfl, hDK, hb⟩; obtain ⟨osk, dk, rfl⟩ := hb.more; clear hb) | (go_at_call 37; (with_reducible refine (hju DK mK cK _ (hDK.arr.ext (by with_reducible repeat (first | exact Ext.refl _ | apply Ext.drew | apply Ext.alloc | apply Ext.more_)))).mono ?_); rintro e w' ⟨rfl, hb⟩; obtain ⟨osf, df, rfl⟩ := hb.more; clear hb) | (go_at_call 28; (with_reducible refine (hon _).mono ?_); rintro e w' ⟨D, m, cc, rfl, hD, hb⟩; obtain ⟨os5, d5, rfl⟩ := hb.more; clear hb; have hDr := hD.rd))
                all_goals exact bodyPost_ret (v := AV (oneA y).R (oneA y).C (.slice D m cc)) (by simp [results, Tryd.results26, go_sem]) rfl ⟨D, m, cc, rfl, ⟨(by (try simp only [more_more] at hDr); (try simp only [drew_more] at hDr); (try simp only [more_drew] at hDr); (try simp only [Array.append_assoc] at hDr); exact Rd.swap hDr (by first | (simp; done) | (simp; omega) | omega) (by first | (simp; done) | (simp; omega) | omega) (by first | (simp; done) | (simp; omega) | omega)), hD.len, hD.cap, hD.small, hD.ok⟩, by with_reducible repeat (first | exact Ext.refl _ | apply Ext.drew | apply Ext.alloc | apply Ext.more_)⟩
      · have hX : vlookO ⟨R2, C2, l2⟩ (x, 0) (kk, 0) (uu, uf) = aloneO uf := by unfold vlookO; simp [huf]
        rw [hX]
        have huf' : (uf != 0) = true := by simpa using huf
        clear hX huf
        go_enter Tryd.func26, Tryd.ntmps26
        go_wp2_with (first | (go_at_call 36; (with_reducible refine (hso _ (HT.out.ext (by with_reducible repeat (first | exact Ext.refl _ | apply Ext.drew | apply Ext.alloc | apply Ext.more_))) (haa.ext (by with_reducible repeat (first | exact Ext.refl _ | apply Ext.drew | apply Ext.alloc | apply Ext.more_)))).mono ?_); rintro e w' ⟨rfl, hb⟩; obtain ⟨os0, d0, rfl⟩ := hb.more; clear hb) | (go_at_call 34; (with_reducible refine (hw _ (hqa.ext (by with_reducible repeat (first | exact Ext.refl _ | apply Ext.drew | apply Ext.alloc | apply Ext.more_)))).mono ?_); rintro e w' ⟨rfl, hb⟩; obtain ⟨os1, d1, rfl⟩ := hb.more; clear hb) | (go_at_call 43; (with_reducible refine (htt _).mono ?_); rintro e w' ⟨rfl, hb⟩; obtain ⟨os2, d2, rfl⟩ := hb.more; clear hb) | (go_at_call 18; (with_reducible refine (alone_any _ _).mono ?_); rintro e w' ⟨D, m, cc, rfl, hD, hb⟩; obtain ⟨os5, d5, rfl⟩ := hb.more; clear hb; have hDr := hD.rd))
        all_goals exact bodyPost_ret (v := AV (aloneO uf).R (aloneO uf).C (.slice D m cc)) (by simp [results, Tryd.results26, go_sem]) rfl ⟨D, m, cc, rfl, ⟨(by (try simp only [more_more] at hDr); (try simp only [drew_more] at hDr); (try simp only [more_drew] at hDr); (try simp only [Array.append_assoc] at hDr); exact Rd.swap hDr (by first | (simp; done) | (simp; omega) | omega) (by first | (simp; done) | (simp; omega) | omega) (by first | (simp; done) | (simp; omega) | omega)), hD.len, hD.cap, hD.small, hD.ok⟩, by with_reducible repeat (first | exact Ext.refl _ | apply Ext.drew | apply Ext.alloc | apply Ext.more_)⟩
    · have hX : vlookO ⟨R2, C2, l2⟩ (x, 0) (kk, kf) (uu, uf) = aloneO kf := by unfold vlookO; simp [hkf]
      rw [hX]
      have hkf' : (kf != 0) = true := by simpa using hkf
      clear hX hkf
      go_enter Tryd.func26, Tryd.ntmps26
      go_wp2_with (first | (go_at_call 36; (with_reducible refine (hso _ (HT.out.ext (by with_reducible repeat (first | exact Ext.refl _ | apply Ext.drew | apply Ext.alloc | apply Ext.more_))) (haa.ext (by with_reducible repeat (first | exact Ext.refl _ | apply Ext.drew | apply Ext.alloc | apply Ext.more_)))).mono ?_); rintro e w' ⟨rfl, hb⟩; obtain ⟨os0, d0, rfl⟩ := hb.more; clear hb) | (go_at_call 34; (with_reducible refine (hw _ (hqa.ext (by with_reducible repeat (first | exact Ext.refl _ | apply Ext.drew | apply Ext.alloc | apply Ext.more_)))).mono ?_); rintro e w' ⟨rfl, hb⟩; obtain ⟨os1, d1, rfl⟩ := hb.more; clear hb) | (go_at_call 43; (with_reducible refine (htt _).mono ?_); rintro e w' ⟨rfl, hb⟩; obtain ⟨os2, d2, rfl⟩ := hb.more; clear hb) | (go_at_call 18; (with_reducible refine (alone_any _ _).mono ?_); rintro e w' ⟨D, m, cc, rfl, hD, hb⟩; obtain ⟨os5, d5, rfl⟩ := hb.more; clear hb; have hDr := hD.rd))
      all_goals exact bodyPost_ret (v := AV (aloneO kf).R (aloneO kf).C (.slice D m cc)) (by simp [results, Tryd.results26, go_sem]) rfl ⟨D, m, cc, rfl, ⟨(by (try simp only [more_more] at hDr); (try simp only [drew_more] at hDr); (try simp only [more_drew] at hDr); (try simp only [Array.append_assoc] at hDr); exact Rd.swap hDr (by first | (simp; done) | (simp; omega) | omega) (by first | (simp; done) | (simp; omega) | omega) (by first | (simp; done) | (simp; omega) | omega)), hD.len, hD.cap, hD.small, hD.ok⟩, by with_reducible repeat (first | exact Ext.refl _ | apply Ext.drew | apply Ext.alloc | apply Ext.more_)⟩
  · have hX : vlookO ⟨R2, C2, l2⟩ (x, xf) (kk, kf) (uu, uf) = aloneO xf := by unfold vlookO; simp [hxf]
    rw [hX]
    have hxf' : (xf != 0) = true := by simpa using hxf
    clear hX hxf
    go_enter Tryd.func26, Tryd.ntmps26
    go_wp2_with (first | (go_at_call 36; (with_reducible refine (hso _ (HT.out.ext (by with_reducible repeat (first | exact Ext.refl _ | apply Ext.drew | apply Ext.alloc | apply Ext.more_))) (haa.ext (by with_reducible repeat (first | exact Ext.refl _ | apply Ext.drew | apply Ext.alloc | apply Ext.more_)))).mono ?_); rintro e w' ⟨rfl, hb⟩; obtain ⟨os0, d0, rfl⟩ := hb.more; clear hb) | (go_at_call 34; (with_reducible refine (hw _ (hqa.ext (by with_reducible repeat (first | exact Ext.refl _ | apply Ext.drew | apply Ext.alloc | apply Ext.more_)))).mono ?_); rintro e w' ⟨rfl, hb⟩; obtain ⟨os1, d1, rfl⟩ := hb.more; clear hb) | (go_at_call 43; (with_reducible refine (htt _).mono ?_); rintro e w' ⟨rfl, hb⟩; obtain ⟨os2, d2, rfl⟩ := hb.more; clear hb) | (go_at_call 18; (with_reducible refine (alone_any _ _).mono ?_); rintro e w' ⟨D, m, cc, rfl, hD, hb⟩; obtain ⟨os5, d5, rfl⟩ := hb.more; clear hb; have hDr := hD.rd))
    all_goals exact bodyPost_ret (v := AV (aloneO xf).R (aloneO xf).C (.slice D m cc)) (by simp [results, Tryd.results26, go_sem]) rfl ⟨D, m, cc, rfl, ⟨(by (try simp only [more_more] at hDr); (try simp only [drew_more] at hDr); (try simp only [more_drew] at hDr); (try simp only [Array.append_assoc] at hDr); exact Rd.swap hDr (by first | (simp; done) | (simp; omega) | omega) (by first | (simp; done) | (simp; omega) | omega) (by first | (simp; done) | (simp; omega) | omega)), hD.len, hD.cap, hD.small, hD.ok⟩, by with_reducible repeat (first | exact Ext.refl _ | apply Ext.drew | apply Ext.alloc | apply Ext.more_)⟩
end Go.Proofs.YtljgagjipamdeaaDoor
namespace Go.Proofs.YtljgagjipamdeaaDoor
open Go.RowKit NM
theorem info_arr : (Tryd.prog.info? 24).map (fun i => (i.zero, i.size, i.bytes)) = some (some (AV 0 0 (.slice none 0 0)), 3, 40) := by kernel_rfl
theorem acells_one {xs : List Ar} : ∀ u ∈ acells xs, u.oneCell' = true := by
  intro u hu
  simp only [acells, List.mem_flatMap] at hu
  obtain ⟨x, _, hx⟩ := hu
  simp only [Ar.cells, List.mem_cons, List.not_mem_nil, or_false] at hx
  rcases hx with rfl | rfl | rfl <;> rfl
theorem own_some {w : World} {base size n : Nat} {e : TypeId} {v : Value} {cs : List Value} (h : w.ownsRow base e size v n cs) (hn : 0 < n) :
    ∃ g cap cur, v = .slice (some ⟨g, 0, none⟩) n cap ∧ base ≤ g ∧ w.heap[g]? = some (.cells cur e (0, 0)) ∧ n ≤ cap ∧ ∀ (j : Nat) (u : Value), cs[j]? = some u → cur[j]? = some u := by
  obtain ⟨h1, h2⟩ := id h
  rcases h2 with ⟨_, rfl⟩ | ⟨g, cap, cur, rfl, h3, h4, h5, h6, h7, h8⟩
  · omega
  · refine ⟨g, cap, cur, rfl, h3, h4, h5, fun j u hu => ?_⟩
    have := h.cells (g := g) rfl j u hu
    rw [Addr.add_mid, Nat.zero_add, cell_of_row _ _ _ _ _ _ h4] at this
    exact this
theorem put3_at {W : World} {g : Nat} {cur : Array Value} {t : TypeId} (hg : W.heap[g]? = some (.cells cur t (0, 0))) {a p p' q s : Ar} (hc : ∀ (j : Nat) (u : Value), (acells [a, p, q, s])[j]? = some u → cur[j]? = some u) (base : Nat) (hb : base ≤ g) (os : Array Obj) (d : Nat) :
    Rd base (more (((W.setCell ⟨g, 3, none⟩ (.int .i64 p'.x.R)).setCell ⟨g, 4, none⟩ (.int .i64 p'.x.C)).setCell ⟨g, 5, none⟩ (.slice p'.A p'.n p'.cap)) os d) (some ⟨g, 0, none⟩) (acells [a, p', q, s]) := by
  intro j u hu
  refine ⟨g, 0, rfl, hb, ?_⟩
  have hlt : g < W.heap.size := lt_of_block hg
  rw [more_cell _ _ _ _ _ (by simpa [World.setCell] using hlt), Nat.zero_add]
  have hl : (acells [a, p', q, s]).length = 12 := rfl
  have hj : j < 12 := by have := (List.getElem?_eq_some_iff.1 hu).1; omega
  have hcj := hc j
  have h3 := hc 3 _ rfl
  have h4 := hc 4 _ rfl
  have h5 := hc 5 _ rfl
  have e3 := (Array.getElem?_eq_some_iff.1 h3).1
  have e4 := (Array.getElem?_eq_some_iff.1 h4).1
  have e5 := (Array.getElem?_eq_some_iff.1 h5).1
  have hall : j = 0 ∨ j = 1 ∨ j = 2 ∨ j = 3 ∨ j = 4 ∨ j = 5 ∨ j = 6 ∨ j = 7 ∨ j = 8 ∨ j = 9 ∨ j = 10 ∨ j = 11 := by omega
  rcases hall with rfl | rfl | rfl | rfl | rfl | rfl | rfl | rfl | rfl | rfl | rfl | rfl <;>
    (simp [acells, Ar.cells] at hu hcj; subst hu; simp [World.cell?, World.setCell, Array.getElem?_modify, hg, e3, e4, e5, hcj])
set_option maxHeartbeats 4000000 in
theorem beside4_any (A : Option Addr) (cap : Nat) (a p q s : Ar) (v k u : Val) (w : World) (htab : Tab w) (h : ArgsIn w A 4 cap [a, p, q, s]) (hv : a.x.l[0]? = some v) (hk : q.x.l[0]? = some k) (hu : s.x.l[0]? = some u) (hvr : v.right) (hkr : k.right) (hur : u.right) :
    Calls Tryd.prog 27 #[.slice A 4 cap] w fun e w' => ResA w (vlookO (turnN p.x) (soughtO v) (wholeO k) (truthO u)) e w' := by
  obtain ⟨b, off, rfl, hbl, _, _, _, _, ha, hp, hq, hs⟩ := args4 h
  obtain ⟨i0, hi0, hz0, hz1, hz2⟩ := info_parts info_arr
  have hrd := h.rd
  have hlen : (acells [a, p, q, s]).length = 4 * 3 := rfl
  have hcap := h.cap
  have HT := Lib.hid htab
  generalize hX : vlookO (turnN p.x) (soughtO v) (wholeO k) (truthO u) = X
  have hbel := fun A cap (p' : Ar) W (hT : Tab W) (hW : ArgsIn W A 4 cap [a, p', q, s]) (he : p'.x = turnN p.x) => (below4_any A cap a p' q s v k u W hT hW hv hk hu hvr hkr hur)
  clear htab
  go_enter Tryd.func27, Tryd.ntmps27
  go_wp2_with (first | (at_builtin; go_loud (refine wpList_append_own _ rfl _ _ _ rfl (w.heap.size + 1) 24 i0 (AV 0 0 (.slice none 0 0)) 3 40 Tryd.underlying32 hi0 hz0 hz1 hz2 rfl (by decide) _ _ _ rfl (World.ownsRow_nil _ _ _ _) _ 4 _ (acells [a, p, q, s]) rfl hlen (fun j u hu => (hrd.ext ((Ext.refl w).alloc (.cells #[.int .i64 0, .int .i64 0, .slice none 0 0] 24))).add j u hu) acells_one (by simp only [maxLen]; omega) (by omega) (by simp) ?_); intro v3 w3 ho3 hg3 _; obtain ⟨g, cap3, cur, rfl, hgb, hgh, hc3, hcc⟩ := own_some ho3 (by decide); have hx3 : Ext w w3 := ((Ext.refl w).alloc _).trans (Ext.of_grown hg3); have c3 := (cell_of_row _ _ 3 _ _ _ hgh).trans (hcc 3 _ rfl); have c4 := (cell_of_row _ _ 4 _ _ _ hgh).trans (hcc 4 _ rfl); have c5 := (cell_of_row _ _ 5 _ _ _ hgh).trans (hcc 5 _ rfl); have f3 := frozen_of_row _ _ 3 _ _ hgh; have f4 := frozen_of_row _ _ 4 _ _ hgh; have f5 := frozen_of_row _ _ 5 _ _ hgh; have hgl := lt_of_block hgh))
  refine (turn_res p.x p.A p.n p.cap _ (hp.arr.ext (by with_reducible repeat (first | exact Ext.refl _ | exact hx3 | apply Ext.drew | apply Ext.alloc | apply Ext.more_))) hp.right).mono ?_
  rintro e w' ⟨D, m, cc, rfl, hD, hb⟩
  obtain ⟨os, d, rfl⟩ := hb.more
  clear hb
  go_wp2_with fail
  obtain ⟨W4, hW4⟩ : ∃ W, W = more (((w3.setCell ⟨g, 3, none⟩ (.int .i64 (turnN p.x).R)).setCell ⟨g, 4, none⟩ (.int .i64 (turnN p.x).C)).setCell ⟨g, 5, none⟩ (.slice D m cc)) os d := ⟨_, rfl⟩
  rw [← hW4]
  have hg' : w.heap.size ≤ g := by omega
  have hx4 : Ext w W4 := by rw [hW4]; exact (((hx3.set (p := ⟨g, 3, none⟩) _ hg').set (p := ⟨g, 4, none⟩) _ hg').set (p := ⟨g, 5, none⟩) _ hg').more_ os d
  have hpD : ArOk W4 ⟨turnN p.x, D, m, cc⟩ := ⟨⟨by rw [hW4]; exact Rd.swap hD.rd (Nat.le_refl _) (by simp [World.setCell]) (Nat.zero_le _), hD.len, hD.cap, hD.small, hD.ok⟩, turnN_right hp.right⟩
  have hargs : ArgsIn W4 (some ⟨g, 0, none⟩) 4 cap3 [a, ⟨turnN p.x, D, m, cc⟩, q, s] := by
    refine ⟨?_, rfl, hc3, by decide, ?_⟩
    · rw [hW4]; exact put3_at (p' := ⟨turnN p.x, D, m, cc⟩) hgh hcc 0 (Nat.zero_le _) os d
    · intro z hz
      simp only [List.mem_cons, List.not_mem_nil, or_false] at hz
      rcases hz with rfl | rfl | rfl | rfl
      · exact ha.ext hx4
      · exact hpD
      · exact hq.ext hx4
      · exact hs.ext hx4
  have hv0 : W4.heap[w.heap.size]? = some (.cells #[.int .i64 0, .int .i64 0, .slice none 0 0] 24) := by
    have e1 : w3.heap[w.heap.size]? = some (.cells #[.int .i64 0, .int .i64 0, .slice none 0 0] 24) := ((Ext.of_grown hg3).block (by simp)).trans (heap_alloc_new _ _)
    rw [hW4, (ext_more _ os d).block (by simp [World.setCell]; exact lt_of_block e1), Below.heap_setCell _ _ _ _ (by show w.heap.size ≠ g; omega), Below.heap_setCell _ _ _ _ (by show w.heap.size ≠ g; omega), Below.heap_setCell _ _ _ _ (by show w.heap.size ≠ g; omega)]
    exact e1
  have hb4 := hbel _ cap3 ⟨turnN p.x, D, m, cc⟩ W4 (HT.out.ext hx4) hargs rfl
  rw [hX] at hb4
  have l0 := lt_of_block hv0
  have i1 : W4.cell? ⟨w.heap.size, 0, none⟩ = some (.int .i64 0) := cell_of_row _ _ 0 _ _ _ hv0
  have i2 : W4.cell? ⟨w.heap.size, 1, none⟩ = some (.int .i64 0) := cell_of_row _ _ 1 _ _ _ hv0
  have i3 : W4.cell? ⟨w.heap.size, 2, none⟩ = some (.slice none 0 0) := cell_of_row _ _ 2 _ _ _ hv0
  have j1 := frozen_of_row _ _ 0 _ _ hv0
  have j2 := frozen_of_row _ _ 1 _ _ hv0
  have j3 := frozen_of_row _ _ 2 _ _ hv0
  refine hb4.mono ?_
  rintro e w' ⟨D5, m5, c5', rfl, hD5, hb⟩
  obtain ⟨os5, d5, rfl⟩ := hb.more
  have hDr := hD5.rd
  clear hb hb4 hW4 hargs hpD hD hX hbel c3 c4 c5 f3 f4 f5 hgh hcc hg3
  have hsz := hx4.size
  go_wp2_with fail
  obtain ⟨W5, hW5⟩ : ∃ W, W = ((W4.setCell ⟨w.heap.size, 0, none⟩ (.int .i64 X.R)).setCell ⟨w.heap.size, 1, none⟩ (.int .i64 X.C)).setCell ⟨w.heap.size, 2, none⟩ (.slice D5 m5 c5') := ⟨_, rfl⟩
  rw [← hW5]
  have hv5 : W5.heap[w.heap.size]? = some (.cells #[.int .i64 X.R, .int .i64 X.C, .slice D5 m5 c5'] 24) := by rw [hW5]; simp [World.setCell, Array.getElem?_modify, hv0]
  have hx5 : Ext w W5 := by rw [hW5]; exact ((hx4.set (p := ⟨w.heap.size, 0, none⟩) _ (Nat.le_refl _)).set (p := ⟨w.heap.size, 1, none⟩) _ (Nat.le_refl _)).set (p := ⟨w.heap.size, 2, none⟩) _ (Nat.le_refl _)
  have hs5 : W5.heap.size = W4.heap.size := by rw [hW5]; simp [World.setCell]
  clear hW5
  have l5 := lt_of_block hv5
  have z1 : W5.cell? ⟨w.heap.size, 0, none⟩ = some (.int .i64 X.R) := cell_of_row _ _ 0 _ _ _ hv5
  have z2 : W5.cell? ⟨w.heap.size, 1, none⟩ = some (.int .i64 X.C) := cell_of_row _ _ 1 _ _ _ hv5
  have z3 : W5.cell? ⟨w.heap.size, 2, none⟩ = some (.slice D5 m5 c5') := cell_of_row _ _ 2 _ _ _ hv5
  refine bodyPost_ret (v := AV X.R X.C (.slice D5 m5 c5')) (by simp [results, Tryd.results27, go_sem, l5, z1, z2, z3]) rfl ⟨D5, m5, c5', rfl, ⟨Rd.swap hDr (Nat.le_refl _) hs5 hsz, hD5.len, hD5.cap, hD5.small, hD5.ok⟩, hx5.more_ os5 d5⟩
end Go.Proofs.YtljgagjipamdeaaDoor
namespace Go.Proofs.YtljgagjipamdeaaDoor
open Go.RowKit NM
theorem cmpK_same {a b : Val} (h : a.kind = b.kind) : cmpK a b = if a.kind = 1 then cmpS a.mant a.exp b.mant b.exp else if a.kind = 2 then cmpT a.text b.text else if a.kind = 3 then sgB a.truth b.truth else if a.kind = 4 then sgI a.fault b.fault else 0 := by
  unfold cmpK
  rw [if_neg (fun h' => h' h)]
end Go.Proofs.YtljgagjipamdeaaDoor
namespace Go.Proofs.YtljgagjipamdeaaDoor
open Go.RowKit NM
theorem floor_self {m e : Int} (h : Rt m e) (he : 0 ≤ e) : floorS m e = (m, e) := by
  unfold floorS
  rw [if_neg (fun h' => h' h), if_pos he]
theorem int_whole {n : Int} (h : n.natAbs < T 15) : intS (wholeN n).1 (wholeN n).2 = some n := by
  obtain ⟨h1, h2, h3, h4, h5⟩ := wholex h
  generalize wholeN n = p at *
  obtain ⟨m, e⟩ := p
  simp only at *
  have hH := HX_pos
  have hq : m * (T e.toNat : Nat) = n := by
    rw [sc_whole h5, sc_whole (m := n) (e := 0) (by omega)] at h3
    have h6 := Int.eq_of_mul_eq_mul_right (by omega) h3
    rw [h6]
    show n * ((T 0 : Nat) : Int) = n
    simp [T]
  have hT15 : T 15 = 1000000000000000 := by decide
  rw [hT15] at h
  unfold intS
  rw [if_neg (by rintro (h | h); exact h h2; omega), int_go _ _ (by rw [hq]; omega), hq]
theorem whole_cnt {n : Int} (h : n.natAbs < T 15) : wholeO (cntV n) = (n, 0) := by
  obtain ⟨h1, h2, h3, h4, h5⟩ := wholex h
  have hi := int_whole h
  have h6 : tnF (cntV n) = 0 := rfl
  have h7 : tnP (cntV n) = ((wholeN n).1, (wholeN n).2) := rfl
  unfold wholeO
  rw [if_pos h6, h7]
  simp only
  rw [floor_self h2 h5]
  simp only
  rw [hi]
  rfl
end Go.Proofs.YtljgagjipamdeaaDoor
namespace Go.Proofs.YtljgagjipamdeaaDoor
open Go.RowKit NM
theorem rnumber_any (m e : Int) (w : World) :
    Calls Tryd.prog 21 #[NV m e] w fun r w' => r = .returned (VV 1 m e ⟨#[]⟩ false 0) ∧ Ext w w' := by
  go_enter Tryd.func21, Tryd.ntmps21
  go_wp2
  exact bodyPost_ret (v := VV 1 m e ⟨#[]⟩ false 0) (by simp [results, Tryd.results21, go_sem]) rfl ⟨rfl, by with_reducible repeat (first | exact Ext.refl _ | apply Ext.drew | apply Ext.alloc | apply Ext.more_)⟩
end Go.Proofs.YtljgagjipamdeaaDoor
namespace Go.Proofs.YtljgagjipamdeaaDoor
open Go.RowKit NM
theorem cmp_cnt {a b : Int} (ha : a.natAbs < T 15) (hb : b.natAbs < T 15) : cmpV (cntV a) (cntV b) = (a - b).sign := by
  obtain ⟨_, a1, a2, _⟩ := wholex ha
  obtain ⟨_, b1, b2, _⟩ := wholex hb
  have hk : (cntV a).kind = (cntV b).kind := rfl
  rw [cmpV_same hk, cmpK_same hk, if_pos (show (cntV a).kind = 1 from rfl)]
  show cmpS (wholeN a).1 (wholeN a).2 (wholeN b).1 (wholeN b).2 = _
  rw [cmp_sc a1 b1, a2, b2, sc_whole0, sc_whole0, ← Int.sub_mul, Int.sign_mul]
  have : ((T 100 : Nat) : Int).sign = 1 := Int.sign_eq_one_of_pos (by have := T_pos 100; omega)
  rw [this, Int.mul_one]
set_option maxHeartbeats 1000000 in
theorem number14_any (n : Int) (w : World) (hn : n.natAbs < T 15) :
    Calls Tryd.prog 12 #[.int .i64 n] w fun e w' => e = .returned (VV (cntV n).kind (cntV n).mant (cntV n).exp (cntV n).text (cntV n).truth (cntV n).fault) ∧ Ext w w' := by
  have hi : I64 n := by have : T 15 = 1000000000000000 := (by decide); unfold I64; omega
  have hm := fun W => rmake_any n 0 W hi
  rw [show rnd (decide (n < 0)) n.natAbs false 0 = some (wholeN n) from (wholex hn).1] at hm
  simp only [rnV, rm, re, Option.getD_some, Option.isSome_some] at hm
  have hn1 := fun W => rnumber_any (wholeN n).1 (wholeN n).2 W
  unfold cntV
  clear hn hi
  generalize (wholeN n).1 = m1 at *
  generalize (wholeN n).2 = m2 at *
  go_enter Tryd.func12, Tryd.ntmps12
  go_wp2_with (first | (go_at_call 20; (with_reducible refine (hm _).mono ?_); rintro e w' ⟨rfl, hb⟩; obtain ⟨os, d, rfl⟩ := hb.more; clear hb) | (go_at_call 21; (with_reducible refine (hn1 _).mono ?_); rintro e w' ⟨rfl, hb⟩; obtain ⟨os, d, rfl⟩ := hb.more; clear hb))
  exact bodyPost_ret (v := VV 1 m1 m2 ⟨#[]⟩ false 0) (by simp [results, Tryd.results12, go_sem]) rfl ⟨rfl, by repeat (first | (with_reducible (first | exact Ext.refl _ | exact ext_d _ _ _ _ | exact ext_app _ _ _ _ _ | exact ext_app2 _ _ _ _ _ _ | exact ext_app3 _ _ _ _ _ _ _)) | ((with_reducible refine ext_suffix ⟨_, ?_⟩); (try simp only [Array.append_assoc]); rfl) | (with_reducible (first | apply Ext.drew | apply Ext.alloc | apply Ext.more_)))⟩
theorem row14_any (A : Option Addr) (n cap : Nat) (w : World) :
    Calls Tryd.prog 10 #[.slice A n cap] w fun e w' => e = .returned (AV 1 n (.slice A n cap)) ∧ Ext w w' := by
  go_enter Tryd.func10, Tryd.ntmps10
  go_wp2
  exact bodyPost_ret (v := AV 1 n (.slice A n cap)) (by simp [results, Tryd.results10, go_sem]) rfl ⟨rfl, by repeat (first | (with_reducible (first | exact Ext.refl _ | exact ext_d _ _ _ _ | exact ext_app _ _ _ _ _ | exact ext_app2 _ _ _ _ _ _ | exact ext_app3 _ _ _ _ _ _ _)) | ((with_reducible refine ext_suffix ⟨_, ?_⟩); (try simp only [Array.append_assoc]); rfl) | (with_reducible (first | apply Ext.drew | apply Ext.alloc | apply Ext.more_)))⟩
/-- A new block with arguments, with values. -/
theorem argsIn_new {w : World} {t : TypeId} {p : Nat} {cs : Array Value} (xs : List Ar) (hp : p = w.heap.size) (hc : cs = (acells xs).toArray) {n : Nat} (hn : xs.length = n) (hs : n ≤ 9223372036854775807) (h : ∀ a ∈ xs, ArOk w a) :
    ArgsIn (w.alloc (.cells cs t)) (some ⟨p, 0, none⟩) n n xs :=
  ⟨by subst hp hc; exact Rd.of_row (heap_alloc_new _ _) 0 (Nat.zero_le _), hn, Nat.le_refl _, hs, fun a ha => (h a ha).ext ((Ext.refl _).alloc _)⟩
theorem arrIn_block {w : World} {t : TypeId} {p : Nat} {cs : Array Value} (l : List Val) (h : w.heap[p]? = some (.cells cs t)) (hc : cs = (vcells l).toArray) {n : Nat} (hn : l.length = n) (hs : n ≤ 9223372036854775807) (hok : ∀ x ∈ l, x.ok) :
    ArrIn w (some ⟨p, 0, none⟩) n n l :=
  ⟨by subst hc; exact Rd.of_row h 0 (Nat.zero_le _), hn, Nat.le_refl _, hs, hok⟩
theorem arrIn_new {w : World} {t : TypeId} {p : Nat} {cs : Array Value} (l : List Val) (hp : p = w.heap.size) (hc : cs = (vcells l).toArray) {n : Nat} (hn : l.length = n) (hs : n ≤ 9223372036854775807) (hok : ∀ x ∈ l, x.ok) :
    ArrIn (w.alloc (.cells cs t)) (some ⟨p, 0, none⟩) n n l := by
  subst hp; exact arrIn_block l (heap_alloc_new _ _) hc hn hs hok
/-- An array of one value; one row. -/
def arOne (y : Val) (p : Nat) : Ar := ⟨⟨1, 1, [y]⟩, some ⟨p, 0, none⟩, 1, 1⟩
def arRow (l : List Val) (A : Option Addr) (n cap : Nat) : Ar := ⟨⟨1, l.length, l⟩, A, n, cap⟩
theorem right_row {l : List Val} (h1 : 1 ≤ l.length) (h2 : l.length ≤ 4096) (hr : ∀ x ∈ l, x.right) : NA.right ⟨1, l.length, l⟩ :=
  rightA_nat.2 ⟨Nat.le_refl _, h1, by show 1 * l.length ≤ 4096; omega, by show l.length = 1 * l.length; omega, hr⟩
theorem arOne_ok {w : World} {y : Val} {p : Nat} (h : ArrIn w (some ⟨p, 0, none⟩) 1 1 [y]) (hr : y.right) : ArOk w (arOne y p) :=
  ⟨h, right_row (l := [y]) (by simp) (by simp) (by simpa using hr)⟩
theorem arRow_ok {w : World} {l : List Val} {A : Option Addr} {n cap : Nat} (h : ArrIn w A n cap l) (h1 : 1 ≤ l.length) (h2 : l.length ≤ 4096) (hr : ∀ x ∈ l, x.right) : ArOk w (arRow l A n cap) :=
  ⟨h, right_row h1 h2 hr⟩
abbrev CallPost (w : World) (X : NA) : Ending → World → Prop := fun e w' => ∃ D m cc, e = .returned (.tuple #[AV X.R X.C (.slice D m cc), .bool true]) ∧ ArrN w.heap.size w' D m cc X.l ∧ Ext w w'
theorem call_match2 (A : Option Addr) (cap : Nat) (a p : Ar) (v : Val) (w : World) (htab : Tab w) (h : ArgsIn w A 2 cap [a, p]) (hv : a.x.l[0]? = some v) (hvr : v.right) (h0 : v.kind ≠ 0) (h4 : v.kind ≠ 4)
    (hl : p.x.R ≤ 1 ∨ p.x.C ≤ 1) (X : NA) (hX : placeO (upToN p.x.l v) = X) :
    Calls Tryd.prog 9 #[.string ⟨#[77, 65, 84, 67, 72]⟩, .slice A 2 cap] w (CallPost w X) := by
  subst hX
  exact call_yes ⟨#[77, 65, 84, 67, 72]⟩ 24 2 3 (by decide) rfl (fun args W => by go_simp) A 2 cap [a, p] w h (by decide) (by decide) _ (fun W hW => match2_upTo A cap a p v W (htab.ext hW) (h.ext hW) hv hvr h0 h4 hl)
theorem call_match3 (A : Option Addr) (cap : Nat) (a p q : Ar) (v u : Val) (k : Int) (w : World) (htab : Tab w) (h : ArgsIn w A 3 cap [a, p, q]) (hv : a.x.l[0]? = some v) (hvr : v.right) (h0 : v.kind ≠ 0) (h4 : v.kind ≠ 4)
    (hu : q.x.l[0]? = some u) (hur : u.right) (hk : wholeO u = (k, 0)) (hl : p.x.R ≤ 1 ∨ p.x.C ≤ 1) (X : NA) (hX : k = 0 ∧ placeO (justN p.x.l v) = X ∨ k = 1 ∧ placeO (upToN p.x.l v) = X) :
    Calls Tryd.prog 9 #[.string ⟨#[77, 65, 84, 67, 72]⟩, .slice A 3 cap] w (CallPost w X) := by
  rcases hX with ⟨rfl, rfl⟩ | ⟨rfl, rfl⟩
  · exact call_yes ⟨#[77, 65, 84, 67, 72]⟩ 24 2 3 (by decide) rfl (fun args W => by go_simp) A 3 cap [a, p, q] w h (by decide) (by decide) _ (fun W hW => match3_just A cap a p q v u W (htab.ext hW) (h.ext hW) hv hvr h0 h4 hu hur hk hl)
  · exact call_yes ⟨#[77, 65, 84, 67, 72]⟩ 24 2 3 (by decide) rfl (fun args W => by go_simp) A 3 cap [a, p, q] w h (by decide) (by decide) _ (fun W hW => match3_upTo A cap a p q v u W (htab.ext hW) (h.ext hW) hv hvr h0 h4 hu hur hk hl)
def lA14 : List Val := [cntV 1, cntV 3, cntV 5, cntV 7]
theorem cmp_awake : cmpV (cntV 1) (cntV 4) = -1 ∧ cmpV (cntV 3) (cntV 4) = -1 ∧ cmpV (cntV 5) (cntV 4) = 1 ∧ cmpV (cntV 7) (cntV 4) = 1 :=
  ⟨by rw [cmp_cnt (by decide) (by decide)]; rfl, by rw [cmp_cnt (by decide) (by decide)]; rfl, by rw [cmp_cnt (by decide) (by decide)]; rfl, by rw [cmp_cnt (by decide) (by decide)]; rfl⟩
theorem upTo_awake : placeO (upToN lA14 (cntV 4)) = oneA (cntV 2) := by
  obtain ⟨c1, c3, c5, c7⟩ := cmp_awake
  have hk : ∀ n, (cntV n).kind = 1 := fun _ => rfl
  have : upToN lA14 (cntV 4) = 1 := by simp [upToN, lA14, lastN, stP, hk, c1, c3, c5, c7]
  rw [this]; rfl
theorem just_awake : placeO (justN lA14 (cntV 4)) = oneA (badV 6) := by
  obtain ⟨c1, c3, c5, c7⟩ := cmp_awake
  have hk : ∀ n, (cntV n).kind = 1 := fun _ => rfl
  have : justN lA14 (cntV 4) = -1 := by simp [justN, lA14, firstN, stP, hk, c1, c3, c5, c7]
  rw [this]; rfl
theorem lA14_right : ∀ x ∈ lA14, x.right := by
  intro x hx
  simp only [lA14, List.mem_cons, List.not_mem_nil, or_false] at hx
  rcases hx with rfl | rfl | rfl | rfl <;> exact cnt_right (by decide)
theorem row_at (w : World) (o1 o2 : Obj) (osa osb : Array Obj) (da db : Nat) {W : World} (hW : W = (more ((more w osa da).alloc o1) osb db).alloc o2) : W.heap[w.heap.size + osa.size]? = some o1 ∧ W.heap[w.heap.size + osa.size + 1 + osb.size]? = some o2 ∧ Ext w W := by
  subst hW
  have x0 : Ext ((more w osa da).alloc o1) ((more ((more w osa da).alloc o1) osb db).alloc o2) := by repeat (first | (with_reducible (first | exact Ext.refl _ | exact ext_d _ _ _ _ | exact ext_app _ _ _ _ _ | exact ext_app2 _ _ _ _ _ _ | exact ext_app3 _ _ _ _ _ _ _)) | ((with_reducible refine ext_suffix ⟨_, ?_⟩); (try simp only [Array.append_assoc]); rfl) | (with_reducible (first | apply Ext.drew | apply Ext.alloc | apply Ext.more_)))
  refine ⟨?_, ?_, by repeat (first | (with_reducible (first | exact Ext.refl _ | exact ext_d _ _ _ _ | exact ext_app _ _ _ _ _ | exact ext_app2 _ _ _ _ _ _ | exact ext_app3 _ _ _ _ _ _ _)) | ((with_reducible refine ext_suffix ⟨_, ?_⟩); (try simp only [Array.append_assoc]); rfl) | (with_reducible (first | apply Ext.drew | apply Ext.alloc | apply Ext.more_)))⟩
  · have h := heap_alloc_new (more w osa da) o1
    rw [show (more w osa da).heap.size = w.heap.size + osa.size by simp] at h
    rw [x0.block (b := w.heap.size + osa.size) (by simp)]
    exact h
  · have h := heap_alloc_new (more ((more w osa da).alloc o1) osb db) o2
    rw [show (more ((more w osa da).alloc o1) osb db).heap.size = w.heap.size + osa.size + 1 + osb.size by simp] at h
    exact h
theorem var_at (w : World) (o : Obj) (osa osb : Array Obj) (da db : Nat) {W : World} (hW : W = more ((more w osa da).alloc o) osb db) : W.heap[w.heap.size + osa.size]? = some o ∧ Ext w W := by
  subst hW
  have x0 : Ext ((more w osa da).alloc o) (more ((more w osa da).alloc o) osb db) := by repeat (first | (with_reducible (first | exact Ext.refl _ | exact ext_d _ _ _ _ | exact ext_app _ _ _ _ _ | exact ext_app2 _ _ _ _ _ _ | exact ext_app3 _ _ _ _ _ _ _)) | ((with_reducible refine ext_suffix ⟨_, ?_⟩); (try simp only [Array.append_assoc]); rfl) | (with_reducible (first | apply Ext.drew | apply Ext.alloc | apply Ext.more_)))
  refine ⟨?_, by repeat (first | (with_reducible (first | exact Ext.refl _ | exact ext_d _ _ _ _ | exact ext_app _ _ _ _ _ | exact ext_app2 _ _ _ _ _ _ | exact ext_app3 _ _ _ _ _ _ _)) | ((with_reducible refine ext_suffix ⟨_, ?_⟩); (try simp only [Array.append_assoc]); rfl) | (with_reducible (first | apply Ext.drew | apply Ext.alloc | apply Ext.more_)))⟩
  have h := heap_alloc_new (more w osa da) o
  rw [show (more w osa da).heap.size = w.heap.size + osa.size by simp] at h
  rw [x0.block (b := w.heap.size + osa.size) (by simp)]
  exact h
theorem heap_var (w : World) (o o' : Obj) (osa osb : Array Obj) (da db : Nat) {b : Nat} (hb : b ≠ w.heap.size + osa.size) :
    (more ((more w osa da).alloc o') osb db).heap[b]? = (more ((more w osa da).alloc o) osb db).heap[b]? := by
  simp only [more, World.alloc, Array.getElem?_append, Array.getElem?_push, Array.size_push, Array.size_append]
  by_cases h : b < w.heap.size + osa.size + 1
  · rw [if_pos h, if_pos h, if_neg hb, if_neg hb]
  · rw [if_neg h, if_neg h]
theorem ArrIn.var3 {w : World} {osa osb : Array Obj} {da db : Nat} {p q r u v x : Value} {t : TypeId} {A : Option Addr} {n cap : Nat} {l : List Val}
    (h : ArrIn (more ((more w osa da).alloc (.cells #[p, q, r] t)) osb db) A n cap l) : ArrIn (more ((more w osa da).alloc (.cells #[u, v, x] t)) osb db) A n cap l := by
  refine ⟨fun j y hu => ?_, h.len, h.cap, h.small, h.ok⟩
  obtain ⟨b', off, hA, hl, hc⟩ := h.rd j y hu
  refine ⟨b', off, hA, hl, ?_⟩
  have hne : b' ≠ w.heap.size + osa.size := by
    intro e
    cases l with
    | nil => simp [vcells] at hu
    | cons z l =>
      obtain ⟨b2, off2, hA', _, hc3⟩ := h.rd 3 (.string z.text) (by simp [vcells, Val.cells])
      rw [hA] at hA'
      simp only [Option.some.injEq, Addr.mk.injEq, and_true] at hA'
      obtain ⟨rfl, rfl⟩ := hA'
      subst e
      have hv := (var_at w (.cells #[p, q, r] t) osa osb da db rfl).1
      simp [World.cell?, hv] at hc3
  rw [← hc]
  exact World.cell?_of_block (a := ⟨b', off + j, none⟩) (heap_var w _ _ osa osb da db hne)
set_option maxHeartbeats 4000000 in
theorem awake14_any (w : World) (htab : Tab w) :
    Calls Tryd.prog 4 #[] w fun e w' => e = .returned (.bool true) ∧ Ext w w' := by
  have h1 := fun W => number14_any 1 W (by decide)
  have h3 := fun W => number14_any 3 W (by decide)
  have h5 := fun W => number14_any 5 W (by decide)
  have h7 := fun W => number14_any 7 W (by decide)
  have h4 := fun W => number14_any 4 W (by decide)
  have h0 := fun W => number14_any 0 W (by decide)
  have h2 := fun W => number14_any 2 W (by decide)
  have r4 := cnt_right (n := 4) (by decide)
  have r0 := cnt_right (n := 0) (by decide)
  have r2 := cnt_right (n := 2) (by decide)
  have k0 := whole_cnt (n := 0) (by decide)
  have hu := upTo_awake
  have hj := just_awake
  have hl := lA14_right
  have q4 : (cntV 4).kind ≠ 0 ∧ (cntV 4).kind ≠ 4 := ⟨by decide, by decide⟩
  generalize hy1 : cntV 1 = y1 at *
  generalize hy3 : cntV 3 = y3 at *
  generalize hy5 : cntV 5 = y5 at *
  generalize hy7 : cntV 7 = y7 at *
  have hL : lA14 = [y1, y3, y5, y7] := by unfold lA14; rw [hy1, hy3, hy5, hy7]
  clear hy1 hy3 hy5 hy7
  generalize cntV 4 = y4 at *
  generalize cntV 0 = y0 at *
  generalize cntV 2 = y2 at *
  rw [hL] at hu hj hl
  clear hL
  have HU := Lib.hid hu
  have HJ := Lib.hid hj
  have HK := Lib.hid k0
  have HT := Lib.hid htab
  clear hu hj htab k0
  go_enter Tryd.func4, Tryd.ntmps4
  go_upto_region 2 with (first | (go_at_call 12; (with_reducible refine (h1 _).mono ?_); rintro e w' ⟨rfl, hb⟩; obtain ⟨os1, d1, rfl⟩ := hb.more; clear hb) | (go_at_call 12; (with_reducible refine (h3 _).mono ?_); rintro e w' ⟨rfl, hb⟩; obtain ⟨os3, d3, rfl⟩ := hb.more; clear hb) | (go_at_call 12; (with_reducible refine (h5 _).mono ?_); rintro e w' ⟨rfl, hb⟩; obtain ⟨os5, d5, rfl⟩ := hb.more; clear hb) | (go_at_call 12; (with_reducible refine (h7 _).mono ?_); rintro e w' ⟨rfl, hb⟩; obtain ⟨os7, d7, rfl⟩ := hb.more; clear hb) | (go_at_call 10; (with_reducible refine (row14_any _ _ _ _).mono ?_); rintro e w' ⟨rfl, hb⟩; obtain ⟨os, d, rfl⟩ := hb.more; clear hb))
  refine wp_world fun W0 hW0 => ?_
  obtain ⟨r1, r2, hwW⟩ := row_at _ _ _ _ _ _ _ hW0
  clear hW0
  simp only [Array.size_append] at r1 r2
  generalize hp0 : w.heap.size + (os1.size + (os3.size + (os5.size + os7.size))) = p0 at *
  generalize hpa : p0 + 1 + os.size = pa at *
  have b1 := lt_of_block r1
  have b2 := lt_of_block r2
  have aL := arrIn_block (n := 4) [y1, y3, y5, y7] r1 rfl rfl (by decide) (fun x hx => (hl x hx).ok)
  have a0 : W0.cell? ⟨pa, 0, none⟩ = some (.int .i64 1) := cell_of_row _ _ 0 _ _ _ r2
  have a1 : W0.cell? ⟨pa, 1, none⟩ = some (.int .i64 4) := cell_of_row _ _ 1 _ _ _ r2
  have a2 : W0.cell? ⟨pa, 2, none⟩ = some (.slice (some ⟨p0, 0, none⟩) 4 4) := cell_of_row _ _ 2 _ _ _ r2
  clear r1 r2 hp0 hpa
  refine wp_float [(9, 2, (.cells #[.int .i64 0, .int .i64 0, .slice none 0 0] 24))] [(3, 0), (0, 1), (1, 1), (2, 1), (4, 1), (5, 1), (6, 0), (7, 0), (8, 2)] [10, 11] [10, 11] [8] (by kernel_rfl) (by kernel_rfl) (by kernel_rfl) (fun _ _ d _ _ h => by cases d <;> exact h) (fun _ _ d _ _ h => by cases d <;> exact h) (fun x hx o ho a w => by (obtain rfl := List.mem_singleton.1 hx); (obtain rfl := Option.some.inj ho); (first | rfl | (simp [go_sem, ptrB]; done) | (go_simp; rfl))) ?_
  (refine wpFp_read (v := ?_) rfl ?_ (fun w1 h1 => ?_) ?_; rotate_left 1; rfl; (obtain ⟨os1, d1, rfl⟩ := h1.more; go_simp; first | done | rfl))
  try simp only [Act.put, zqA, zqB, zqC]
  (refine wpFp_eff rfl ?_ (fun wf hXf hE K hK => ?_); rfl; obtain ⟨osf, df, rfl⟩ := hXf.more; go_simp; refine (h4 _).mono ?_; rintro e w' ⟨rfl, hb⟩; refine hK _ _ (fun _ => True) (by (try simp only [more_drew, more_more, Array.append_assoc]); exact hb) (fun _ _ _ _ => trivial) trivial ?_)
  try simp only [Act.put, zqA, zqB, zqC]
  (refine wpFp_eff rfl ?_ (fun wf hXf hE K hK => ?_); rfl; obtain ⟨osf, df, rfl⟩ := hXf.more; go_simp; generalize hp1 : W0.heap.size + osf.size = p1; refine hK _ _ (fun W => ArrIn W (some ⟨p1, 0, none⟩) 1 1 [y4]) (by (try simp only [drew_more]); exact (Ext.refl _).alloc _) (fun _ _ hx h => h.ext hx) (arrIn_new [y4] (by rw [← hp1]; simp) rfl rfl (by decide) (by simpa using r4.ok)) ?_)
  try simp only [Act.put, zqA, zqB, zqC]
  (refine wpFp_eff rfl ?_ (fun wf hXf hE K hK => ?_); rfl; obtain ⟨osf, df, rfl⟩ := hXf.more; go_simp; refine (row14_any _ _ _ _).mono ?_; rintro e w' ⟨rfl, hb⟩; refine hK _ _ (fun W => ArrIn W (some ⟨p1, 0, none⟩) 1 1 [y4]) (by (try simp only [more_drew, more_more, Array.append_assoc]); exact hb) (fun _ _ hx h => h.ext hx) (hE.ext (by (try simp only [more_drew, more_more, Array.append_assoc]); exact hb)) ?_)
  try simp only [Act.put, zqA, zqB, zqC]
  (refine wpFp_eff rfl ?_ (fun wf hXf hE K hK => ?_); rfl; obtain ⟨osf, df, rfl⟩ := hXf.more; go_simp; generalize hp2 : W0.heap.size + osf.size = p2; refine hK _ _ (fun W => ArgsIn W (some ⟨p2, 0, none⟩) 2 2 [arOne y4 p1, arRow [y1, y3, y5, y7] (some ⟨p0, 0, none⟩) 4 4]) (by (try simp only [drew_more]); exact (Ext.refl _).alloc _) (fun _ _ hx h => h.ext hx) (argsIn_new [arOne y4 p1, arRow [y1, y3, y5, y7] (some ⟨p0, 0, none⟩) 4 4] (by rw [← hp2]; simp) rfl rfl (by decide) (by intro a ha; rcases List.mem_cons.1 ha with rfl | ha; exact arOne_ok hE r4; obtain rfl := List.mem_singleton.1 ha; exact arRow_ok (aL.ext (by repeat (first | (with_reducible (first | exact Ext.refl _ | exact ext_d _ _ _ _ | exact ext_app _ _ _ _ _ | exact ext_app2 _ _ _ _ _ _ | exact ext_app3 _ _ _ _ _ _ _)) | ((with_reducible refine ext_suffix ⟨_, ?_⟩); (try simp only [Array.append_assoc]); rfl) | (with_reducible (first | apply Ext.drew | apply Ext.alloc | apply Ext.more_))))) (by simp) (by simp) hl)) ?_)
  try simp only [Act.put, zqA, zqB, zqC]
  (refine wpFp_eff rfl ?_ (fun wf hXf hE K hK => ?_); rfl; obtain ⟨osf, df, rfl⟩ := hXf.more; go_simp; refine (call_match2 _ _ (arOne y4 p1) (arRow [y1, y3, y5, y7] (some ⟨p0, 0, none⟩) 4 4) y4 _ (HT.out.ext (by with_reducible repeat (first | exact Ext.refl _ | exact hwW | apply Ext.drew | apply Ext.alloc | apply Ext.more_))) hE rfl r4 q4.1 q4.2 (Or.inl (Nat.le_refl 1)) _ HU.out).mono ?_; rintro e w' ⟨D2, m2, c2, rfl, hN, hb⟩; refine hK _ _ (fun W => ArrIn W D2 m2 c2 [y2]) (by (try simp only [more_drew, more_more, Array.append_assoc]); exact hb) (fun _ _ hx h => h.ext hx) hN.arr ?_)
  try simp only [Act.put, zqA, zqB, zqC]
  iterate 2 ((refine wpFp_read (v := ?_) rfl ?_ (fun w1 h1 => ?_) ?_; rotate_left 1; rfl; (obtain ⟨os1, d1, rfl⟩ := h1.more; go_simp; first | done | rfl)); try simp only [Act.put, zqA, zqB, zqC])
  (refine wpFp_pure (v := ?_) rfl ?_ (fun w1 => ?_) ?_; rotate_left 1; rfl; (go_simp; first | done | rfl))
  try simp only [Act.put, zqA, zqB, zqC]
  refine wpFp_one fun osa da osb db hE => ?_
  try simp only [Act.put, zqA, zqB, zqC]
  iterate 2 ((refine wpTl_op rfl ?_ (fun K hK => ?_); rfl; go_simp; refine hK _ _ ?_); try simp only [Act.put, zqA, zqB, zqC])
  refine wpTl_nil ?_
  go_upto_region 3 with fail
  refine wp_world fun W1 hW1 => ?_
  obtain ⟨r1, hx01⟩ := var_at _ _ _ _ _ _ hW1
  have aY : ArrIn W1 D2 m2 c2 [y2] := by rw [hW1]; exact hE.var3
  clear hW1 hE
  have hwW1 := hwW.trans hx01
  have c0 := hx01.cell_some a0
  have c1 := hx01.cell_some a1
  have c2 := hx01.cell_some a2
  have aL1 := aL.ext hx01
  have b3 := lt_of_block r1
  have b4 : pa < W1.heap.size := Nat.lt_of_lt_of_le b2 hx01.size
  generalize hpb : W0.heap.size + osa.size = pb at *
  clear a0 a1 a2 aL b1 b2 hpb hwW hx01
  refine wp_float [(12, 4, (.cells #[.int .i64 0, .int .i64 0, .slice none 0 0] 24))] [(3, 0), (0, 1), (1, 1), (2, 1), (4, 1), (5, 1), (6, 1), (7, 1), (8, 1), (9, 0), (10, 0), (11, 2)] [13, 14] [13, 14] [11] (by kernel_rfl) (by kernel_rfl) (by kernel_rfl) (fun _ _ d _ _ h => by cases d <;> exact h) (fun _ _ d _ _ h => by cases d <;> exact h) (fun x hx o ho a w => by (obtain rfl := List.mem_singleton.1 hx); (obtain rfl := Option.some.inj ho); (first | rfl | (simp [go_sem, ptrB]; done) | (go_simp; rfl))) ?_
  (refine wpFp_read (v := ?_) rfl ?_ (fun w1 h1 => ?_) ?_; rotate_left 1; rfl; (obtain ⟨os1, d1, rfl⟩ := h1.more; go_simp; first | done | rfl))
  try simp only [Act.put, zqA, zqB, zqC]
  (refine wpFp_eff rfl ?_ (fun wf hXf hE K hK => ?_); rfl; obtain ⟨osf, df, rfl⟩ := hXf.more; go_simp; refine (h4 _).mono ?_; rintro e w' ⟨rfl, hb⟩; refine hK _ _ (fun _ => True) (by (try simp only [more_drew, more_more, Array.append_assoc]); exact hb) (fun _ _ _ _ => trivial) trivial ?_)
  try simp only [Act.put, zqA, zqB, zqC]
  (refine wpFp_eff rfl ?_ (fun wf hXf hE K hK => ?_); rfl; obtain ⟨osf, df, rfl⟩ := hXf.more; go_simp; generalize hq1 : W1.heap.size + osf.size = q1; refine hK _ _ (fun W => ArrIn W (some ⟨q1, 0, none⟩) 1 1 [y4]) (by (try simp only [drew_more]); exact (Ext.refl _).alloc _) (fun _ _ hx h => h.ext hx) (arrIn_new [y4] (by rw [← hq1]; simp) rfl rfl (by decide) (by simpa using r4.ok)) ?_)
  try simp only [Act.put, zqA, zqB, zqC]
  (refine wpFp_eff rfl ?_ (fun wf hXf hE K hK => ?_); rfl; obtain ⟨osf, df, rfl⟩ := hXf.more; go_simp; refine (row14_any _ _ _ _).mono ?_; rintro e w' ⟨rfl, hb⟩; refine hK _ _ (fun W => ArrIn W (some ⟨q1, 0, none⟩) 1 1 [y4]) (by (try simp only [more_drew, more_more, Array.append_assoc]); exact hb) (fun _ _ hx h => h.ext hx) (hE.ext (by (try simp only [more_drew, more_more, Array.append_assoc]); exact hb)) ?_)
  try simp only [Act.put, zqA, zqB, zqC]
  (refine wpFp_eff rfl ?_ (fun wf hXf hE K hK => ?_); rfl; obtain ⟨osf, df, rfl⟩ := hXf.more; go_simp; refine (h0 _).mono ?_; rintro e w' ⟨rfl, hb⟩; refine hK _ _ (fun W => ArrIn W (some ⟨q1, 0, none⟩) 1 1 [y4]) (by (try simp only [more_drew, more_more, Array.append_assoc]); exact hb) (fun _ _ hx h => h.ext hx) (hE.ext (by (try simp only [more_drew, more_more, Array.append_assoc]); exact hb)) ?_)
  try simp only [Act.put, zqA, zqB, zqC]
  (refine wpFp_eff rfl ?_ (fun wf hXf hE K hK => ?_); rfl; obtain ⟨osf, df, rfl⟩ := hXf.more; go_simp; generalize hq2 : W1.heap.size + osf.size = q2; refine hK _ _ (fun W => ArrIn W (some ⟨q1, 0, none⟩) 1 1 [y4] ∧ ArrIn W (some ⟨q2, 0, none⟩) 1 1 [y0]) (by (try simp only [drew_more]); exact (Ext.refl _).alloc _) (fun _ _ hx h => ⟨h.1.ext hx, h.2.ext hx⟩) ⟨hE.ext ((Ext.refl _).alloc _), arrIn_new [y0] (by rw [← hq2]; simp) rfl rfl (by decide) (by simpa using r0.ok)⟩ ?_)
  try simp only [Act.put, zqA, zqB, zqC]
  (refine wpFp_eff rfl ?_ (fun wf hXf hE K hK => ?_); rfl; obtain ⟨osf, df, rfl⟩ := hXf.more; go_simp; refine (row14_any _ _ _ _).mono ?_; rintro e w' ⟨rfl, hb⟩; refine hK _ _ (fun W => ArrIn W (some ⟨q1, 0, none⟩) 1 1 [y4] ∧ ArrIn W (some ⟨q2, 0, none⟩) 1 1 [y0]) (by (try simp only [more_drew, more_more, Array.append_assoc]); exact hb) (fun _ _ hx h => ⟨h.1.ext hx, h.2.ext hx⟩) ⟨hE.1.ext (by (try simp only [more_drew, more_more, Array.append_assoc]); exact hb), hE.2.ext (by (try simp only [more_drew, more_more, Array.append_assoc]); exact hb)⟩ ?_)
  try simp only [Act.put, zqA, zqB, zqC]
  (refine wpFp_eff rfl ?_ (fun wf hXf hE K hK => ?_); rfl; obtain ⟨osf, df, rfl⟩ := hXf.more; go_simp; generalize hq3 : W1.heap.size + osf.size = q3; refine hK _ _ (fun W => ArgsIn W (some ⟨q3, 0, none⟩) 3 3 [arOne y4 q1, arRow [y1, y3, y5, y7] (some ⟨p0, 0, none⟩) 4 4, arOne y0 q2]) (by (try simp only [drew_more]); exact (Ext.refl _).alloc _) (fun _ _ hx h => h.ext hx) (argsIn_new [arOne y4 q1, arRow [y1, y3, y5, y7] (some ⟨p0, 0, none⟩) 4 4, arOne y0 q2] (by rw [← hq3]; simp) rfl rfl (by decide) (by intro a ha; rcases List.mem_cons.1 ha with rfl | ha; exact arOne_ok hE.1 r4; rcases List.mem_cons.1 ha with rfl | ha; exact arRow_ok (aL1.ext (by repeat (first | (with_reducible (first | exact Ext.refl _ | exact ext_d _ _ _ _ | exact ext_app _ _ _ _ _ | exact ext_app2 _ _ _ _ _ _ | exact ext_app3 _ _ _ _ _ _ _)) | ((with_reducible refine ext_suffix ⟨_, ?_⟩); (try simp only [Array.append_assoc]); rfl) | (with_reducible (first | apply Ext.drew | apply Ext.alloc | apply Ext.more_))))) (by simp) (by simp) hl; obtain rfl := List.mem_singleton.1 ha; exact arOne_ok hE.2 r0)) ?_)
  try simp only [Act.put, zqA, zqB, zqC]
  (refine wpFp_eff rfl ?_ (fun wf hXf hE K hK => ?_); rfl; obtain ⟨osf, df, rfl⟩ := hXf.more; go_simp; refine (call_match3 _ _ (arOne y4 q1) (arRow [y1, y3, y5, y7] (some ⟨p0, 0, none⟩) 4 4) (arOne y0 q2) y4 y0 0 _ (HT.out.ext (hwW1.trans (by repeat (first | (with_reducible (first | exact Ext.refl _ | exact ext_d _ _ _ _ | exact ext_app _ _ _ _ _ | exact ext_app2 _ _ _ _ _ _ | exact ext_app3 _ _ _ _ _ _ _)) | ((with_reducible refine ext_suffix ⟨_, ?_⟩); (try simp only [Array.append_assoc]); rfl) | (with_reducible (first | apply Ext.drew | apply Ext.alloc | apply Ext.more_)))))) hE rfl r4 q4.1 q4.2 rfl r0 HK.out (Or.inl (Nat.le_refl 1)) _ (Or.inl ⟨rfl, HJ.out⟩)).mono ?_; rintro e w' ⟨D3, m3, c3, rfl, hN, hb⟩; refine hK _ _ (fun W => ArrIn W D3 m3 c3 [badV 6]) (by (try simp only [more_drew, more_more, Array.append_assoc]); exact hb) (fun _ _ hx h => h.ext hx) hN.arr ?_)
  try simp only [Act.put, zqA, zqB, zqC]
  iterate 2 ((refine wpFp_read (v := ?_) rfl ?_ (fun w1 h1 => ?_) ?_; rotate_left 1; rfl; (obtain ⟨os1, d1, rfl⟩ := h1.more; go_simp; first | done | rfl)); try simp only [Act.put, zqA, zqB, zqC])
  (refine wpFp_pure (v := ?_) rfl ?_ (fun w1 => ?_) ?_; rotate_left 1; rfl; (go_simp; first | done | rfl))
  try simp only [Act.put, zqA, zqB, zqC]
  refine wpFp_one fun osa da osb db hE => ?_
  try simp only [Act.put, zqA, zqB, zqC]
  iterate 2 ((refine wpTl_op rfl ?_ (fun K hK => ?_); rfl; go_simp; refine hK _ _ ?_); try simp only [Act.put, zqA, zqB, zqC])
  refine wpTl_nil ?_
  go_upto_region 4 with fail
  refine wp_world fun W2 hW2 => ?_
  obtain ⟨r3, hx12⟩ := var_at _ _ _ _ _ _ hW2
  have aZ : ArrIn W2 D3 m3 c3 [badV 6] := by rw [hW2]; exact hE.var3
  clear hW2 hE
  have aY2 := aY.ext hx12
  have hr1 := (hx12.block (lt_of_block r1)).trans r1
  generalize hpc : W1.heap.size + osa.size = pc at *
  have b5 := lt_of_block hr1
  have b6 := lt_of_block r3
  have e0 : W2.cell? ⟨pb, 0, none⟩ = some (.int .i64 (oneA y2).R) := cell_of_row _ _ 0 _ _ _ hr1
  have e1 : W2.cell? ⟨pb, 1, none⟩ = some (.int .i64 (oneA y2).C) := cell_of_row _ _ 1 _ _ _ hr1
  have e2 := cell_of_row _ _ 2 _ _ _ hr1
  have f0 : W2.cell? ⟨pc, 0, none⟩ = some (.int .i64 (oneA (badV 6)).R) := cell_of_row _ _ 0 _ _ _ r3
  have f1 : W2.cell? ⟨pc, 1, none⟩ = some (.int .i64 (oneA (badV 6)).C) := cell_of_row _ _ 1 _ _ _ r3
  have f2 := cell_of_row _ _ 2 _ _ _ r3
  have s1 : sameA (oneA y2).R (oneA y2).C [y2] 1 1 [y2] = true := by simp [sameA, oneA]
  have s2 : sameA (oneA (badV 6)).R (oneA (badV 6)).C [badV 6] 1 1 [badV 6] = true := by simp [sameA, oneA]
  have hwW2 := hwW1.trans hx12
  have ok2 := r2.ok
  clear hr1 r3 r1 hpc aY aL1 b3 b4 c0 c1 hx12
  refine wp_plan (S := Ext _) [(0, 0), (1, 0), (2, 0), (3, 0), (4, 0), (5, 0), (6, 1), (7, 1), (8, 1), (9, 1), (10, 0), (11, 0), (12, 0), (13, 1), (14, 1), (15, 0), (16, 0)] [] (by kernel_rfl) (by kernel_rfl) (by kernel_rfl) (fun _ _ d _ _ h => by cases d <;> exact h) (Ext.drew (Ext.refl _)) ?_
  iterate 2 ((refine wpPl_read (v := ?_) rfl ?_ (fun _ h => ?_) ?_; rotate_left 1; rfl; (obtain ⟨_, _, rfl⟩ := h.more; go_simp; try rfl)); try simp only [Act.put, zqA, zqB, zqC])
  first | (refine wpPl_skip rfl rfl ?_) | (refine wpPl_read (v := ?_) rfl ?_ (fun w1 h1 => ?_) ?_; rotate_left 1; rfl; (obtain ⟨os1, d1, rfl⟩ := h1.more; go_simp; first | done | rfl)) | (refine wpPl_gread (v := ?_) (c := ?_) rfl rfl rfl rfl ?_ (fun hc w1 h1 => ?_) ?_; rotate_left 2; (first | exact gc_t _ | exact gc_f _ | exact gc_gt _ _ | exact gc_gf _ _); (obtain ⟨os1, d1, rfl⟩ := h1.more; (try simp only [gv_of hc]); (try (have hc1 := and_l hc; (try simp only [gv_of hc1]); (try (have hc2 := and_l hc1; (try simp only [gv_of hc2]))))); go_simp; first | done | rfl))
  try simp only [Act.put, zqA, zqB, zqC]
  first | (refine wpPl_pick_and rfl rfl rfl rfl rfl rfl ?_) | (refine wpPl_pick_or rfl rfl rfl rfl rfl rfl ?_) | (refine wpPl_read (v := ?_) rfl ?_ (fun w1 h1 => ?_) ?_; rotate_left 1; rfl; (obtain ⟨os1, d1, rfl⟩ := h1.more; go_simp; first | done | rfl))
  try simp only [Act.put, zqA, zqB, zqC]
  (refine wpPl_read (v := ?_) rfl ?_ (fun _ h => ?_) ?_; rotate_left 1; rfl; (obtain ⟨_, _, rfl⟩ := h.more; go_simp; try rfl))
  try simp only [Act.put, zqA, zqB, zqC]
  first | (refine wpPl_skip rfl rfl ?_) | (refine wpPl_read (v := ?_) rfl ?_ (fun w1 h1 => ?_) ?_; rotate_left 1; rfl; (obtain ⟨os1, d1, rfl⟩ := h1.more; go_simp; first | done | rfl)) | (refine wpPl_gread (v := ?_) (c := ?_) rfl rfl rfl rfl ?_ (fun hc w1 h1 => ?_) ?_; rotate_left 2; (first | exact gc_t _ | exact gc_f _ | exact gc_gt _ _ | exact gc_gf _ _); (obtain ⟨os1, d1, rfl⟩ := h1.more; (try simp only [gv_of hc]); (try (have hc1 := and_l hc; (try simp only [gv_of hc1]); (try (have hc2 := and_l hc1; (try simp only [gv_of hc2]))))); go_simp; first | done | rfl))
  try simp only [Act.put, zqA, zqB, zqC]
  (refine wpPl_eff rfl ?_ (fun K hK => ?_); (first | with_reducible rfl | rfl | (go_simp; done)); go_simp; refine (h2 _).mono ?_; rintro e w' ⟨rfl, hb⟩; obtain ⟨os1, d1, rfl⟩ := hb.more; clear hb; refine hK _ _ ?_ ?_; (repeat (first | (with_reducible (first | exact Ext.refl _ | exact ext_d _ _ _ _ | exact ext_app _ _ _ _ _ | exact ext_app2 _ _ _ _ _ _ | exact ext_app3 _ _ _ _ _ _ _ | exact ext_app4 _ _ _ _ _ _ _ _ | exact ext_app5 _ _ _ _ _ _ _ _ _)) | ((with_reducible refine ext_suffix ⟨_, ?_⟩); (try simp only [Array.append_assoc]); rfl) | (with_reducible (first | apply Ext.drew | apply Ext.alloc | apply Ext.more_)) | apply Ext.drew | apply Ext.alloc | apply Ext.more_)))
  try simp only [Act.put, zqA, zqB, zqC]
  first | (refine wpPl_effskip rfl ?_ ?_ ?_; (first | with_reducible rfl | rfl | (go_simp; done)); (repeat (first | (with_reducible (first | exact Ext.refl _ | exact ext_d _ _ _ _ | exact ext_app _ _ _ _ _ | exact ext_app2 _ _ _ _ _ _ | exact ext_app3 _ _ _ _ _ _ _ | exact ext_app4 _ _ _ _ _ _ _ _ | exact ext_app5 _ _ _ _ _ _ _ _ _)) | ((with_reducible refine ext_suffix ⟨_, ?_⟩); (try simp only [Array.append_assoc]); rfl) | (with_reducible (first | apply Ext.drew | apply Ext.alloc | apply Ext.more_)) | apply Ext.drew | apply Ext.alloc | apply Ext.more_))) | (refine wpPl_eff rfl ?_ (fun K hK => ?_); (first | with_reducible rfl | rfl | (go_simp; done)); go_simp; refine hK _ _ ?_ ?_; (repeat (first | (with_reducible (first | exact Ext.refl _ | exact ext_d _ _ _ _ | exact ext_app _ _ _ _ _ | exact ext_app2 _ _ _ _ _ _ | exact ext_app3 _ _ _ _ _ _ _ | exact ext_app4 _ _ _ _ _ _ _ _ | exact ext_app5 _ _ _ _ _ _ _ _ _)) | ((with_reducible refine ext_suffix ⟨_, ?_⟩); (try simp only [Array.append_assoc]); rfl) | (with_reducible (first | apply Ext.drew | apply Ext.alloc | apply Ext.more_)) | apply Ext.drew | apply Ext.alloc | apply Ext.more_)))
  try simp only [Act.put, zqA, zqB, zqC]
  (refine wpPl_eff rfl ?_ (fun K hK => ?_); (first | with_reducible rfl | rfl | (go_simp; done)); go_simp; refine (row14_any _ _ _ _).mono ?_; rintro e w' ⟨rfl, hb⟩; obtain ⟨os2, d2, rfl⟩ := hb.more; clear hb; refine hK _ _ ?_ ?_; (repeat (first | (with_reducible (first | exact Ext.refl _ | exact ext_d _ _ _ _ | exact ext_app _ _ _ _ _ | exact ext_app2 _ _ _ _ _ _ | exact ext_app3 _ _ _ _ _ _ _ | exact ext_app4 _ _ _ _ _ _ _ _ | exact ext_app5 _ _ _ _ _ _ _ _ _)) | ((with_reducible refine ext_suffix ⟨_, ?_⟩); (try simp only [Array.append_assoc]); rfl) | (with_reducible (first | apply Ext.drew | apply Ext.alloc | apply Ext.more_)) | apply Ext.drew | apply Ext.alloc | apply Ext.more_)))
  try simp only [Act.put, zqA, zqB, zqC]
  (refine wpPl_eff rfl ?_ (fun K hK => ?_); (first | with_reducible rfl | rfl | (go_simp; done)); go_simp; refine (refSame_any _ _ _ _ _ _ _ _ _ _ [y2] [y2] _ (aY2.ext (by repeat (first | (with_reducible (first | exact Ext.refl _ | exact ext_d _ _ _ _ | exact ext_app _ _ _ _ _ | exact ext_app2 _ _ _ _ _ _ | exact ext_app3 _ _ _ _ _ _ _)) | ((with_reducible refine ext_suffix ⟨_, ?_⟩); (try simp only [Array.append_assoc]); rfl) | (with_reducible (first | apply Ext.drew | apply Ext.alloc | apply Ext.more_))))) (by exact ArrIn.ext (arrIn_new [y2] (by simp) rfl rfl (by simp) (by simpa using ok2)) (ext_more _ _ _))).mono ?_; rintro e w' ⟨rfl, hb⟩; obtain ⟨os3, d3, rfl⟩ := hb.more; clear hb; refine hK _ _ ?_ ?_; (repeat (first | (with_reducible (first | exact Ext.refl _ | exact ext_d _ _ _ _ | exact ext_app _ _ _ _ _ | exact ext_app2 _ _ _ _ _ _ | exact ext_app3 _ _ _ _ _ _ _ | exact ext_app4 _ _ _ _ _ _ _ _ | exact ext_app5 _ _ _ _ _ _ _ _ _)) | ((with_reducible refine ext_suffix ⟨_, ?_⟩); (try simp only [Array.append_assoc]); rfl) | (with_reducible (first | apply Ext.drew | apply Ext.alloc | apply Ext.more_)) | apply Ext.drew | apply Ext.alloc | apply Ext.more_)))
  try simp only [Act.put, zqA, zqB, zqC]
  first | (refine wpPl_pick_and rfl rfl rfl rfl rfl rfl ?_) | (refine wpPl_pick_or rfl rfl rfl rfl rfl rfl ?_) | (refine wpPl_read (v := ?_) rfl ?_ (fun w1 h1 => ?_) ?_; rotate_left 1; rfl; (obtain ⟨os1, d1, rfl⟩ := h1.more; go_simp; first | done | rfl))
  try simp only [Act.put, zqA, zqB, zqC]
  (refine wpPl_read (v := ?_) rfl ?_ (fun _ h => ?_) ?_; rotate_left 1; rfl; (obtain ⟨_, _, rfl⟩ := h.more; go_simp; try rfl))
  try simp only [Act.put, zqA, zqB, zqC]
  first | (refine wpPl_skip rfl rfl ?_) | (refine wpPl_read (v := ?_) rfl ?_ (fun w1 h1 => ?_) ?_; rotate_left 1; rfl; (obtain ⟨os1, d1, rfl⟩ := h1.more; go_simp; first | done | rfl)) | (refine wpPl_gread (v := ?_) (c := ?_) rfl rfl rfl rfl ?_ (fun hc w1 h1 => ?_) ?_; rotate_left 2; (first | exact gc_t _ | exact gc_f _ | exact gc_gt _ _ | exact gc_gf _ _); (obtain ⟨os1, d1, rfl⟩ := h1.more; (try simp only [gv_of hc]); (try (have hc1 := and_l hc; (try simp only [gv_of hc1]); (try (have hc2 := and_l hc1; (try simp only [gv_of hc2]))))); go_simp; first | done | rfl))
  try simp only [Act.put, zqA, zqB, zqC]
  (refine wpPl_eff rfl ?_ (fun K hK => ?_); (first | with_reducible rfl | rfl | (go_simp; done)); go_simp; refine (refBad_any _ _).mono ?_; rintro e w' ⟨⟨D4, c4, rfl, hs4, hc4⟩, hb⟩; obtain ⟨os4, d4, rfl⟩ := hb.more; clear hb; (try simp only [more_more, Array.append_assoc] at hs4); refine hK _ _ ?_ ?_; (repeat (first | (with_reducible (first | exact Ext.refl _ | exact ext_d _ _ _ _ | exact ext_app _ _ _ _ _ | exact ext_app2 _ _ _ _ _ _ | exact ext_app3 _ _ _ _ _ _ _ | exact ext_app4 _ _ _ _ _ _ _ _ | exact ext_app5 _ _ _ _ _ _ _ _ _)) | ((with_reducible refine ext_suffix ⟨_, ?_⟩); (try simp only [Array.append_assoc]); rfl) | (with_reducible (first | apply Ext.drew | apply Ext.alloc | apply Ext.more_)) | apply Ext.drew | apply Ext.alloc | apply Ext.more_)))
  try simp only [Act.put, zqA, zqB, zqC]
  (refine wpPl_eff rfl ?_ (fun K hK => ?_); (first | with_reducible rfl | rfl | (go_simp; done)); go_simp; refine (refSame_any _ _ _ _ _ _ _ _ _ _ [badV 6] [badV 6] _ (aZ.ext (by repeat (first | (with_reducible (first | exact Ext.refl _ | exact ext_d _ _ _ _ | exact ext_app _ _ _ _ _ | exact ext_app2 _ _ _ _ _ _ | exact ext_app3 _ _ _ _ _ _ _)) | ((with_reducible refine ext_suffix ⟨_, ?_⟩); (try simp only [Array.append_assoc]); rfl) | (with_reducible (first | apply Ext.drew | apply Ext.alloc | apply Ext.more_))))) (ArrIn.mk (Rd.mono hs4 (Nat.zero_le _)) rfl hc4 (by decide) (by simpa using badV_ok 6 (by unfold I64; omega)))).mono ?_; rintro e w' ⟨rfl, hb⟩; obtain ⟨os5, d5, rfl⟩ := hb.more; clear hb; refine hK _ _ ?_ ?_; (repeat (first | (with_reducible (first | exact Ext.refl _ | exact ext_d _ _ _ _ | exact ext_app _ _ _ _ _ | exact ext_app2 _ _ _ _ _ _ | exact ext_app3 _ _ _ _ _ _ _ | exact ext_app4 _ _ _ _ _ _ _ _ | exact ext_app5 _ _ _ _ _ _ _ _ _)) | ((with_reducible refine ext_suffix ⟨_, ?_⟩); (try simp only [Array.append_assoc]); rfl) | (with_reducible (first | apply Ext.drew | apply Ext.alloc | apply Ext.more_)) | apply Ext.drew | apply Ext.alloc | apply Ext.more_)))
  try simp only [Act.put, zqA, zqB, zqC]
  first | (refine wpPl_pick_and rfl rfl rfl rfl rfl rfl ?_) | (refine wpPl_pick_or rfl rfl rfl rfl rfl rfl ?_) | (refine wpPl_read (v := ?_) rfl ?_ (fun w1 h1 => ?_) ?_; rotate_left 1; rfl; (obtain ⟨os1, d1, rfl⟩ := h1.more; go_simp; first | done | rfl))
  try simp only [Act.put, zqA, zqB, zqC]
  (refine wpPl_read (v := ?_) rfl ?_ (fun _ h => ?_) ?_; rotate_left 1; rfl; (obtain ⟨_, _, rfl⟩ := h.more; go_simp; try rfl))
  try simp only [Act.put, zqA, zqB]
  refine wpPl_nil ?_
  go_wp2_with fail
  go_ret
  exact ⟨rfl, hwW2.trans (by repeat (first | (with_reducible (first | exact Ext.refl _ | exact ext_d _ _ _ _ | exact ext_app _ _ _ _ _ | exact ext_app2 _ _ _ _ _ _ | exact ext_app3 _ _ _ _ _ _ _)) | ((with_reducible refine ext_suffix ⟨_, ?_⟩); (try simp only [Array.append_assoc]); rfl) | (with_reducible (first | apply Ext.drew | apply Ext.alloc | apply Ext.more_))))⟩
end Go.Proofs.YtljgagjipamdeaaDoor
namespace Go.Proofs.YtljgagjipamdeaaDoor
open Go.RowKit NM
theorem heap_alloc_at {w : World} {o : Obj} {p : Nat} (hp : p = w.heap.size) : (w.alloc o).heap[p]? = some o := by subst hp; exact heap_alloc_new _ _
end Go.Proofs.YtljgagjipamdeaaDoor
