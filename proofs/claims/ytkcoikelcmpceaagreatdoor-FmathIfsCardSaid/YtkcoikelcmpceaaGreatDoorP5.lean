/- What the rows' proofs lean on: the contracts of the functions that they reach, and plain facts (part P5). -/
import Derived.WalkKit
import Derived.WalkLawsBesides
import Derived.WalkSpells
import Derived.Outline
import Derived.Below
import Derived.Deep.RegionHeld3
import Derived.Deep.DeepCutAuto
import Derived.Deep.AppendLies
import Derived.Maps.AppendAt
import Derived.Lib.Hide
import Derived.OrdersHeld
import Derived.Test.YtkcoikelcmpceaaGreatDoorProg
import Derived.Shelf.Strings.Builder1
import Derived.Shelf.Strings.Builder2
import Derived.Shelf.Small.Bits
import Derived.Shelf.Small.Strs
import Derived.Shelf.Small.Wraps
import Derived.Shelf.Strings.BuilderF
import Derived.Shelf.Strconv.Itoa0
import Derived.Shelf.Strconv.Itoa1
import Derived.Shelf.LaysM
import Derived.Shelf.Strconv.Itoa2
import Derived.Shelf.Strings.Prefix
import Derived.Shelf.Bits.Mul64
import Derived.Shelf.Strings.Repeat
import Derived.Lib.ItoaMem
import Derived.Lib.OthersKept
import Derived.Deep.CutBlock
import Derived.Laws.Bits64b
import Derived.Lib.AppendZeros
import Derived.Lib.Bytealg
import Derived.Laws.RangeAny
import Derived.Maps.OwnSet
import Derived.Maps.Own
import Derived.Laws.EntriesVeiled
import Derived.Lib.ConvBytes
import Derived.Lib.SlBytesRow
import Derived.Lib.SmallJoins
import Derived.RegionTactic
import Derived.Test.YtkcoikelcmpceaaGreatDoorRows
import Derived.Test.YtkcoikelcmpceaaGreatDoorCards
import Derived.Test.YtkcoikelcmpceaaGreatDoorTie
import Derived.ProofKit
import Derived.LaidMore
import Derived.OpenShut
import Derived.ShutString
import Derived.ChangeOld
import Derived.Stop.Joined
import Derived.Deep.Slices
import Derived.SevenTiedAt
import Derived.Test.YtkcoikelcmpceaaGreatDoorP4
set_option linter.unusedSimpArgs false
set_option linter.unusedVariables false
set_option maxRecDepth 100000
namespace Go.Proofs.YtkcoikelcmpceaaGreatDoor
open Go.RowKit
/-- An operation that may come up at any time: its number, its slot, the object that it makes, what it answers. -/
structure FX where
  i : Nat
  t : Nat
  ob : Obj
  yv : Nat → Value
def putX : List FX → (Nat → Option Nat) → Act → Act
  | [], _, a => a
  | x :: fs, β, a => match β x.i with
    | none => putX fs β a
    | some b => (putX fs β a).put (some x.t) (x.yv b)
def nx (fs : List FX) (β : Nat → Option Nat) : Nat := fs.countP fun x => (β x.i).isNone
theorem putX_congr {β β' : Nat → Option Nat} {a : Act} : ∀ {fs : List FX}, (∀ x ∈ fs, β x.i = β' x.i) → putX fs β a = putX fs β' a
  | [], _ => rfl
  | x :: fs, h => by
    unfold putX
    rw [h x (by simp), putX_congr (fs := fs) fun y hy => h y (by simp [hy])]
theorem putX_put {β : Nat → Option Nat} {a : Act} {d : Option Tmp} {v : Value} : ∀ {fs : List FX}, (∀ x ∈ fs, d ≠ some x.t) → putX fs β (a.put d v) = (putX fs β a).put d v
  | [], _ => rfl
  | x :: fs, h => by
    unfold putX
    rw [putX_put (fs := fs) fun y hy => h y (by simp [hy])]
    cases β x.i with
    | none => rfl
    | some b => exact Act.put_comm _ _ _ fun e he hx => h x (by simp) (by rw [he, hx])
theorem putX_set {β : Nat → Option Nat} {a : Act} {x : FX} {b : Nat} : ∀ {fs : List FX}, x ∈ fs → (fs.map (·.i)).Nodup → (fs.map (·.t)).Nodup → β x.i = none → putX fs (setB β x.i b) a = (putX fs β a).put (some x.t) (x.yv b)
  | [], h, _, _, _ => by cases h
  | y :: fs, h, hn, hs, hb => by
    simp only [List.map_cons, List.nodup_cons, List.mem_map, not_exists, not_and] at hn hs
    unfold putX
    by_cases hxy : y.i = x.i
    · have hyx : y = x := by
        rcases List.mem_cons.1 h with rfl | h'
        · rfl
        · exact absurd hxy.symm (hn.1 x h')
      subst hyx
      have e : putX fs (setB β y.i b) a = putX fs β a := putX_congr fun z hz => by
        unfold setB; rw [if_neg (fun e => hn.1 z hz e)]
      simp only [setB, if_true, hb] at e ⊢
      rw [e]
    · have hx : x ∈ fs := by
        rcases List.mem_cons.1 h with rfl | h'
        · exact absurd rfl hxy
        · exact h'
      have e : setB β x.i b y.i = β y.i := by unfold setB; rw [if_neg hxy]
      rw [e, putX_set hx hn.2 hs.2 hb]
      cases β y.i with
      | none => rfl
      | some b' => exact Act.put_comm _ _ _ fun d hd hd' => hs.1 x hx (by simp_all)
theorem nx_set {β : Nat → Option Nat} {x : FX} {b : Nat} : ∀ {fs : List FX}, x ∈ fs → (fs.map (·.i)).Nodup → β x.i = none → nx fs (setB β x.i b) + 1 = nx fs β
  | [], h, _, _ => by cases h
  | y :: fs, h, hn, hb => by
    simp only [List.map_cons, List.nodup_cons, List.mem_map, not_exists, not_and] at hn
    unfold nx
    rw [List.countP_cons, List.countP_cons]
    by_cases hxy : y.i = x.i
    · have e : fs.countP (fun z => (setB β x.i b z.i).isNone) = fs.countP (fun z => (β z.i).isNone) := by
        refine List.countP_congr fun z hz => ?_
        rw [show setB β x.i b z.i = β z.i by unfold setB; rw [if_neg (fun e => hn.1 z hz (e.trans hxy.symm))]]
      rw [e, show setB β x.i b y.i = some b by unfold setB; rw [if_pos hxy], show β y.i = none by rw [hxy]; exact hb]
      simp
    · have hx : x ∈ fs := by
        rcases List.mem_cons.1 h with rfl | h'
        · exact absurd rfl hxy
        · exact h'
      have ih := nx_set (b := b) hx hn.2 hb
      unfold nx at ih
      rw [show setB β x.i b y.i = β y.i by unfold setB; rw [if_neg hxy]]
      omega
theorem nodup_injX {x y : FX} : ∀ {fs : List FX}, (fs.map (·.i)).Nodup → x ∈ fs → y ∈ fs → x.i = y.i → x = y
  | [], _, h, _, _ => by cases h
  | z :: fs, hn, hx, hy, e => by
    simp only [List.map_cons, List.nodup_cons, List.mem_map, not_exists, not_and] at hn
    rcases List.mem_cons.1 hx with rfl | hx'
    · rcases List.mem_cons.1 hy with rfl | hy'
      · rfl
      · exact absurd e.symm (hn.1 y hy')
    · rcases List.mem_cons.1 hy with rfl | hy'
      · exact absurd e (hn.1 x hx')
      · exact nodup_injX hn.2 hx' hy' e
section
variable {P : Program} {ops : Array Oper} {Q : Exit → Act → World → Prop} {tl : List Nat}
theorem wpOp_putX {j : Nat} {oj : Oper} {β : Nat → Option Nat} (hj : ops[j]? = some oj) (hsj : ∀ cs b, oj.op ≠ .select cs b) (hQ : ∀ c a d v w, Q (.panic c) a w → Q (.panic c) (a.put d v) w)
    {K : Act → World → Prop} {a : Act} {w : World} (h : wpOp P ops Q j K a w) : ∀ {fs : List FX}, (∀ x ∈ fs, x.t ∉ oj.looksAt ops ∧ oj.dst ≠ some x.t) →
    wpOp P ops Q j (fun a' w' => ∃ a'', a' = putX fs β a'' ∧ K a'' w') (putX fs β a) w
  | [], _ => wpOp_mono (fun a' w' h' => ⟨a', rfl, h'⟩) h
  | x :: fs, hx => by
    have ih := wpOp_putX (β := β) hj hsj hQ h (fs := fs) fun y hy => hx y (by simp [hy])
    unfold putX
    cases β x.i with
    | none => exact ih
    | some b =>
      refine wpOp_mono ?_ (wpOp_put1 (v := x.yv b) hj hsj (hx x (by simp)).1 (hx x (by simp)).2 (fun c a w => hQ c a _ _ w) ih)
      rintro a' w' ⟨a1, rfl, a2, rfl, hk⟩
      exact ⟨a2, rfl, hk⟩
theorem yields_putX {S : World → Prop} {o : Oper} {v : Value} {a : Act} {β : Nat → Option Nat} (hs : ∀ cs b, o.op ≠ .select cs b) (hy : YieldsIf P ops S o v a) : ∀ {fs : List FX}, (∀ x ∈ fs, x.t ∉ o.looksAt ops) → YieldsIf P ops S o v (putX fs β a)
  | [], _ => hy
  | x :: fs, hx => by
    have ih := yields_putX (β := β) hs hy (fs := fs) fun y hy => hx y (by simp [hy])
    unfold putX
    cases β x.i with
    | none => exact ih
    | some b =>
      have h1 : ∀ e, (some x.t : Option Tmp) = some e → e ∉ o.looksAt ops := fun e he => by obtain rfl := Option.some.inj he; exact hx x (by simp)
      exact ih.of_same (execOp_put o hs _ _ _ h1) (wanted_put o _ _ _ h1)
theorem wanted_putX {o : Oper} {a : Act} {β : Nat → Option Nat} : ∀ {fs : List FX}, (∀ x ∈ fs, x.t ∉ o.looksAt ops) → Region.wanted o (yielded ops (putX fs β a).tmps) = Region.wanted o (yielded ops a.tmps)
  | [], _ => rfl
  | x :: fs, hx => by
    have ih := wanted_putX (a := a) (β := β) (fs := fs) fun y hy => hx y (by simp [hy])
    unfold putX
    cases β x.i with
    | none => exact ih
    | some b => exact (wanted_put o _ _ _ (fun e he => by obtain rfl := Option.some.inj he; exact hx x (by simp))).trans ih
theorem exec_putX {o : Oper} {a : Act} {β : Nat → Option Nat} (hs : ∀ cs b, o.op ≠ .select cs b) : ∀ {fs : List FX}, (∀ x ∈ fs, x.t ∉ o.looksAt ops) → execOp (putX fs β a).eval o = execOp a.eval o
  | [], _ => rfl
  | x :: fs, hx => by
    have ih := exec_putX (a := a) (β := β) hs (fs := fs) fun y hy => hx y (by simp [hy])
    unfold putX
    cases β x.i with
    | none => exact ih
    | some b =>
      have h1 : ∀ e, (some x.t : Option Tmp) = some e → e ∉ o.looksAt ops := fun e he => by obtain rfl := Option.some.inj he; exact hx x (by simp)
      exact (execOp_put o hs _ _ _ h1).trans ih
/-- Behind an operation the others read what they read, its own slot apart. -/
def sameFor (ops : Array Oper) (d : Option Tmp) (a a' : Act) : Prop := ∀ o : Oper, (∀ cs b, o.op ≠ .select cs b) → (∀ e, d = some e → e ∉ o.looksAt ops) → execOp a'.eval o = execOp a.eval o ∧ Region.wanted o (yielded ops a'.tmps) = Region.wanted o (yielded ops a.tmps)
theorem sameFor_put {d : Option Tmp} {a : Act} {v : Value} : sameFor ops d a (a.put d v) := fun o hs h => ⟨execOp_put o hs _ _ _ h, wanted_put o _ _ _ h⟩
theorem wpOp_same {j : Nat} {oj : Oper} (hj : ops[j]? = some oj) {K : Act → World → Prop} {a : Act} {w : World} (h : wpOp P ops Q j K a w) : wpOp P ops Q j (fun a' w' => sameFor ops oj.dst a a' ∧ K a' w') a w := by
  unfold wpOp at *
  simp only [hj] at *
  split
  · rename_i hw
    simp only [hw, if_true] at h
    rcases h with h | ⟨hasks, hlets⟩
    case inr => exact .inr ⟨hasks, hlets⟩
    refine .inl ?_
    unfold Oper.wp at *
    generalize (execOp a.eval oj).run P w = r at *
    cases r with
    | ok n w' =>
      cases n <;> simp only [Oper.upon] at h ⊢
      case value u => exact ⟨sameFor_put, h⟩
      case skip => exact ⟨sameFor_put, h⟩
      case defer f => exact ⟨fun o hs ho => ⟨execOp_put o hs { a with defers := f :: a.defers } _ _ ho, wanted_put o { a with defers := f :: a.defers } _ _ ho⟩, h⟩
      case enter f args =>
        refine Calls.mono h fun e w'' he => ?_
        cases e with
        | returned u => exact ⟨sameFor_put, he⟩
        | panicked c => exact he
        | outgrown => exact he
      case row row args => exact Rows.mono h fun u w'' he => ⟨sameFor_put, he⟩
    | halt x w' =>
      cases x <;> simp only [Oper.upon] at h ⊢
      case panic u => exact h
      all_goals exact h
  · rename_i hw
    simp only [hw] at h
    exact ⟨sameFor_put, h⟩
def wpFg (P : Program) (ops : Array Oper) (Q : Exit → Act → World → Prop) (W0 : World) (tp : List Nat) : List (Nat × Nat) → List FX → List Nat → Act → (World → Prop) → Prop
  | [], _, _, a, E => ∀ w, Ext W0 w → E w → wpTl P ops Q tp a w
  | (i, 0) :: rest, fs, bs, a, E => ∃ o v, ops[i]? = some o ∧ YieldsIf P ops (Ext W0) o v a ∧ wpFg P ops Q W0 tp rest fs bs (a.put o.dst v) E
  | (i, 2) :: rest, fs, bs, a, E => ∃ o v, ops[i]? = some o ∧ YieldsIf P ops (fun _ => True) o v a ∧ wpFg P ops Q W0 tp rest fs bs (a.put o.dst v) E
  | (_, 3) :: rest, fs, bs, a, E => ∃ x fs', fs = x :: fs' ∧ ∀ b, W0.heap.size ≤ b → b ∉ bs → (∀ w1 w2, Ext w1 w2 → E w1 → E w2) → ∃ E' : World → Prop, (∀ w1 w2, Ext w1 w2 → E' w1 → E' w2) ∧ (∀ w, Ext W0 w → E w → w.heap[b]? = some x.ob → E' w) ∧ wpFg P ops Q W0 tp rest fs' (b :: bs) (a.put (some x.t) (x.yv b)) E'
  | (i, 4) :: rest, fs, bs, a, E => ∃ x o, x.i = i ∧ ops[i]? = some o ∧ o.dst = some x.t ∧ Region.wanted o (yielded ops a.tmps) = true ∧ (∀ w, (execOp a.eval o).run P w = .ok (.value (x.yv w.heap.size)) (w.alloc x.ob)) ∧ wpFg P ops Q W0 tp rest (x :: fs) bs a E
  | (i, 5) :: rest, fs, bs, a, E => ∀ w, Ext W0 w → E w → wpOp P ops Q i (fun a' w' => Ext W0 w' ∧ w.heap.size ≤ w'.heap.size ∧ ∃ E' : World → Prop, (∀ w1 w2, Ext w1 w2 → E' w1 → E' w2) ∧ E' w' ∧ wpFg P ops Q W0 tp rest fs bs a' E') a w
  | (i, _) :: rest, fs, bs, a, E => ∀ w, Ext W0 w → E w → wpOp P ops Q i (fun a' w' => Ext w w' ∧ ∃ E' : World → Prop, (∀ w1 w2, Ext w1 w2 → E' w1 → E' w2) ∧ E' w' ∧ wpFg P ops Q W0 tp rest fs bs a' E') a w
def awayB (ops : Array Oper) (o : Oper) (F : List Nat) : Bool :=
  o.after.all (fun e => !Region.binds .any e || !F.contains e.on) && F.all (fun k => match ops[k]? with
    | some ok => (match ok.dst with | some t => !(o.looksAt ops).contains t && o.dst != some t | none => false) && (match o.dst with | some d => !(ok.looksAt ops).contains d | none => true) && o.apart ops ok
    | none => false)
def planG (ops : Array Oper) (tl pu : List Nat) : Array Bool → List Nat → List (Nat × Nat) → Bool
  | lF, F, [] => F.isEmpty
  | lF, F, (i, 0) :: rest => Region.free .any ops lF i && (Region.ready .any ops lF).contains i && !tl.contains i && !F.contains i &&
      tl.all (fun j => lF.getD j true || match ops[j]? with | some oj => oj.after.any (fun e => Region.binds .any e && depB ops F lF i 4 e.on) | none => true) &&
      (match ops[i]? with | some o => awayB ops o F | none => false) && planG ops tl pu (lF.setIfInBounds i true) F rest
  | lF, F, (i, 2) :: rest => Region.free .any ops lF i && (Region.ready .any ops lF).contains i && !tl.contains i && !F.contains i && pu.contains i &&
      (match ops[i]? with | some o => awayB ops o F | none => false) && planG ops tl pu (lF.setIfInBounds i true) F rest
  | lF, F, (i, 3) :: rest => (F.head? == some i) && (Region.ready .any ops lF).all (fun j => match ops[j]? with | some oj => oj.after.any (fun e => Region.binds .any e && e.on == i) | none => false) && planG ops tl pu lF F.tail rest
  | lF, F, (i, 4) :: rest => (lF[i]? == some false) && !tl.contains i && !F.contains i &&
      (match ops[i]? with | some o => o.after.all (fun e => !Region.binds .any e || lF.getD e.on false) && (match o.dst with | some t => !(o.looksAt ops).contains t | none => false) && awayB ops o F | none => false) && planG ops tl pu (lF.setIfInBounds i true) (i :: F) rest
  | lF, F, (i, 5) :: rest => F.isEmpty && (Region.ready .any ops lF == [i]) && !tl.contains i && !pu.contains i &&
      (match ops[i]? with | some o => awayB ops o F | none => false) && planG ops tl pu (lF.setIfInBounds i true) F rest
  | lF, F, (i, _) :: rest => (Region.ready .any ops lF == [i]) && !tl.contains i && !F.contains i && !pu.contains i &&
      (match ops[i]? with | some o => awayB ops o F | none => false) && planG ops tl pu (lF.setIfInBounds i true) F rest
def listG (listed : Array Bool) (pl : List (Nat × Nat)) : Array Bool := pl.foldl (fun l x => if x.2 = 3 then l else l.setIfInBounds x.1 true) listed
def cost (pl : List (Nat × Nat)) : Nat := pl.countP fun x => x.2 != 3
theorem cost_ne {i k : Nat} {rest : List (Nat × Nat)} (h : k ≠ 3) : cost ((i, k) :: rest) = cost rest + 1 := by
  unfold cost; rw [List.countP_cons, if_pos (by simpa using h)]
theorem cost_eq {i : Nat} {rest : List (Nat × Nat)} : cost ((i, 3) :: rest) = cost rest := by
  unfold cost; rw [List.countP_cons, if_neg (by simp), Nat.add_zero]
/-- How far they have come up. -/
structure RelX (fs : List FX) (listed lF : Array Bool) (β : Nat → Option Nat) : Prop where
  size : listed.size = lF.size
  main : ∀ j, j ∉ fs.map (·.i) → listed[j]? = lF[j]?
  done : ∀ x ∈ fs, listed[x.i]? = some (β x.i).isSome ∧ lF[x.i]? = some true
theorem RelX.step {fs : List FX} {listed lF : Array Bool} {β : Nat → Option Nat} (h : RelX fs listed lF β) {i : Nat} (hi : i ∉ fs.map (·.i)) : RelX fs (listed.setIfInBounds i true) (lF.setIfInBounds i true) β := by
  refine ⟨by simp [h.size], fun j hj => ?_, fun x hx => ?_⟩
  · rw [Array.getElem?_setIfInBounds, Array.getElem?_setIfInBounds, h.size, h.main j hj]
  · have hne : i ≠ x.i := fun e => hi (by rw [e]; exact List.mem_map.2 ⟨x, hx, rfl⟩)
    rw [Array.getElem?_setIfInBounds_ne hne, Array.getElem?_setIfInBounds_ne hne]
    exact h.done x hx
theorem RelX.float {fs : List FX} {listed lF : Array Bool} {β : Nat → Option Nat} (h : RelX fs listed lF β) {x : FX} (hx : x ∈ fs) (b : Nat) : RelX fs (listed.setIfInBounds x.i true) lF (setB β x.i b) := by
  refine ⟨by simp [h.size], fun j hj => ?_, fun y hy => ?_⟩
  · rw [Array.getElem?_setIfInBounds_ne (fun e => hj (by rw [← e]; exact List.mem_map.2 ⟨x, hx, rfl⟩))]; exact h.main j hj
  · refine ⟨?_, (h.done y hy).2⟩
    have hl := (h.done y hy).1
    by_cases hxy : x.i = y.i
    · rw [← hxy, Array.getElem?_setIfInBounds_self]
      have : x.i < listed.size := by rw [hxy]; exact (Array.getElem?_eq_some_iff.1 hl).1
      simp [this, setB]
    · rw [Array.getElem?_setIfInBounds_ne hxy, hl]
      unfold setB; rw [if_neg (fun e => hxy e.symm)]
theorem RelX.wait {x : FX} {fs : List FX} {listed lF : Array Bool} {β : Nat → Option Nat} (h : RelX (x :: fs) listed lF β) (hb : (β x.i).isSome = true) : RelX fs listed lF β := by
  refine ⟨h.size, fun j hj => ?_, fun y hy => h.done y (by simp [hy])⟩
  by_cases e : j = x.i
  · subst e; rw [(h.done x (by simp)).1, (h.done x (by simp)).2, hb]
  · exact h.main j (by simp only [List.map_cons, List.mem_cons, not_or]; exact ⟨e, hj⟩)
theorem RelX.launch {x : FX} {fs : List FX} {listed lF : Array Bool} {β : Nat → Option Nat} (h : RelX fs listed lF β) (hi : x.i ∉ fs.map (·.i)) (hl : lF[x.i]? = some false) (hb : β x.i = none) : RelX (x :: fs) listed (lF.setIfInBounds x.i true) β := by
  refine ⟨by simp [h.size], fun j hj => ?_, fun y hy => ?_⟩
  · simp only [List.map_cons, List.mem_cons, not_or] at hj
    rw [Array.getElem?_setIfInBounds_ne (fun e => hj.1 e.symm)]; exact h.main j hj.2
  · rcases List.mem_cons.1 hy with rfl | hy
    · refine ⟨by rw [h.main _ hi, hl, hb]; rfl, ?_⟩
      have := (Array.getElem?_eq_some_iff.1 hl).1
      simp [this]
    · have hne : x.i ≠ y.i := fun e => hi (by rw [e]; exact List.mem_map.2 ⟨y, hy, rfl⟩)
      refine ⟨(h.done y hy).1, ?_⟩
      rw [Array.getElem?_setIfInBounds_ne hne]; exact (h.done y hy).2
theorem depX_of {fs : List FX} {listed lF : Array Bool} {β : Nat → Option Nat} (hR : RelX fs listed lF β) {i : Nat} : ∀ (n k : Nat), depB ops (fs.map (·.i)) lF i n k = true → dep ops listed i n k
  | 0, k, h => by show k = i; simpa [depB] using h
  | n + 1, k, h => by
    simp only [depB, Bool.or_eq_true, beq_iff_eq, Bool.and_eq_true, Bool.not_eq_true'] at h
    rcases h with h | ⟨⟨hF, hun⟩, h⟩
    · exact .inl h
    · right
      refine ⟨by rw [getD_same (hR.main k (by simpa using hF))]; exact hun, ?_⟩
      cases hom : ops[k]? with
      | none => rw [hom] at h; cases h
      | some om =>
        rw [hom] at h
        obtain ⟨e', he', hb'⟩ := Array.any_eq_true'.1 h
        simp only [Bool.and_eq_true] at hb'
        exact ⟨om, rfl, e', he', hb'.1, depX_of hR n _ hb'.2⟩
/-- What is known of those under way. -/
structure FgOk (P : Program) (ops : Array Oper) (tl : List Nat) (fs : List FX) (lF : Array Bool) (a : Act) : Prop where
  fl : ∀ x ∈ fs, ∃ o, ops[x.i]? = some o ∧ Region.wanted o (yielded ops a.tmps) = true ∧ o.dst = some x.t ∧ tl.contains x.i = false ∧ (∀ e ∈ o.after, Region.binds .any e = true → lF[e.on]? = some true ∧ e.on ∉ fs.map (·.i)) ∧
    (∀ y ∈ fs, y.t ∉ o.looksAt ops) ∧ ∀ w, (execOp a.eval o).run P w = .ok (.value (x.yv w.heap.size)) (w.alloc x.ob)
  n1 : (fs.map (·.i)).Nodup
  n2 : (fs.map (·.t)).Nodup
theorem away {o : Oper} {F : List Nat} (h : awayB ops o F = true) : (∀ e ∈ o.after, Region.binds .any e = true → e.on ∉ F) ∧ ∀ k ∈ F, ∀ ok, ops[k]? = some ok → ∃ t, ok.dst = some t ∧ t ∉ o.looksAt ops ∧ o.dst ≠ some t ∧ (∀ d, o.dst = some d → d ∉ ok.looksAt ops) ∧ o.apart ops ok = true := by
  simp only [awayB, Bool.and_eq_true, List.all_eq_true, Array.all_eq_true_iff_forall_mem] at h
  refine ⟨fun e he hb hin => ?_, fun k hk ok hok => ?_⟩
  · have := h.1 e he
    rw [hb] at this
    simp only [Bool.not_true, Bool.false_or, Bool.not_eq_true'] at this
    exact absurd hin (by simpa using this)
  · have := h.2 k hk
    rw [hok] at this
    simp only [Bool.and_eq_true] at this
    obtain ⟨⟨h1, h2⟩, h3⟩ := this
    cases hd : ok.dst with
    | none => rw [hd] at h1; cases h1
    | some t =>
      rw [hd] at h1
      simp only [Bool.and_eq_true] at h1
      refine ⟨t, rfl, by simpa using h1.1, by simpa using h1.2, fun d hd' => ?_, h3⟩
      rw [hd'] at h2
      simpa using h2
theorem FgOk.step {fs : List FX} {lF : Array Bool} {a a' : Act} {i : Nat} {o : Oper} (h : FgOk P ops tl fs lF a) (hsel : Region.noSelect ops = true) (haw : awayB ops o (fs.map (·.i)) = true) (hs : sameFor ops o.dst a a') : FgOk P ops tl fs (lF.setIfInBounds i true) a' := by
  refine ⟨fun x hx => ?_, h.n1, h.n2⟩
  obtain ⟨ox, h1, h2, h3, h4, h5, h6, h7⟩ := h.fl x hx
  obtain ⟨t, _, _, _, hd, _⟩ := (away haw).2 x.i (List.mem_map.2 ⟨x, hx, rfl⟩) ox h1
  have hsx := hs ox (fun cs b => Region.noSelect_spec hsel x.i ox cs b h1) hd
  refine ⟨ox, h1, hsx.2.trans h2, h3, h4, fun e he hb => ⟨?_, (h5 e he hb).2⟩, h6, fun w => ?_⟩
  · have := (h5 e he hb).1
    by_cases hie : i = e.on
    · have hlt := (Array.getElem?_eq_some_iff.1 this).1
      subst hie
      simp [hlt]
    · rw [Array.getElem?_setIfInBounds_ne hie]; exact this
  · rw [hsx.1]
    exact h7 w
theorem wpFg_sound {W0 : World} {tp pu : List Nat} (hsel : Region.noSelect ops = true) (hQ : ∀ c a d v w, Q (.panic c) (a.put d v) w → Q (.panic c) a w) (hQ' : ∀ c a d v w, Q (.panic c) a w → Q (.panic c) (a.put d v) w) :
    ∀ (m : Nat) (pl : List (Nat × Nat)) (fs : List FX) (bs : List Nat) (listed lF : Array Bool) (β : Nat → Option Nat) (a : Act) (E : World → Prop) (w : World), 2 * pl.length + nx fs β ≤ m → RelX fs listed lF β → FgOk P ops tl fs lF a →
      planG ops tl pu lF (fs.map (·.i)) pl = true → tailOk ops tl (listG lF pl) tp = true → Ext W0 w → (∀ w1 w2, Ext w1 w2 → E w1 → E w2) → E w →
      (∀ x ∈ fs, ∀ b, β x.i = some b → w.heap[b]? = some x.ob ∧ W0.heap.size ≤ b ∧ b ∉ bs) → (∀ x ∈ fs, ∀ y ∈ fs, ∀ b, β x.i = some b → β y.i = some b → x.i = y.i) → (∀ b ∈ bs, b < w.heap.size) → (∀ j, (∃ b, β j = some b) → lF[j]? = some true) →
      wpFg P ops Q W0 tp pl fs bs a E → wpAnyU P ops Q (Ext W0) tl pu (cost pl + nx fs β + tp.length) listed (putX fs β a) w := by
  intro m
  induction m with
  | zero =>
    intro pl fs bs listed lF β a E w hm hR hok hpl htp hX hst hE hbl hinj hbs hβ h
    obtain rfl : pl = [] := List.eq_nil_of_length_eq_zero (by omega)
    obtain rfl : fs = [] := by simpa [planG] using hpl
    have hl : listed = lF := Array.ext_getElem? fun j => hR.main j (by simp)
    subst hl
    rw [show cost [] + nx [] β + tp.length = tp.length by simp [cost, nx]]
    exact wpTl_sound tp _ _ _ htp (h w hX hE)
  | succ m ih =>
    intro pl fs bs listed lF β a E w hm hR hok hpl htp hX hst hE hbl hinj hbs hβ h
    have hal : ∀ x ∈ fs, β x.i = none → ∀ f, cost pl + nx fs β + tp.length = f + 1 → wpOp P ops Q x.i (fun a' w' => (tl.contains x.i = false → (pu.contains x.i = true → Ext W0 w) → Ext W0 w') ∧ wpAnyU P ops Q (Ext W0) tl pu f (listed.setIfInBounds x.i true) a' w') (putX fs β a) w := by
      intro x hx hb f hf
      obtain ⟨o, ho, hg, hd, _, _, hl, hrun⟩ := hok.fl x hx
      unfold wpOp
      simp only [ho]
      rw [if_pos ((wanted_putX hl).trans hg)]
      refine .inl ?_
      unfold Oper.wp
      rw [exec_putX (fun cs b => Region.noSelect_spec hsel x.i o cs b ho) hl, hrun w]
      have hnp := nx_set (b := w.heap.size) hx hok.n1 hb
      have hXa : Ext w (w.alloc x.ob) := (Ext.refl w).alloc _
      have hlt : ∀ u ∈ fs, ∀ b, β u.i = some b → b < w.heap.size := fun u hu b hub => by
        obtain ⟨h1, _⟩ := hbl u hu b hub
        rcases Nat.lt_or_ge b w.heap.size with hl | hl
        · exact hl
        · rw [Array.getElem?_eq_none hl] at h1; cases h1
      have key := ih pl fs bs (listed.setIfInBounds x.i true) lF (setB β x.i w.heap.size) a E (w.alloc x.ob) (by omega) (hR.float hx _) hok hpl htp (hX.trans hXa) hst (hst _ _ hXa hE) ?_ ?_ (fun b hb' => by have := hbs b hb'; have := hXa.size; omega) ?_ h
      · rw [putX_set hx hok.n1 hok.n2 hb, show cost pl + nx fs (setB β x.i w.heap.size) + tp.length = f by omega] at key
        simp only [Oper.upon, hd]
        exact ⟨fun _ _ => hX.trans hXa, key⟩
      · intro y hy b hyb
        by_cases hxy : y.i = x.i
        · have hyx : y = x := nodup_injX hok.n1 hy hx hxy
          subst hyx
          simp only [setB, if_true, Option.some.injEq] at hyb
          subst hyb
          exact ⟨heap_alloc_new _ _, hX.size, fun hin => by have := hbs _ hin; omega⟩
        · simp only [setB, hxy, if_false] at hyb
          obtain ⟨h1, h2, h3⟩ := hbl y hy b hyb
          exact ⟨by rw [hXa.block (hlt y hy b hyb)]; exact h1, h2, h3⟩
      · intro y hy z hz b hyb hzb
        unfold setB at hyb hzb
        split at hyb
        · rename_i e1
          split at hzb
          · rename_i e2; rw [e1, e2]
          · have := hlt z hz b hzb
            simp only [Option.some.injEq] at hyb
            omega
        · split at hzb
          · have := hlt y hy b hyb
            simp only [Option.some.injEq] at hzb
            omega
          · exact hinj y hy z hz b hyb hzb
      · rintro j ⟨b, hj⟩
        unfold setB at hj
        split at hj
        · rename_i e; subst e; exact (hR.done x hx).2
        · exact hβ j ⟨b, hj⟩
    have hfr : ∀ x ∈ fs, β x.i = none → x.i ∈ Region.ready .any ops listed := by
      intro x hx hb
      obtain ⟨o, ho, _, _, _, ha, _⟩ := hok.fl x hx
      refine mem_ready.2 ⟨?_, o, ho, fun e he hbi => ?_⟩
      · rw [getD_of (hR.done x hx).1, hb]; rfl
      · obtain ⟨h1, h2⟩ := ha e he hbi
        rw [getD_same (hR.main _ h2), getD_of h1]
    have hfl : ∀ x ∈ fs, x.i ∈ Region.ready .any ops listed → β x.i = none := by
      intro x hx hr
      have h0 := (mem_ready.1 hr).1
      rw [getD_of (hR.done x hx).1] at h0
      cases hb : β x.i with
      | none => rfl
      | some b => rw [hb] at h0; cases h0
    have hto : ∀ j, j ∉ fs.map (·.i) → j ∈ Region.ready .any ops listed → j ∈ Region.ready .any ops lF := by
      intro j hj hr
      obtain ⟨h0, o, ho, ha⟩ := mem_ready.1 hr
      refine mem_ready.2 ⟨by rw [← getD_same (hR.main j hj)]; exact h0, o, ho, fun e he hb => ?_⟩
      have h1 := ha e he hb
      by_cases hin : e.on ∈ fs.map (·.i)
      · obtain ⟨x, hx, hxe⟩ := List.mem_map.1 hin
        rw [← hxe, getD_of (hR.done x hx).2]
      · rw [← getD_same (hR.main _ hin)]; exact h1
    have hfrom : ∀ j oj, ops[j]? = some oj → j ∉ fs.map (·.i) → (∀ e ∈ oj.after, Region.binds .any e = true → e.on ∉ fs.map (·.i)) → j ∈ Region.ready .any ops lF → j ∈ Region.ready .any ops listed := by
      intro j oj hoj hj hno hr
      obtain ⟨h0, o, ho, ha⟩ := mem_ready.1 hr
      obtain rfl : oj = o := by rw [hoj] at ho; exact Option.some.inj ho
      refine mem_ready.2 ⟨by rw [getD_same (hR.main j hj)]; exact h0, oj, hoj, fun e he hb => ?_⟩
      rw [getD_same (hR.main _ (hno e he hb))]
      exact ha e he hb
    have hβ' : ∀ {i : Nat}, ∀ j, (∃ b, β j = some b) → (lF.setIfInBounds i true)[j]? = some true := fun {i} j hj => by
      have h1 := hβ j hj
      by_cases e : i = j
      · subst e
        have := (Array.getElem?_eq_some_iff.1 h1).1
        simp [this]
      · rw [Array.getElem?_setIfInBounds_ne e]; exact h1
    match pl, hm, hpl, htp, h, hal with
    | [], hm, hpl, htp, h, hal =>
      obtain rfl : fs = [] := by simpa [planG] using hpl
      have hl : listed = lF := Array.ext_getElem? fun j => hR.main j (by simp)
      subst hl
      rw [show cost [] + nx [] β + tp.length = tp.length by simp [cost, nx]]
      exact wpTl_sound tp _ _ _ htp (h w hX hE)
    | (i, 0) :: rest, hm, hpl, htp, h, hal =>
      obtain ⟨o, v, hi, hy, h⟩ := h
      simp only [planG, hi, Bool.and_eq_true, Bool.not_eq_true'] at hpl
      obtain ⟨⟨⟨⟨⟨⟨h1, h2⟩, h3⟩, h3'⟩, h4⟩, haw⟩, h5⟩ := hpl
      have hiF : i ∉ fs.map (·.i) := by simpa using h3'
      have hA := away haw
      have hx2 : ∀ x ∈ fs, x.t ∉ o.looksAt ops ∧ o.dst ≠ some x.t ∧ ∀ ox, ops[x.i]? = some ox → o.apart ops ox = true := fun x hx => by
        obtain ⟨ox, g1, _, g3, _⟩ := hok.fl x hx
        obtain ⟨t, e1, e2, e3, _, e5⟩ := hA.2 x.i (List.mem_map.2 ⟨x, hx, rfl⟩) ox g1
        rw [g3] at e1
        obtain rfl := Option.some.inj e1
        exact ⟨e2, e3, fun ox' h' => by rw [g1] at h'; obtain rfl := Option.some.inj h'; exact e5⟩
      have key := ih rest fs bs (listed.setIfInBounds i true) (lF.setIfInBounds i true) β (a.put o.dst v) E w (by simp only [List.length_cons] at hm; omega) (hR.step hiF) (hok.step hsel haw sameFor_put) h5 htp hX hst hE hbl hinj hbs hβ' h
      rw [putX_put fun x hx => (hx2 x hx).2.1] at key
      rw [show cost ((i, 0) :: rest) + nx fs β + tp.length = (cost rest + nx fs β + tp.length) + 1 by rw [cost_ne (by decide)]; omega]
      refine wpAnyU_first hi (Region.noSelect_spec hsel) (fun c a w => hQ c a _ _ w) _ _ _ _ ?_ ?_ (hfrom i o hi hiF hA.1 (by simpa using h2)) (yields_putX (Region.noSelect_spec hsel i o · · hi) hy fun x hx => (hx2 x hx).1) hX key
      · intro j oj hj hji hun hno
        by_cases hin : j ∈ fs.map (·.i)
        · obtain ⟨x, hx, rfl⟩ := List.mem_map.1 hin
          exact (hx2 x hx).2.2 oj hj
        · exact Region.free_spec hi h1 j oj hj hji (by rw [← getD_same (hR.main j hin)]; exact hun) hno
      · intro j oj hj htj hun
        have hjF : j ∉ fs.map (·.i) := fun hin => by
          obtain ⟨x, hx, rfl⟩ := List.mem_map.1 hin
          obtain ⟨_, _, _, _, ht, _⟩ := hok.fl x hx
          rw [ht] at htj; cases htj
        have h6 := List.all_eq_true.1 h4 j (by simpa using htj)
        rw [getD_same (hR.main j hjF)] at hun
        rw [hj] at h6
        simp only [hun, Bool.false_or] at h6
        obtain ⟨e, he, hb⟩ := Array.any_eq_true'.1 h6
        simp only [Bool.and_eq_true] at hb
        exact ⟨e, he, hb.1, depX_of hR _ _ hb.2⟩
    | (i, 2) :: rest, hm, hpl, htp, h, hal =>
      obtain ⟨o, v, hi, hy, h⟩ := h
      simp only [planG, hi, Bool.and_eq_true, Bool.not_eq_true'] at hpl
      obtain ⟨⟨⟨⟨⟨⟨h1, h2⟩, h3⟩, h3'⟩, h4⟩, haw⟩, h5⟩ := hpl
      have hiF : i ∉ fs.map (·.i) := by simpa using h3'
      have hA := away haw
      have hx2 : ∀ x ∈ fs, x.t ∉ o.looksAt ops ∧ o.dst ≠ some x.t ∧ ∀ ox, ops[x.i]? = some ox → o.apart ops ox = true := fun x hx => by
        obtain ⟨ox, g1, _, g3, _⟩ := hok.fl x hx
        obtain ⟨t, e1, e2, e3, _, e5⟩ := hA.2 x.i (List.mem_map.2 ⟨x, hx, rfl⟩) ox g1
        rw [g3] at e1
        obtain rfl := Option.some.inj e1
        exact ⟨e2, e3, fun ox' h' => by rw [g1] at h'; obtain rfl := Option.some.inj h'; exact e5⟩
      have key := ih rest fs bs (listed.setIfInBounds i true) (lF.setIfInBounds i true) β (a.put o.dst v) E w (by simp only [List.length_cons] at hm; omega) (hR.step hiF) (hok.step hsel haw sameFor_put) h5 htp hX hst hE hbl hinj hbs hβ' h
      rw [putX_put fun x hx => (hx2 x hx).2.1] at key
      rw [show cost ((i, 2) :: rest) + nx fs β + tp.length = (cost rest + nx fs β + tp.length) + 1 by rw [cost_ne (by decide)]; omega]
      refine wpAnyU_pure hi (Region.noSelect_spec hsel) h4 (fun c a w => hQ c a _ _ w) _ _ _ _ ?_ (hfrom i o hi hiF hA.1 (by simpa using h2)) (yields_putX (Region.noSelect_spec hsel i o · · hi) hy fun x hx => (hx2 x hx).1) key
      intro j oj hj hji hun hno
      by_cases hin : j ∈ fs.map (·.i)
      · obtain ⟨x, hx, rfl⟩ := List.mem_map.1 hin
        exact (hx2 x hx).2.2 oj hj
      · exact Region.free_spec hi h1 j oj hj hji (by rw [← getD_same (hR.main j hin)]; exact hun) hno
    | (i, 3) :: rest, hm, hpl, htp, h, hal =>
      obtain ⟨x, fs', hfs, h9⟩ := h
      subst hfs
      simp only [planG, List.map_cons, List.head?_cons, List.tail_cons, Bool.and_eq_true, beq_iff_eq, Option.some.injEq, List.all_eq_true] at hpl
      obtain ⟨⟨h1, h2⟩, h3⟩ := hpl
      cases hb : β x.i with
      | some b =>
        obtain ⟨g1, g2, g3⟩ := hbl x (by simp) b hb
        obtain ⟨E', hst', hE', hk⟩ := h9 b g2 g3 hst
        have hn := hok.n1
        have hn2 := hok.n2
        simp only [List.map_cons, List.nodup_cons, List.mem_map, not_exists, not_and] at hn hn2
        have hlt : b < w.heap.size := by
          rcases Nat.lt_or_ge b w.heap.size with hl | hl
          · exact hl
          · rw [Array.getElem?_eq_none hl] at g1; cases g1
        have hok' : FgOk P ops tl fs' lF (a.put (some x.t) (x.yv b)) := by
          refine ⟨fun y hy => ?_, hn.2, hn2.2⟩
          obtain ⟨oy, k1, k2, k3, k4, k5, k6, k7⟩ := hok.fl y (by simp [hy])
          refine ⟨oy, k1, (wanted_put oy _ _ _ (fun e he => by obtain rfl := Option.some.inj he; exact k6 x (by simp))).trans k2, k3, k4, fun e he hb' => ⟨(k5 e he hb').1, fun hin => (k5 e he hb').2 (by simp only [List.map_cons, List.mem_cons]; exact .inr hin)⟩, fun z hz => k6 z (by simp [hz]), fun w => ?_⟩
          rw [execOp_put oy (fun cs b => Region.noSelect_spec hsel y.i oy cs b k1) _ _ _ (fun e he => by obtain rfl := Option.some.inj he; exact k6 x (by simp))]
          exact k7 w
        have key := ih rest fs' (b :: bs) listed lF β (a.put (some x.t) (x.yv b)) E' w (by
            have : nx fs' β ≤ nx (x :: fs') β := by unfold nx; rw [List.countP_cons]; omega
            simp only [List.length_cons] at hm; omega) (hR.wait (by rw [hb]; rfl)) hok' h3 htp hX hst' (hE' w hX hE g1)
          (fun y hy b' hyb => by
            obtain ⟨k1, k2, k3⟩ := hbl y (by simp [hy]) b' hyb
            refine ⟨k1, k2, fun hin => ?_⟩
            rcases List.mem_cons.1 hin with rfl | hin
            · exact hn.1 y hy (hinj y (by simp [hy]) x (by simp) _ hyb hb)
            · exact k3 hin)
          (fun y hy z hz b' hyb hzb => hinj y (by simp [hy]) z (by simp [hz]) b' hyb hzb)
          (fun b' hb' => by
            rcases List.mem_cons.1 hb' with rfl | hb'
            · exact hlt
            · exact hbs b' hb') hβ hk
        rw [putX_put fun y hy e => hn2.1 y hy (Option.some.inj e).symm] at key
        rw [show cost ((i, 3) :: rest) + nx (x :: fs') β + tp.length = cost rest + nx fs' β + tp.length by rw [cost_eq]; unfold nx; rw [List.countP_cons, hb]; rfl]
        unfold putX
        rw [hb]
        exact key
      | none =>
        have hnp : 1 ≤ nx (x :: fs') β := by unfold nx; rw [List.countP_cons, hb]; simp
        obtain ⟨f, hf⟩ : ∃ f, cost ((i, 3) :: rest) + nx (x :: fs') β + tp.length = f + 1 := ⟨cost ((i, 3) :: rest) + nx (x :: fs') β + tp.length - 1, by omega⟩
        rw [hf]
        refine ⟨fun h0 => (by have := hfr x (by simp) hb; rw [h0] at this; cases this), fun j hj => ?_⟩
        by_cases hin : j ∈ (x :: fs').map (·.i)
        · obtain ⟨y, hy, rfl⟩ := List.mem_map.1 hin
          exact hal y hy (hfl y hy hj) f hf
        · exfalso
          have h4 := h2 j (hto j hin hj)
          obtain ⟨_, oj, hoj, ha⟩ := mem_ready.1 hj
          rw [hoj] at h4
          obtain ⟨e, he, hb'⟩ := Array.any_eq_true'.1 h4
          simp only [Bool.and_eq_true, beq_iff_eq] at hb'
          have h5 := ha e he hb'.1
          rw [hb'.2, ← h1, getD_of (hR.done x (by simp)).1, hb] at h5
          cases h5
    | (i, 4) :: rest, hm, hpl, htp, h, hal =>
      obtain ⟨x, o, rfl, hi, hd, hwa, hrun, h⟩ := h
      simp only [planG, hi, Bool.and_eq_true, Bool.not_eq_true', beq_iff_eq, Array.all_eq_true_iff_forall_mem] at hpl
      obtain ⟨⟨⟨⟨h1, h2⟩, h3⟩, ⟨h5, hself⟩, haw⟩, h6⟩ := hpl
      rw [hd] at hself
      have hself' : x.t ∉ o.looksAt ops := by simpa using hself
      have hiF : x.i ∉ fs.map (·.i) := by simpa using h3
      have hA := away haw
      have hbn : β x.i = none := by
        cases hb : β x.i with
        | none => rfl
        | some b => have := hβ x.i ⟨b, hb⟩; rw [h1] at this; cases this
      have hx2 : ∀ y ∈ fs, y.t ∉ o.looksAt ops ∧ y.t ≠ x.t ∧ ∀ oy, ops[y.i]? = some oy → x.t ∉ oy.looksAt ops := fun y hy => by
        obtain ⟨oy, g1, _, g3, _⟩ := hok.fl y hy
        obtain ⟨t, e1, e2, e3, e4, _⟩ := hA.2 y.i (List.mem_map.2 ⟨y, hy, rfl⟩) oy g1
        rw [g3] at e1
        obtain rfl := Option.some.inj e1
        exact ⟨e2, fun e => e3 (by rw [hd, e]), fun oy' h' => by rw [g1] at h'; obtain rfl := Option.some.inj h'; exact e4 _ hd⟩
      have hnx : nx (x :: fs) β = nx fs β + 1 := by unfold nx; rw [List.countP_cons, hbn]; simp
      have hokL : FgOk P ops tl (x :: fs) (lF.setIfInBounds x.i true) a := by
        have hup : ∀ k : Nat, lF[k]? = some true → (lF.setIfInBounds x.i true)[k]? = some true := fun k hk => by
          have hne : x.i ≠ k := fun e => by rw [e, hk] at h1; cases h1
          rw [Array.getElem?_setIfInBounds_ne hne]; exact hk
        have hno : ∀ k : Nat, lF[k]? = some true → k ∉ fs.map (·.i) → k ∉ (x :: fs).map (·.i) := fun k hk hn hin => by
          simp only [List.map_cons, List.mem_cons] at hin
          rcases hin with rfl | hin
          · rw [hk] at h1; cases h1
          · exact hn hin
        refine ⟨fun y hy => ?_, ?_, ?_⟩
        · rcases List.mem_cons.1 hy with rfl | hy
          · refine ⟨o, hi, hwa, hd, h2, fun e he hb => ?_, fun z hz => ?_, hrun⟩
            · have h7 := h5 e he
              rw [hb] at h7
              simp only [Bool.not_true, Bool.false_or] at h7
              have h8 : lF[e.on]? = some true := by
                cases hg : lF[e.on]? with
                | none => simp [hg] at h7
                | some c => simp [hg] at h7; rw [h7]
              exact ⟨hup _ h8, hno _ h8 (hA.1 e he hb)⟩
            · rcases List.mem_cons.1 hz with rfl | hz
              · exact hself'
              · exact (hx2 z hz).1
          · rename_i hy9
            have hy8 : y ∈ fs := by assumption
            obtain ⟨oy, k1, k2, k3, k4, k5, k6, k7⟩ := hok.fl y hy8
            have hy7 := (hx2 y hy8).2.2 oy k1
            refine ⟨oy, k1, k2, k3, k4, fun e he hb => ⟨hup _ (k5 e he hb).1, hno _ (k5 e he hb).1 (k5 e he hb).2⟩, fun z hz => ?_, k7⟩
            rcases List.mem_cons.1 hz with rfl | hz
            · exact hy7
            · exact k6 z hz
        · simp only [List.map_cons, List.nodup_cons]; exact ⟨hiF, hok.n1⟩
        · simp only [List.map_cons, List.nodup_cons, List.mem_map, not_exists, not_and]; exact ⟨fun y hy e => (hx2 y hy).2.1 e, hok.n2⟩
      have key := ih rest (x :: fs) bs listed (lF.setIfInBounds x.i true) β a E w (by simp only [List.length_cons] at hm; omega) (hR.launch hiF h1 hbn) hokL h6 htp hX hst hE
        (fun y hy b hyb => by
          rcases List.mem_cons.1 hy with rfl | hy
          · rw [hbn] at hyb; cases hyb
          · exact hbl y hy b hyb)
        (fun y hy z hz b hyb hzb => by
          rcases List.mem_cons.1 hy with rfl | hy
          · rw [hbn] at hyb; cases hyb
          · rcases List.mem_cons.1 hz with rfl | hz
            · rw [hbn] at hzb; cases hzb
            · exact hinj y hy z hz b hyb hzb) hbs hβ' h
      rw [show cost ((x.i, 4) :: rest) + nx fs β + tp.length = cost rest + nx (x :: fs) β + tp.length by rw [hnx, cost_ne (by decide)]; omega]
      unfold putX at key
      rw [hbn] at key
      exact key
    | (i, 5) :: rest, hm, hpl, htp, h, hal =>
      simp only [planG, Bool.and_eq_true, Bool.not_eq_true', beq_iff_eq] at hpl
      obtain ⟨⟨⟨⟨⟨h0, h1⟩, h2⟩, h4⟩, haw⟩, h5⟩ := hpl
      obtain rfl : fs = [] := by simpa using h0
      have hiF : i ∉ ([] : List FX).map (·.i) := by simp
      have hir : i ∈ Region.ready .any ops lF := by rw [h1]; simp
      obtain ⟨_, o, hi, _⟩ := mem_ready.1 hir
      rw [hi] at haw
      have hA := away haw
      obtain ⟨f, hf⟩ : ∃ f, cost rest + nx [] β + tp.length = f := ⟨_, rfl⟩
      have hf1 : ∀ k, k ≠ 3 → cost ((i, k) :: rest) + nx [] β + tp.length = f + 1 := fun k hk => by rw [← hf, cost_ne hk]; omega
      rw [hf1 _ (by omega)]
      refine ⟨fun h0 => (by have := hfrom i o hi hiF hA.1 hir; rw [h0] at this; cases this), fun j hj => ?_⟩
      have hjr := hto j (by simp) hj
      rw [h1] at hjr
      obtain rfl : j = i := by simpa using hjr
      refine wpOp_mono ?_ (wpOp_putX (β := β) hi (Region.noSelect_spec hsel j o · · hi) hQ' (wpOp_same hi (h w hX hE)) (fs := []) (fun x hx => by cases hx))
      rintro a' w' ⟨a'', rfl, hsm, hXw, hsz, E', hst', hE', hk⟩
      have key := ih rest [] bs (listed.setIfInBounds j true) (lF.setIfInBounds j true) β _ E' w' (by simp only [List.length_cons] at hm; omega) (hR.step hiF) (hok.step hsel haw hsm) h5 htp hXw hst' hE' (fun x hx => by cases hx) (fun x hx => by cases hx) (fun b hb => by have := hbs b hb; omega) hβ' hk
      rw [hf] at key
      exact ⟨fun _ _ => hXw, key⟩
    | (i, 1) :: rest, hm, hpl, htp, h, hal | (i, k + 6) :: rest, hm, hpl, htp, h, hal =>
      simp only [planG, Bool.and_eq_true, Bool.not_eq_true', beq_iff_eq] at hpl
      obtain ⟨⟨⟨⟨⟨h1, h2⟩, h3⟩, h4⟩, haw⟩, h5⟩ := hpl
      have hiF : i ∉ fs.map (·.i) := by simpa using h3
      have hir : i ∈ Region.ready .any ops lF := by rw [h1]; simp
      obtain ⟨_, o, hi, _⟩ := mem_ready.1 hir
      rw [hi] at haw
      have hA := away haw
      have hx2 : ∀ x ∈ fs, x.t ∉ o.looksAt ops ∧ o.dst ≠ some x.t := fun x hx => by
        obtain ⟨ox, g1, _, g3, _⟩ := hok.fl x hx
        obtain ⟨t, e1, e2, e3, _, e5⟩ := hA.2 x.i (List.mem_map.2 ⟨x, hx, rfl⟩) ox g1
        rw [g3] at e1
        obtain rfl := Option.some.inj e1
        exact ⟨e2, e3⟩
      obtain ⟨f, hf⟩ : ∃ f, cost rest + nx fs β + tp.length = f := ⟨_, rfl⟩
      have hf1 : ∀ k, k ≠ 3 → cost ((i, k) :: rest) + nx fs β + tp.length = f + 1 := fun k hk => by rw [← hf, cost_ne hk]; omega
      rw [hf1 _ (by omega)]
      refine ⟨fun h0 => (by have := hfrom i o hi hiF hA.1 hir; rw [h0] at this; cases this), fun j hj => ?_⟩
      by_cases hin : j ∈ fs.map (·.i)
      · obtain ⟨x, hx, rfl⟩ := List.mem_map.1 hin
        exact hal x hx (hfl x hx hj) f (hf1 _ (by omega))
      · have hjr := hto j hin hj
        rw [h1] at hjr
        obtain rfl : j = i := by simpa using hjr
        refine wpOp_mono ?_ (wpOp_putX (β := β) hi (Region.noSelect_spec hsel j o · · hi) hQ' (wpOp_same hi (h w hX hE)) (fs := fs) hx2)
        rintro a' w' ⟨a'', rfl, hsm, hXw, E', hst', hE', hk⟩
        have key := ih rest fs bs (listed.setIfInBounds j true) (lF.setIfInBounds j true) β a'' E' w' (by simp only [List.length_cons] at hm; omega) (hR.step hiF) (hok.step hsel haw hsm) h5 htp (hX.trans hXw) hst' hE' ?_ hinj (fun b hb => by have := hbs b hb; have := hXw.size; omega) hβ' hk
        · rw [hf] at key
          exact ⟨fun _ _ => hX.trans hXw, key⟩
        · intro y hy b hyb
          obtain ⟨g1, g2, g3⟩ := hbl y hy b hyb
          have hlt : b < w.heap.size := by
            rcases Nat.lt_or_ge b w.heap.size with hl | hl
            · exact hl
            · rw [Array.getElem?_eq_none hl] at g1; cases g1
          exact ⟨by rw [hXw.block hlt]; exact g1, g2, g3⟩
/-- **The region, by a plan, with operations that may come up at any time.** -/
theorem wp_floatG {id : Nat} {a : Act} {w : World} (pl : List (Nat × Nat)) (tp tl pu : List Nat) (hm : P.follows .mixedOrders = true) (hsel : Region.noSelect ops = true)
    (hok : (planG ops tl pu (Array.replicate ops.size false) [] pl && tailOk ops tl (listG (Array.replicate ops.size false) pl) tp && cost pl + tp.length == ops.size) = true)
    (hQ : ∀ c a d v w, Q (.panic c) (a.put d v) w → Q (.panic c) a w) (hQ' : ∀ c a d v w, Q (.panic c) a w → Q (.panic c) (a.put d v) w)
    (h : wpFg P ops Q w.drew tp pl [] [] a (fun _ => True)) : (Code.region id ops true).wp P Q a w := by
  simp only [Bool.and_eq_true, beq_iff_eq] at hok
  obtain ⟨⟨h2, h3⟩, h4⟩ := hok
  refine wp_region_any hm (wpAny_of_U (S := Ext w.drew) (tl := tl) (pu := pu) _ _ _ _ ?_)
  have key := wpFg_sound (P := P) (Q := Q) (W0 := w.drew) (tp := tp) (pu := pu) (tl := tl) hsel hQ hQ' (2 * pl.length) pl [] [] (Array.replicate ops.size false) _ (fun _ => none) a (fun _ => True) w.drew (by simp [nx]) ⟨rfl, fun _ _ => rfl, fun x hx => (by cases hx)⟩
    ⟨fun x hx => (by cases hx), by simp, by simp⟩ h2 h3 (Ext.refl _) (fun _ _ _ _ => trivial) trivial (fun x hx => by cases hx) (fun x hx => by cases hx) (fun b hb => by cases hb) (fun j ⟨b, hb⟩ => by cases hb) h
  rw [show cost pl + nx [] (fun _ => none) + tp.length = ops.size by rw [← h4]; simp [nx]] at key
  exact key
variable {W0 : World} {fs : List FX} {bs tp : List Nat} {a : Act} {E : World → Prop} {i : Nat} {rest : List (Nat × Nat)} {o : Oper}
theorem wpFg_read {v : Value} (hi : ops.toList[i]? = some o) (hw : Region.wanted o (yielded ops a.tmps) = true) (h : ∀ w, Ext W0 w → (execOp a.eval o).run P w = .ok (.value v) w) (k : wpFg P ops Q W0 tp rest fs bs (a.put o.dst v) E) :
    wpFg P ops Q W0 tp ((i, 0) :: rest) fs bs a E := ⟨o, v, by simpa using hi, .inl ⟨hw, h⟩, k⟩
theorem wpFg_eff (hi : ops.toList[i]? = some o) (hw : Region.wanted o (yielded ops a.tmps) = true)
    (h : ∀ w, Ext W0 w → E w → ∀ K : Act → World → Prop, (∀ a' w' (E' : World → Prop), Ext w w' → (∀ w1 w2, Ext w1 w2 → E' w1 → E' w2) → E' w' → wpFg P ops Q W0 tp rest fs bs a' E' → K a' w') → o.wp P a w K Q) :
    wpFg P ops Q W0 tp ((i, 1) :: rest) fs bs a E := by
  have hi' : ops[i]? = some o := by simpa using hi
  intro w hX hE
  unfold wpOp
  simp only [hi', hw, if_true]
  exact .inl (h w hX hE _ fun a' w' E' h1 h2 h3 h4 => ⟨h1, E', h2, h3, h4⟩)
theorem wpFg_done (h : ∀ w, Ext W0 w → E w → wpTl P ops Q tp a w) : wpFg P ops Q W0 tp [] fs bs a E := by
  unfold wpFg
  exact h
theorem wpFg_store (hi : ops.toList[i]? = some o) (hw : Region.wanted o (yielded ops a.tmps) = true)
    (h : ∀ w, Ext W0 w → E w → ∀ K : Act → World → Prop, (∀ a' w' (E' : World → Prop), Ext W0 w' → w.heap.size ≤ w'.heap.size → (∀ w1 w2, Ext w1 w2 → E' w1 → E' w2) → E' w' → wpFg P ops Q W0 tp rest fs bs a' E' → K a' w') → o.wp P a w K Q) :
    wpFg P ops Q W0 tp ((i, 5) :: rest) fs bs a E := by
  have hi' : ops[i]? = some o := by simpa using hi
  intro w hX hE
  unfold wpOp
  simp only [hi', hw, if_true]
  exact .inl (h w hX hE _ fun a' w' E' h1 h2 h3 h4 h5 => ⟨h1, h2, E', h3, h4, h5⟩)
theorem wpFg_launch {t : Nat} (ob : Obj) (mk : Nat → Value) (hi : ops.toList[i]? = some o) (hd : o.dst = some t) (hw : Region.wanted o (yielded ops a.tmps) = true) (h : ∀ w, (execOp a.eval o).run P w = .ok (.value (mk w.heap.size)) (w.alloc ob)) (k : wpFg P ops Q W0 tp rest (⟨i, t, ob, mk⟩ :: fs) bs a E) :
    wpFg P ops Q W0 tp ((i, 4) :: rest) fs bs a E := ⟨⟨i, t, ob, mk⟩, o, rfl, by simpa using hi, hd, hw, h, k⟩
theorem wpFg_wait {x : FX} (h : ∀ b, W0.heap.size ≤ b → b ∉ bs → (∀ w1 w2, Ext w1 w2 → E w1 → E w2) → ∃ E' : World → Prop, (∀ w1 w2, Ext w1 w2 → E' w1 → E' w2) ∧ (∀ w, Ext W0 w → E w → w.heap[b]? = some x.ob → E' w) ∧ wpFg P ops Q W0 tp rest fs (b :: bs) (a.put (some x.t) (x.yv b)) E') :
    wpFg P ops Q W0 tp ((i, 3) :: rest) (x :: fs) bs a E := ⟨x, fs, rfl, h⟩
end
end Go.Proofs.YtkcoikelcmpceaaGreatDoor
namespace Go.Proofs.YtkcoikelcmpceaaGreatDoor
open Go.RowKit
theorem kargs_block {w : World} {t : TypeId} {p : Nat} {cs : Array Value} (xs : List Ar) (hb : w.heap[p]? = some (.cells cs t)) (hc : cs = (acells xs).toArray) {n : Nat} (hn : xs.length = n) (hs : n ≤ 9223372036854775807) (h : ∀ a ∈ xs, ArOk w a) :
    ArgsIn w (some ⟨p, 0, none⟩) n n xs :=
  ⟨by subst hc; exact Rd.of_row hb 0 (Nat.zero_le _), hn, Nat.le_refl _, hs, h⟩
theorem kargs_new {w : World} {t : TypeId} {p : Nat} {cs : Array Value} (xs : List Ar) (hp : p = w.heap.size) (hc : cs = (acells xs).toArray) {n : Nat} (hn : xs.length = n) (hs : n ≤ 9223372036854775807) (h : ∀ a ∈ xs, ArOk w a) :
    ArgsIn (w.alloc (.cells cs t)) (some ⟨p, 0, none⟩) n n xs :=
  kargs_block xs (by subst hp; exact heap_alloc_new _ _) hc hn hs fun a ha => (h a ha).ext ((Ext.refl _).alloc _)
theorem karr_block {w : World} {t : TypeId} {p : Nat} {cs : Array Value} (l : List Val) (h : w.heap[p]? = some (.cells cs t)) (hc : cs = (vcells l).toArray) {n : Nat} (hn : l.length = n) (hs : n ≤ 9223372036854775807) (hok : ∀ x ∈ l, x.ok) :
    ArrIn w (some ⟨p, 0, none⟩) n n l :=
  ⟨by subst hc; exact Rd.of_row h 0 (Nat.zero_le _), hn, Nat.le_refl _, hs, hok⟩
theorem karr_new {w : World} {t : TypeId} {p : Nat} {cs : Array Value} (l : List Val) (hp : p = w.heap.size) (hc : cs = (vcells l).toArray) {n : Nat} (hn : l.length = n) (hs : n ≤ 9223372036854775807) (hok : ∀ x ∈ l, x.ok) :
    ArrIn (w.alloc (.cells cs t)) (some ⟨p, 0, none⟩) n n l := by
  subst hp; exact karr_block l (heap_alloc_new _ _) hc hn hs hok
/-- An array of one value. -/
abbrev kOne (y : Val) (p : Nat) : Ar := arAt (rowA [y]) (some ⟨p, 0, none⟩) 1 1
theorem kOne_ok {w : World} {y : Val} {p : Nat} (h : ArrIn w (some ⟨p, 0, none⟩) 1 1 [y]) (hr : y.right) : ArOk w (kOne y p) := ⟨h, one_row hr⟩
abbrev kvB (x : Val) : Obj := .cells #[.int .i64 x.kind, .int .i64 x.mant, .int .i64 x.exp, .string x.text, .bool x.truth, .int .i64 x.fault] 30
abbrev kset (w : World) (b : Nat) (x : Val) : World := (((((w.setCell ⟨b, 0, none⟩ (.int .i64 x.kind)).setCell ⟨b, 1, none⟩ (.int .i64 x.mant)).setCell ⟨b, 2, none⟩ (.int .i64 x.exp)).setCell ⟨b, 3, none⟩ (.string x.text)).setCell ⟨b, 4, none⟩ (.bool x.truth)).setCell ⟨b, 5, none⟩ (.int .i64 x.fault)
theorem kset_heap {w : World} {b : Nat} {x : Val} {c0 c1 c2 c3 c4 c5 : Value} (h : w.heap[b]? = some (.cells #[c0, c1, c2, c3, c4, c5] 30)) : (kset w b x).heap[b]? = some (kvB x) := by
  have h0 := heap_setCell_same _ b 0 _ _ (.int .i64 x.kind) h
  have h1 := heap_setCell_same _ b 1 _ _ (.int .i64 x.mant) h0
  have h2 := heap_setCell_same _ b 2 _ _ (.int .i64 x.exp) h1
  have h3 := heap_setCell_same _ b 3 _ _ (.string x.text) h2
  have h4 := heap_setCell_same _ b 4 _ _ (.bool x.truth) h3
  have h5 := heap_setCell_same _ b 5 _ _ (.int .i64 x.fault) h4
  simpa using h5
theorem kset_other {w : World} {b q : Nat} {x : Val} (h : q ≠ b) : (kset w b x).heap[q]? = w.heap[q]? := by
  unfold kset
  rw [Below.heap_setCell _ _ _ _ h, Below.heap_setCell _ _ _ _ h, Below.heap_setCell _ _ _ _ h, Below.heap_setCell _ _ _ _ h, Below.heap_setCell _ _ _ _ h, Below.heap_setCell _ _ _ _ h]
theorem kset_ext {W0 w : World} {b : Nat} {x : Val} (h : Ext W0 w) (hb : W0.heap.size ≤ b) : Ext W0 (kset w b x) :=
  (((((Below.setCell h hb _).setCell hb _).setCell hb _).setCell hb _).setCell hb _).setCell hb _
theorem kvB_at {w : World} {b : Nat} {x : Val} (h : w.heap[b]? = some (kvB x)) : ValAt w b 0 x :=
  ⟨cell_of_row _ _ 0 _ _ _ h, cell_of_row _ _ 1 _ _ _ h, cell_of_row _ _ 2 _ _ _ h, cell_of_row _ _ 3 _ _ _ h, cell_of_row _ _ 4 _ _ _ h, cell_of_row _ _ 5 _ _ _ h⟩
/-- A row of values whose length is told. -/
abbrev kAr (l : List Val) (D : Option Addr) (n c : Nat) : Ar := ⟨⟨1, n, l⟩, D, n, c⟩
theorem kAr_ok {w : World} {l : List Val} {D : Option Addr} {n c : Nat} (h : ArrIn w D n c l) (h0 : 0 < n) (h1 : n ≤ 4096) (hr : ∀ x ∈ l, x.right) : ArOk w (kAr l D n c) := by
  have hl := h.len
  subst hl
  exact ⟨h, rowA_right h0 h1 hr⟩
end Go.Proofs.YtkcoikelcmpceaaGreatDoor
namespace Go.Proofs.YtkcoikelcmpceaaGreatDoor
open Go.RowKit NM
def nW (i : Int) : Val := nV (wholeN i)
theorem nW_rt {i : Int} (h : i.natAbs < T 15) : Rt (wholeN i).1 (wholeN i).2 := (wholex h).2.1
theorem nW_right {i : Int} (h : i.natAbs < T 15) : (nW i).right := right_num (nW_rt h)
theorem wsum_small {B : Nat} : ∀ {l : List Int}, (∀ i ∈ l, i.natAbs ≤ B) → l.sum.natAbs ≤ l.length * B
  | [], _ => by simp
  | a :: l, h => by
    have h1 := wsum_small (l := l) fun i hi => h i (List.mem_cons_of_mem _ hi)
    have h2 := h a List.mem_cons_self
    rw [List.sum_cons, List.length_cons, Nat.add_mul, Nat.one_mul]; omega
theorem sum_wholes {B : Nat} : ∀ (l : List Int) (t : Int), (∀ i ∈ l, i.natAbs ≤ B) → t.natAbs + l.length * B < T 15 → sumO (wholeN t) (l.map wholeN) = some (wholeN (t + l.sum))
  | [], t, _, _ => by simp [sumO]
  | a :: l, t, h, hb => by
    have h2 := h a List.mem_cons_self
    rw [List.length_cons, Nat.add_mul, Nat.one_mul] at hb
    rw [List.map_cons]
    show (addS (wholeN t).1 (wholeN t).2 (wholeN a).1 (wholeN a).2).bind _ = _
    rw [add_whole (by omega) (by omega), (wholex (n := t + a) (by omega)).1]
    show sumO (wholeN (t + a)) (l.map wholeN) = _
    rw [sum_wholes l (t + a) (fun i hi => h i (List.mem_cons_of_mem _ hi)) (by omega), List.sum_cons, Int.add_assoc]
theorem ffL_wholes : ∀ l : List Int, ffL (l.map nW) = 0
  | [] => rfl
  | a :: l => by
    show ffL (nW a :: l.map nW) = 0
    unfold ffL
    rw [if_neg (by show ¬ (1 : Int) = 4; decide)]
    exact ffL_wholes l
theorem numsL_wholes : ∀ l : List Int, numsL (l.map nW) = l.map wholeN
  | [] => rfl
  | a :: l => by
    show numsL (nW a :: l.map nW) = _
    unfold numsL
    rw [if_pos (show (nW a).kind = 1 from rfl), numsL_wholes l]
    rfl
theorem sum_row {xs : List Ar} {l : List Int} {B : Nat} (h : allV xs = l.map nW) (hb : ∀ i ∈ l, i.natAbs ≤ B) (hl : l.length * B < T 15) : ofNumsO sumV xs = oneA (nW l.sum) := by
  unfold ofNumsO
  rw [h, ffL_wholes, numsL_wholes, if_pos rfl]
  unfold sumV
  rw [← whole_zero, sum_wholes l 0 hb (by simpa using hl), Int.zero_add]
  rfl
theorem isNum_all : ∀ l : List Int, (l.map nW).filter isNum = l.map nW
  | [] => rfl
  | a :: l => by
    rw [List.map_cons, List.filter_cons_of_pos (show isNum (nW a) = true from rfl), isNum_all l]
theorem count_row {xs : List Ar} {l : List Int} (h : allV xs = l.map nW) : countedO isNum (allV xs) = oneA (nW l.length) := by
  unfold countedO
  rw [h, isNum_all, List.length_map]
  rfl
theorem sum_parts (l : List Int) (k : Nat) : (l.take k).sum + (l.drop k).sum = l.sum := by
  rw [← List.sum_append, List.take_append_drop]
end Go.Proofs.YtkcoikelcmpceaaGreatDoor
namespace Go.Proofs.YtkcoikelcmpceaaGreatDoor
open Go.ChangeShapes Go.WideShapes Go.ChangeAt Go.RowKit Go.Deep
theorem own : ownKnob Tryz.prog.godebug = none := by kernel_rfl
theorem laidOut : laidOutB Tryz.prog = true := by kernel_rfl
theorem pow10_data : (Rows.laid_internal_strconv_uint64pow10 : DataW Unit) = Lib.tabData .u64 Lib.pow10Tab := by
  unfold Rows.laid_internal_strconv_uint64pow10 Lib.tabData Lib.pow10Tab
  simp [List.range_succ]
theorem gPow : Tryz.prog.globalNamed "internal/strconv.uint64pow10" = some 3 := by kernel_rfl
theorem tPow : (Tryz.prog.globals[3]?).map (·.type) = some 197 := by kernel_rfl
set_option maxRecDepth 100000
section
variable {H : Type} {enc : TypeId × Value → H} {w : World} {base : Nat} {spare : Nat → Bool} {held : Bool}
theorem trod_blocks_ {t : TypeId} {v : Value} {d : DataW H} {p : List MemPlace} (h : DataW.Trod enc Tryz.prog w base spare held t v d p) : ∀ x ∈ p, x.block < w.heap.size := by
  obtain ⟨m, hm⟩ := h
  exact DataW.trod_lt m _ _ _ hm
end
end Go.Proofs.YtkcoikelcmpceaaGreatDoor
namespace Go.Proofs.YtkcoikelcmpceaaGreatDoor
open Go.ChangeShapes Go.WideShapes Go.ChangeAt Go.RowKit Go.Deep
set_option maxRecDepth 100000
section
variable {H : Type} {enc : TypeId × Value → H} {w : World} {base : Nat} {spare : Nat → Bool} {held : Bool}
theorem open_byte {r : Reach} {b0 : Nat} {v : Value} {d : DataW H} {p : List MemPlace} (hv : Value.okWide Tryz.prog w r b0 5 v) (h : DataW.Trod enc Tryz.prog w base spare held 5 v d p) :
    ∃ b : Int, v = .int .u8 b ∧ 0 ≤ b ∧ b ≤ 255 := by
  obtain ⟨b, rfl⟩ := okWide_int Tryz.underlying5 hv
  obtain ⟨fuel, hf⟩ := h
  obtain ⟨m, e0, _, w0⟩ := DataW.trod_int Tryz.underlying5 hf
  have e1 : b = m := by simpa [Value.cells] using e0
  subst e1
  have : 0 ≤ b ∧ b ≤ 255 := by simpa [Lit.wf, IntKind.min, IntKind.max, IntKind.signed, IntKind.bits] using w0
  exact ⟨b, rfl, this⟩
end
end Go.Proofs.YtkcoikelcmpceaaGreatDoor
namespace Go.Proofs.YtkcoikelcmpceaaGreatDoor
open Go.ChangeShapes Go.WideShapes Go.ChangeAt Go.RowKit
theorem joined_parts {P : Program} {f : FuncId} {fn : Func} {s : ChangeSpec} {c : OpenClaim} (h1 : laidOutB P = true) (h2 : mapsRowed P = true)
    (h3 : (c.inPlace == P.inPlace f) = true) (h4 : (c.unfollowed == P.unfollowed f) = true) (h5 : (c.recurses == P.recurses f) = true) (h6 : (c.named == P.varsNamed f) = true)
    (h7 : (c.plainKeys == P.plainKeys) = true) (h8 : P.stopsHeard = true) (h9 : P.mayEnter = true) (h10 : (c.lifted == P.liftsFinal) = true) (h11 : (P.make == some c.make) = true)
    (hr : (c.wf (OpenSpec.ofChange s) && fn.params.all (P.readableRec ·) && namedTie P c.named s.vars &&
      (c.stops == []) && (P.stops == []) && (c.knobs == []) && (P.stopKnobs == []) &&
      (c.maps == (fn.params.toList ++ s.plain.varTypes P).any (P.mapsRec ·)) && (c.ifaces == (fn.params.toList ++ s.plain.varTypes P).any (P.ifacesRec ·)) && (c.mapsOut == P.mapsAmong fn.resultTypes.toList) &&
      (c.loops == (fn.params.toList ++ s.plain.varTypes P).any (P.loopsFrom ·)) && (c.wideKeys == (fn.params.toList ++ s.plain.varTypes P ++ fn.resultTypes.toList).any (P.wideKeysFrom ·)) &&
      s.vars.all (P.varReadable ·) && fn.resultTypes.all (fun t => P.readableRec t && decide (t < P.types.size)) && (c.ifacesOut == fn.resultTypes.toList.any (P.ifacesRec ·)) && (c.loopsOut == fn.resultTypes.toList.any (P.loopsFrom ·)) && c.shortTexts.isNone && (c.kinds == (if c.domain.isEmpty then [] else fn.params.toList.map fun t => match P.underlying t with | some (.int k) => some k | _ => none)) && (c.pinned == c.pinnedBy) &&
      (c.veiled == (fn.params.toList ++ s.plain.varTypes P ++ fn.resultTypes.toList).any (P.veiledRec ·)) && c.veiledFits P fn.params.toList (fn.params.toList ++ s.plain.varTypes P ++ fn.resultTypes.toList)) = true) :
    joinedFacts P f fn s c = true := by
  simp only [joinedFacts, h1, h2, h3, h4, h5, h6, h7, h8, h9, h10, h11, Bool.and_true]
  exact hr
theorem seat_maps : mapsRowed Tryz.prog = true := by kernel_rfl
theorem seat_heard : Program.stopsHeard Tryz.prog = true := by kernel_rfl
theorem seat_may : Program.mayEnter Tryz.prog = true := by kernel_rfl
end Go.Proofs.YtkcoikelcmpceaaGreatDoor
namespace Go.Proofs.YtkcoikelcmpceaaGreatDoor
open Go.ChangeShapes Go.WideShapes Go.ChangeAt Go.RowKit Go.Deep
def laid4 : List (String × DataW Unit) := [("math/bits.deBruijn32tab", Rows.laid_math_bits_deBruijn32tab), ("math/bits.deBruijn64tab", Rows.laid_math_bits_deBruijn64tab), ("internal/strconv.uint64pow10", Rows.laid_internal_strconv_uint64pow10), ("counterpane/value.faultTexts", Rows.laid_counterpane_value_faultTexts)]
def strData {H : Type} (ss : List (List UInt8)) : DataW H := .agg (ss.map fun s => .lit (.string s))
theorem cells_of_strs {H : Type} {enc : TypeId × Value → H} {P : Program} {w : World} {base : Nat} {sp : Nat → Bool} {held : Bool} {fuel : Nat} {t e : TypeId} {n : Nat} {cs : List Value} {ss : List (List UInt8)} {p : List MemPlace}
    (ht : P.underlying t = some (.array n e)) (he : P.underlying e = some .string) (hce : P.cellsOf e = 1) (hct : P.cellsOf t = n)
    (h : DataW.trod enc P w base sp held fuel t cs = some (strData ss, p)) : cs = ss.map fun s => Value.string ⟨s.toArray⟩ := by
  cases fuel with
  | zero => simp [DataW.trod] at h
  | succ fuel =>
    simp only [DataW.trod, ht, hce, hct, Nat.mul_one] at h
    split at h
    · rename_i hl
      obtain ⟨xs, hm, hx⟩ := Option.map_eq_some_iff.1 h
      have hxs : xs.map (·.1) = ss.map fun s => (DataW.lit (.string s) : DataW H) := by
        have := congrArg Prod.fst hx
        simpa [strData] using this
      have hxl : xs.length = n := by simpa using Lib.mapM_length hm
      have hzl : ss.length = n := by
        have := congrArg List.length hxs
        simp at this
        omega
      apply List.ext_getElem?
      intro i
      by_cases hi : i < n
      · obtain ⟨b, hb, hf⟩ := Lib.mapM_at hm i i (by simp [hi])
        obtain ⟨z, hc, rfl, _⟩ := DataW.trod_string he hf
        have h1 : cs[i]? = some (.string z) := by
          have := congrArg (·[0]?) hc
          simpa [List.getElem?_take, List.getElem?_drop] using this
        have h2 : (xs.map (·.1))[i]? = some (DataW.lit (.string z.data.toList) : DataW H) := by simp [hb]
        rw [hxs] at h2
        simp only [List.getElem?_map, Option.map_eq_some_iff, DataW.lit.injEq, Lit.string.injEq] at h2
        obtain ⟨z', hz', e⟩ := h2
        have e2 : z = ⟨z'.toArray⟩ := by cases z with | mk d => simp only at e; rw [e]
        simp [h1, hz', e2]
      · rw [List.getElem?_eq_none (by omega), List.getElem?_eq_none (by simp; omega)]
    · cases h
theorem faults_data : (Rows.laid_counterpane_value_faultTexts : DataW Unit) = strData (faultTs.map fun s => s.data.toList) := by
  unfold Rows.laid_counterpane_value_faultTexts strData faultTs
  rfl
theorem tFaults : (Tryz.prog.globals[2]?).map (·.type) = some 182 := by kernel_rfl
theorem tabs_of_laid4 {W : World} (h : laidMetH Tryz.prog laid4 W) : Tab W ∧ FTab W := by
  rw [MakeChecks.laidMetH_plain _ _ _ (by kernel_rfl)] at h
  obtain ⟨ps, ⟨g0, t0, cs0, f0, p0, q0, hg0, ht0, hv0, hd0, ⟨g1, t1, cs1, f1, p1, q1, hg1, ht1, hv1, hd1, ⟨g2, t2, cs2, f2, p2, q2, hg2, ht2, hv2, hd2, ⟨g3, t3, cs3, f3, p3, q3, hg3, ht3, hv3, hd3, _, _⟩, _⟩, _⟩, _⟩, _, _⟩ := h
  obtain rfl := Option.some.inj (gPow.symm.trans hg2)
  obtain rfl := Option.some.inj (tPow.symm.trans ht2)
  obtain rfl := Option.some.inj (gFaults.symm.trans hg3)
  obtain rfl := Option.some.inj (tFaults.symm.trans ht3)
  constructor
  · rw [pow10_data] at hd2
    unfold Tab Lib.TabIs
    rw [hv2, ← Lib.cells_of_tab Tryz.underlying197 Tryz.underlying117 (by kernel_rfl) (by kernel_rfl) hd2]
  · rw [faults_data] at hd3
    unfold FTab
    rw [hv3, show faultTs.map Value.string = cs3.toList from ?_]
    have := cells_of_strs Tryz.underlying182 Tryz.underlying9 (by kernel_rfl) (by kernel_rfl) hd3
    rw [this]
    rfl
theorem door_met4 (os : Os) (args : Array Value) : laidMetH Tryz.prog laid4 ((World.doorLaid Tryz.prog 400 os).forCall (fun _ _ => 0) ⟨#[], args, []⟩).memory :=
  laidMetH_of_parts3 (fuel := 8) (laidMet_of_run' 8 (by kernel_rfl) (by kernel_rfl)) (by kernel_rfl) (by kernel_rfl)
set_option maxRecDepth 100000
section
variable {H : Type} {enc : TypeId × Value → H} {w : World} {base : Nat} {spare : Nat → Bool} {held : Bool}
/-- A slice of integers of a small kind. -/
structure IntsIn (w : World) (k : IntKind) (lo hi : Int) (A : Option Addr) (n cap : Nat) (l : List Int) : Prop where
  rd : Rd 0 w A (l.map (Value.int k))
  len : l.length = n
  cap : n ≤ cap
  small : n ≤ 9223372036854775807
  bd : ∀ x ∈ l, lo ≤ x ∧ x ≤ hi
theorem open_i16 {r : Reach} {b0 : Nat} {v : Value} {d : DataW H} {p : List MemPlace} (hv : Value.okWide Tryz.prog w r b0 37 v) (h : DataW.Trod enc Tryz.prog w base spare held 37 v d p) :
    ∃ b : Int, v = .int .i16 b ∧ (-32768 ≤ b ∧ b ≤ 32767) := by
  obtain ⟨b, rfl⟩ := okWide_int Tryz.underlying37 hv
  obtain ⟨fuel, hf⟩ := h
  obtain ⟨m, e0, _, w0⟩ := DataW.trod_int Tryz.underlying37 hf
  have e1 : b = m := by simpa [Value.cells] using e0
  subst e1
  have : -32768 ≤ b ∧ b ≤ 32767 := by simpa [Lit.wf, IntKind.min, IntKind.max, IntKind.signed, IntKind.bits] using w0
  exact ⟨b, rfl, this⟩
theorem cells_i32 : Tryz.prog.cellsOf 21 = 1 := by kernel_rfl
theorem open_i32s {r : Reach} {b0 : Nat} {v : Value} {d : DataW H} {p : List MemPlace} (hv : Value.okWide Tryz.prog w r b0 22 v) (h : DataW.Trod enc Tryz.prog w base spare held 22 v d p) :
    ∃ (A : Option Addr) (n cap : Nat) (l : List Int), v = .slice A n cap ∧ IntsIn w .i32 (-2147483648) 2147483647 A n cap l := by
  obtain ⟨A, len, cap, rfl⟩ := okWide_slice Tryz.underlying22 hv
  obtain ⟨fuel, hf⟩ := h
  have hf' : DataW.trod enc Tryz.prog w base spare held fuel 22 [.slice A len cap] = some (d, p) := by simpa [Value.cells] using hf
  rcases open_slice Tryz.underlying22 hf' with ⟨hcs, _⟩ | ⟨ad, len', cap', m, n, D, Pl, hcs, hb, hl, hm, hmm, _, hi⟩
  · simp only [List.cons.injEq, Value.slice.injEq, and_true] at hcs
    obtain ⟨rfl, rfl, rfl⟩ := hcs
    exact ⟨_, _, _, [], rfl, Rd.nil _ _ _, rfl, Nat.le_refl _, by omega, by simp⟩
  · simp only [List.cons.injEq, Value.slice.injEq, and_true] at hcs
    obtain ⟨rfl, rfl, rfl⟩ := hcs
    have hlm : len ≤ m := by rw [hmm]; split <;> omega
    obtain ⟨X, hX⟩ := choose_lt (α := Int) (n := len) (p := fun i y => w.cells? base (ad.add (i * 1)) 1 = some [.int .i32 y] ∧ (-2147483648 ≤ y ∧ y ≤ 2147483647)) (fun i hil => by
      obtain ⟨cs', h1, h2⟩ := hi i (by omega)
      rw [cells_i32] at h1
      obtain ⟨y, e0, _, w0⟩ := DataW.trod_int Tryz.underlying21 h2
      subst e0
      exact ⟨y, h1, by simpa [Lit.wf, IntKind.min, IntKind.max, IntKind.signed, IntKind.bits] using w0⟩)
    refine ⟨_, _, _, (List.range len).map X, rfl, ?_, by simp, hl, by simp only [maxLen] at hm; omega, ?_⟩
    · intro j u hu
      have hj : j < len := by have := (List.getElem?_eq_some_iff.1 hu).1; simpa using this
      obtain rfl : Value.int .i32 (X j) = u := by simpa [hj] using hu
      obtain ⟨_, _, hc⟩ := World.cells?_some (hX j hj).1
      have h6 := hc 0 (by omega)
      rw [Go.Deep.add_add, Nat.mul_one, Nat.add_zero] at h6
      obtain ⟨b, off, spot⟩ := ad
      have hsp : spot = none := by
        obtain ⟨_, _, hc0⟩ := World.cells?_some (hX 0 (by omega)).1
        have h0 := hc0 0 (by omega)
        simp [Addr.add] at h0
        exact World.cell?_spot h0
      subst hsp
      rw [Addr.add_mid] at h6
      exact ⟨b, off, rfl, Nat.zero_le _, by simpa using h6⟩
    · intro y hy
      simp only [List.mem_map, List.mem_range] at hy
      obtain ⟨i, hi', rfl⟩ := hy
      exact (hX i hi').2
theorem cells_i16 : Tryz.prog.cellsOf 37 = 1 := by kernel_rfl
theorem open_i16s {r : Reach} {b0 : Nat} {v : Value} {d : DataW H} {p : List MemPlace} (hv : Value.okWide Tryz.prog w r b0 36 v) (h : DataW.Trod enc Tryz.prog w base spare held 36 v d p) :
    ∃ (A : Option Addr) (n cap : Nat) (l : List Int), v = .slice A n cap ∧ IntsIn w .i16 (-32768) 32767 A n cap l := by
  obtain ⟨A, len, cap, rfl⟩ := okWide_slice Tryz.underlying36 hv
  obtain ⟨fuel, hf⟩ := h
  have hf' : DataW.trod enc Tryz.prog w base spare held fuel 36 [.slice A len cap] = some (d, p) := by simpa [Value.cells] using hf
  rcases open_slice Tryz.underlying36 hf' with ⟨hcs, _⟩ | ⟨ad, len', cap', m, n, D, Pl, hcs, hb, hl, hm, hmm, _, hi⟩
  · simp only [List.cons.injEq, Value.slice.injEq, and_true] at hcs
    obtain ⟨rfl, rfl, rfl⟩ := hcs
    exact ⟨_, _, _, [], rfl, Rd.nil _ _ _, rfl, Nat.le_refl _, by omega, by simp⟩
  · simp only [List.cons.injEq, Value.slice.injEq, and_true] at hcs
    obtain ⟨rfl, rfl, rfl⟩ := hcs
    have hlm : len ≤ m := by rw [hmm]; split <;> omega
    obtain ⟨X, hX⟩ := choose_lt (α := Int) (n := len) (p := fun i y => w.cells? base (ad.add (i * 1)) 1 = some [.int .i16 y] ∧ (-32768 ≤ y ∧ y ≤ 32767)) (fun i hil => by
      obtain ⟨cs', h1, h2⟩ := hi i (by omega)
      rw [cells_i16] at h1
      obtain ⟨y, e0, _, w0⟩ := DataW.trod_int Tryz.underlying37 h2
      subst e0
      exact ⟨y, h1, by simpa [Lit.wf, IntKind.min, IntKind.max, IntKind.signed, IntKind.bits] using w0⟩)
    refine ⟨_, _, _, (List.range len).map X, rfl, ?_, by simp, hl, by simp only [maxLen] at hm; omega, ?_⟩
    · intro j u hu
      have hj : j < len := by have := (List.getElem?_eq_some_iff.1 hu).1; simpa using this
      obtain rfl : Value.int .i16 (X j) = u := by simpa [hj] using hu
      obtain ⟨_, _, hc⟩ := World.cells?_some (hX j hj).1
      have h6 := hc 0 (by omega)
      rw [Go.Deep.add_add, Nat.mul_one, Nat.add_zero] at h6
      obtain ⟨b, off, spot⟩ := ad
      have hsp : spot = none := by
        obtain ⟨_, _, hc0⟩ := World.cells?_some (hX 0 (by omega)).1
        have h0 := hc0 0 (by omega)
        simp [Addr.add] at h0
        exact World.cell?_spot h0
      subst hsp
      rw [Addr.add_mid] at h6
      exact ⟨b, off, rfl, Nat.zero_le _, by simpa using h6⟩
    · intro y hy
      simp only [List.mem_map, List.mem_range] at hy
      obtain ⟨i, hi', rfl⟩ := hy
      exact (hX i hi').2
end
end Go.Proofs.YtkcoikelcmpceaaGreatDoor
namespace Go.Proofs.YtkcoikelcmpceaaGreatDoor
open Go.RowKit NM
set_option maxHeartbeats 4000000 in
theorem fmathParts_any (A : Option Addr) (n cap : Nat) (l : List Int) (cut : Int) (w : World) (htab : Tab w) (hft : FTab w) (h : IntsIn w .i32 (-2147483648) 2147483647 A n cap l) (hc : 0 ≤ cut ∧ cut ≤ 255) :
    Calls Tryz.prog 3 #[.slice A n cap, .int .u8 cut] w fun e w' => e = .returned (.bool true) ∧ Ext w w' := by
  obtain ⟨i0, hi0, hz0, hz1, hz2⟩ := info_parts info_val
  have HT := Lib.hid htab
  have HF := Lib.hid hft
  have hsm := h.small
  have H := Lib.hid h
  clear htab hft h
  by_cases h1 : n < 2
  · have h1' : decide ((n : Int) < 2) = true := decide_eq_true (by omega)
    go_enter Tryz.func3, Tryz.ntmps3
    go_wp2_with (first | (go_at_call 7; (with_reducible refine (awake11_any _ (HT.out.ext (by with_reducible repeat (first | exact Ext.refl _ | apply Ext.drew | apply Ext.alloc | apply Ext.more_))) (HF.out.ext (by with_reducible repeat (first | exact Ext.refl _ | apply Ext.drew | apply Ext.alloc | apply Ext.more_)))).mono ?_); rintro e w' ⟨rfl, hb⟩; obtain ⟨osw1, dw1, rfl⟩ := hb.more; clear hb))
    go_ret
    exact ⟨rfl, by with_reducible repeat (first | exact Ext.refl _ | apply Ext.drew | apply Ext.alloc | apply Ext.more_)⟩
  · have h1' : decide ((n : Int) < 2) = false := decide_eq_false (by omega)
    by_cases h2 : 60 < n
    · have h2' : decide ((60 : Int) < n) = true := decide_eq_true (by omega)
      go_enter Tryz.func3, Tryz.ntmps3
      go_wp2_with (first | (go_at_call 7; (with_reducible refine (awake11_any _ (HT.out.ext (by with_reducible repeat (first | exact Ext.refl _ | apply Ext.drew | apply Ext.alloc | apply Ext.more_))) (HF.out.ext (by with_reducible repeat (first | exact Ext.refl _ | apply Ext.drew | apply Ext.alloc | apply Ext.more_)))).mono ?_); rintro e w' ⟨rfl, hb⟩; obtain ⟨osw1, dw1, rfl⟩ := hb.more; clear hb))
      go_ret
      exact ⟨rfl, by with_reducible repeat (first | exact Ext.refl _ | apply Ext.drew | apply Ext.alloc | apply Ext.more_)⟩
    · have h2' : decide ((60 : Int) < n) = false := decide_eq_false (by omega)
      go_enter Tryz.func3, Tryz.ntmps3
      go_upto_region 5 with (first | (go_at_call 7; (with_reducible refine (awake11_any _ (HT.out.ext (by with_reducible repeat (first | exact Ext.refl _ | apply Ext.drew | apply Ext.alloc | apply Ext.more_))) (HF.out.ext (by with_reducible repeat (first | exact Ext.refl _ | apply Ext.drew | apply Ext.alloc | apply Ext.more_)))).mono ?_); rintro e w' ⟨rfl, hb⟩; obtain ⟨osw1, dw1, rfl⟩ := hb.more; clear hb))
      have cmk : ∀ x W, x.natAbs < T 15 → Calls Tryz.prog 8 #[.int .i64 x, .int .i64 0] W fun e w' => e = .returned (.tuple #[NV (wholeN x).1 (wholeN x).2, .bool true]) ∧ Ext W w' := fun x W hx => by
        have h := rmake_any x 0 W (by unfold I64; have : T 15 = 1000000000000000 := (by decide); omega)
        rw [show rnd (decide (x < 0)) x.natAbs false 0 = some (wholeN x) from (wholex hx).1] at h
        exact h
      have HM := Lib.hid cmk
      have hln := H.out.len
      have hcp := H.out.cap
      have HL := Lib.hid hln
      clear cmk hln h1' h2'
      go_loopw [5, 6] (fun v i wr => ∃ k : Nat, k ≤ n ∧ i = .int .i64 (k : Int) ∧ Hid (wr.ownsRow w.heap.size 30 6 v k (vcells ((l.take k).map nW))) ∧ Ext w wr) (fun _ i _ => n - (intOf i).toNat)
      case atStart => exact ⟨0, Nat.zero_le _, rfl, World.ownsRow_nil _ _ _ _, by with_reducible repeat (first | exact Ext.refl _ | apply Ext.drew | apply Ext.alloc | apply Ext.more_)⟩
      case round =>
        obtain ⟨k, hk, rfl, HW, hxr⟩ := hrel
        have hsz := hxr.size
        by_cases hlt : k < n
        · obtain ⟨x, hx⟩ : ∃ x, l[k]? = some x := ⟨_, List.getElem?_eq_getElem (by have := HL.out; omega)⟩
          have hxb := H.out.bd x (List.mem_of_getElem? hx)
          have HS : Hid ((l.take (k + 1)).map nW = (l.take k).map nW ++ [nW x]) := Lib.hid (by rw [List.take_add_one, hx]; simp)
          obtain ⟨b, off, rfl, _, hcell⟩ := H.out.rd k (.int .i32 x) (by rw [List.getElem?_map, hx]; rfl)
          replace hcell := hxr.cell_some hcell
          have hbl := lt_of_cell hcell
          have hmk := fun W => HM.out x W (by have : T 15 = 1000000000000000 := (by decide); omega)
          have hwx : IntKind.i64.wrap x = x := by rw [IntKind.wrap_i64]; omega
          clear hx
          have HP : Hid (nW x = ⟨1, (wholeN x).1, (wholeN x).2, ⟨#[]⟩, false, 0⟩) := Lib.hid rfl
          generalize nW x = X at *
          generalize wholeN x = p at *
          generalize (l.take k).map nW = O at *
          go_wp2_with (first | (go_at_call 8; (with_reducible refine (hmk _).mono ?_); rintro e w' ⟨rfl, hb⟩; obtain ⟨osm, dm, rfl⟩ := hb.more; clear hb) | (at_builtin; refine wpList_append_own _ rfl _ _ _ rfl w.heap.size 30 i0 (VV 0 0 0 ⟨#[]⟩ false 0) 6 56 Tryz.underlying24 hi0 hz0 hz1 hz2 rfl (by decide) _ k (vcells O) rfl (own_ext HW.out (by with_reducible repeat (first | exact Ext.refl _ | apply Ext.drew | apply Ext.alloc | apply Ext.more_))) _ 1 1 [.int .i64 1, .int .i64 p.1, .int .i64 p.2, .string ⟨#[]⟩, .bool false, .int .i64 0] rfl rfl (new_cells_at _ _ _ (by first | rfl | (simp; done)) rfl _) (vcells_one (l := [⟨1, p.1, p.2, ⟨#[]⟩, false, 0⟩])) (by simp only [maxLen]; omega) (by omega) (by simp; omega) ?_; intro v4 w4 ho4 hg4 _))
          have hx4 := ext_grownN (hxr.trans (by with_reducible repeat (first | exact Ext.refl _ | apply Ext.drew | apply Ext.alloc | apply Ext.more_))) (own_ext HW.out (by with_reducible repeat (first | exact Ext.refl _ | apply Ext.drew | apply Ext.alloc | apply Ext.more_))) hg4
          refine ⟨⟨k + 1, by omega, by go_num, ?_, hx4⟩, by simp [intOf]; omega⟩
          show World.ownsRow _ _ _ _ _ _ _
          rw [HS.out, vcells_append, HP.out]
          exact ho4
        · obtain rfl : k = n := by omega
          have htk : l.take k = l := by rw [← HL.out]; exact List.take_length
          rw [htk] at HW
          obtain ⟨D, c, rfl, hrd, hcD⟩ := Rd.of_own HW.out
          obtain ⟨cu, rfl⟩ : ∃ cu : Nat, cut = (cu : Int) := ⟨cut.toNat, by omega⟩
          obtain ⟨j, hj⟩ : ∃ j, cu % (k - 1) = j := ⟨_, rfl⟩
          have hjl : j < k - 1 := by rw [← hj]; exact Nat.mod_lt _ (by omega)
          have hrem : (cu : Int).tmod ((k : Int) - 1) = (j : Int) := by
            rw [show ((k : Int) - 1) = ((k - 1 : Nat) : Int) by omega, ← hj]; rfl
          have hd0 : ((k : Int) - 1 == 0) = false := by simp; omega
          have hw1 : IntKind.i64.wrap ((k : Int) - 1) = (k : Int) - 1 := by rw [IntKind.wrap_i64]; omega
          have hw2 : IntKind.i64.wrap (j : Int) = (j : Int) := by rw [IntKind.wrap_i64]; omega
          have hw3 : IntKind.i64.wrap (1 + (j : Int)) = ((j + 1 : Nat) : Int) := by rw [IntKind.wrap_i64]; omega
          have hw4 : IntKind.i64.wrap (cu : Int) = (cu : Int) := by rw [IntKind.wrap_i64]; omega
          clear hj htk
          go_upto_region 10 with fail
          obtain ⟨a, ha⟩ : ∃ a : Nat, a = j + 1 := ⟨_, rfl⟩
          have hja : ((j : Nat) : Int) + 1 = (a : Int) := by omega
          rw [hja]
          have hal : 0 < a ∧ a < k := by omega
          have hac : a ≤ c := by omega
          have hak : a ≤ k := by omega
          have hca : ¬ c = a := by omega
          have hkc : k ≤ c := by omega
          clear hja ha hjl hrem hd0 hw1 hw2 hw3 hw4 hlt hk
          have hT15 : T 15 = 1000000000000000 := by decide
          have hlk := HL.out
          have hbd : ∀ i ∈ l, i.natAbs ≤ 2147483648 := fun i hi => by have := H.out.bd i hi; omega
          have hvr : ∀ x ∈ l.map nW, x.right := fun x hx => by
            obtain ⟨i, hi, rfl⟩ := List.mem_map.1 hx
            exact nW_right (by have := hbd i hi; omega)
          have hA : ArrIn wr D k c (l.map nW) := ⟨hrd.mono (Nat.zero_le _), by rw [List.length_map]; exact hlk, hcD, by omega, fun y hy => (hvr y hy).ok⟩
          obtain ⟨b, off, rfl, hA1, hA2⟩ : ∃ b off, D = some ⟨b, off, none⟩ ∧ ArrIn wr (some ⟨b, off, none⟩) a c ((l.take a).map nW) ∧ ArrIn wr (some ⟨b, off + a * 6, none⟩) (k - a) (c - a) ((l.drop a).map nW) := by
            have hvl : (vcells (l.map nW)).length = k * 6 := by rw [vcells_length, List.length_map, hlk]
            obtain ⟨b, off, rfl, _, _⟩ := hA.rd 0 _ (List.getElem?_eq_getElem (by omega))
            have hsplit : vcells (l.map nW) = vcells ((l.take a).map nW) ++ vcells ((l.drop a).map nW) := by rw [← vcells_append, ← List.map_append, List.take_append_drop]
            have hl1 : (vcells ((l.take a).map nW)).length = a * 6 := by rw [vcells_length, List.length_map, List.length_take, Nat.min_eq_left (by omega)]
            have hm1 : ∀ x ∈ (l.take a).map nW, x.ok := fun x hx => (hvr x (by rw [List.map_take] at hx; exact List.mem_of_mem_take hx)).ok
            have hm2 : ∀ x ∈ (l.drop a).map nW, x.ok := fun x hx => (hvr x (by rw [List.map_drop] at hx; exact List.mem_of_mem_drop hx)).ok
            refine ⟨b, off, rfl, ⟨fun i u hu => ?_, by rw [List.length_map, List.length_take]; omega, by omega, by omega, hm1⟩, ⟨fun i u hu => ?_, by rw [List.length_map, List.length_drop]; omega, by omega, by omega, hm2⟩⟩
            · have hi := (List.getElem?_eq_some_iff.1 hu).1
              exact hA.rd i u (by rw [hsplit, List.getElem?_append_left hi]; exact hu)
            · obtain ⟨b', off', e, _, hcell⟩ := hA.rd (a * 6 + i) u (by rw [hsplit, List.getElem?_append_right (by omega), hl1, Nat.add_sub_cancel_left]; exact hu)
              simp only [Option.some.injEq, Addr.mk.injEq, and_true] at e
              obtain ⟨rfl, rfl⟩ := e
              exact ⟨b, off + a * 6, rfl, Nat.zero_le _, by rw [Nat.add_assoc]; exact hcell⟩
          generalize wr = U at *
          have HA0 : Hid (ArrIn U (some ⟨b, off, none⟩) k c (l.map nW) ∧ NA.right ⟨1, k, l.map nW⟩) := Lib.hid ⟨hA, (kAr_ok hA (by omega) (by omega) hvr).right⟩
          have HA1 : Hid (ArrIn U (some ⟨b, off, none⟩) a c ((l.take a).map nW) ∧ NA.right ⟨1, a, (l.take a).map nW⟩) := Lib.hid ⟨hA1, (kAr_ok hA1 (by omega) (by omega) (fun x hx => hvr x (by rw [List.map_take] at hx; exact List.mem_of_mem_take hx))).right⟩
          have HA2 : Hid (ArrIn U (some ⟨b, off + a * 6, none⟩) (k - a) (c - a) ((l.drop a).map nW) ∧ NA.right ⟨1, (k - a : Nat), (l.drop a).map nW⟩) := Lib.hid ⟨hA2, (kAr_ok hA2 (by omega) (by omega) (fun x hx => hvr x (by rw [List.map_drop] at hx; exact List.mem_of_mem_drop hx))).right⟩
          have hs0 : ofNumsO sumV [kAr (l.map nW) (some ⟨b, off, none⟩) k c] = oneA (nV (wholeN l.sum)) := sum_row (l := l) (B := 2147483648) (by simp [allV]) hbd (by omega)
          have hs1 : ofNumsO sumV [kAr ((l.take a).map nW) (some ⟨b, off, none⟩) a c] = oneA (nV (wholeN (l.take a).sum)) := sum_row (l := l.take a) (B := 2147483648) (by simp [allV]) (fun i hi => hbd i (List.mem_of_mem_take hi)) (by rw [List.length_take]; omega)
          have hs2 : ofNumsO sumV [kAr ((l.drop a).map nW) (some ⟨b, off + a * 6, none⟩) (k - a) (c - a)] = oneA (nV (wholeN (l.drop a).sum)) := sum_row (l := l.drop a) (B := 2147483648) (by simp [allV]) (fun i hi => hbd i (List.mem_of_mem_drop hi)) (by rw [List.length_drop]; omega)
          have HSM := Lib.hid (And.intro hs0 (And.intro hs1 hs2))
          have b1 : (l.take a).sum.natAbs ≤ 60 * 2147483648 := Nat.le_trans (wsum_small (B := 2147483648) fun i hi => hbd i (List.mem_of_mem_take hi)) (Nat.mul_le_mul_right _ (by rw [List.length_take]; omega))
          have b2 : (l.drop a).sum.natAbs ≤ 60 * 2147483648 := Nat.le_trans (wsum_small (B := 2147483648) fun i hi => hbd i (List.mem_of_mem_drop hi)) (Nat.mul_le_mul_right _ (by rw [List.length_drop]; omega))
          have bq : ∀ i ∈ [(l.take a).sum, (l.drop a).sum], i.natAbs ≤ 60 * 2147483648 := fun i hi => by
            simp only [List.mem_cons, List.not_mem_nil, or_false] at hi
            rcases hi with rfl | rfl
            · exact b1
            · exact b2
          have hsp : [(l.take a).sum, (l.drop a).sum].sum = l.sum := by rw [List.sum_cons, List.sum_cons, List.sum_nil, Int.add_zero]; exact sum_parts l a
          have hs3 : ∀ q q', ofNumsO sumV [kOne (nV (wholeN (l.take a).sum)) q, kOne (nV (wholeN (l.drop a).sum)) q'] = oneA (nV (wholeN l.sum)) := fun q q' => by
            have h := sum_row (xs := [kOne (nV (wholeN (l.take a).sum)) q, kOne (nV (wholeN (l.drop a).sum)) q']) (l := [(l.take a).sum, (l.drop a).sum]) (B := 60 * 2147483648) rfl bq (by rw [hT15]; simp)
            rw [hsp] at h; exact h
          have hs4 : ∀ q, ofNumsO sumV [kAr [nV (wholeN (l.take a).sum), nV (wholeN (l.drop a).sum)] (some ⟨q, 0, none⟩) 2 2] = oneA (nV (wholeN l.sum)) := fun q => by
            have h := sum_row (xs := [kAr [nV (wholeN (l.take a).sum), nV (wholeN (l.drop a).sum)] (some ⟨q, 0, none⟩) 2 2]) (l := [(l.take a).sum, (l.drop a).sum]) (B := 60 * 2147483648) rfl bq (by rw [hT15]; simp)
            rw [hsp] at h; exact h
          have hs5 : countedO isNum (allV [kAr (l.map nW) (some ⟨b, off, none⟩) k c]) = oneA (nV (wholeN k)) := by
            have h := count_row (xs := [kAr (l.map nW) (some ⟨b, off, none⟩) k c]) (l := l) (by simp [allV]); rw [hlk] at h; exact h
          have hs6 : countedO isNum (allV [kAr ((l.take a).map nW) (some ⟨b, off, none⟩) a c]) = oneA (nV (wholeN a)) := by
            have h := count_row (xs := [kAr ((l.take a).map nW) (some ⟨b, off, none⟩) a c]) (l := l.take a) (by simp [allV]); rw [List.length_take, Nat.min_eq_left (by omega)] at h; exact h
          have hs7 : countedO isNum (allV [kAr ((l.drop a).map nW) (some ⟨b, off + a * 6, none⟩) (k - a) (c - a)]) = oneA (nV (wholeN (k - a : Nat))) := by
            have h := count_row (xs := [kAr ((l.drop a).map nW) (some ⟨b, off + a * 6, none⟩) (k - a) (c - a)]) (l := l.drop a) (by simp [allV]); rw [List.length_drop, hlk] at h; exact h
          have hs8 : ∀ q, ofNumsO sumV [kAr [nV (wholeN a), nV (wholeN (k - a : Nat))] (some ⟨q, 0, none⟩) 2 2] = oneA (nV (wholeN k)) := fun q => by
            have h := sum_row (xs := [kAr [nV (wholeN a), nV (wholeN (k - a : Nat))] (some ⟨q, 0, none⟩) 2 2]) (l := [(a : Int), ((k - a : Nat) : Int)]) (B := 60) rfl (fun i hi => by simp only [List.mem_cons, List.not_mem_nil, or_false] at hi; rcases hi with rfl | rfl <;> omega) (by rw [hT15]; simp)
            rw [show [(a : Int), ((k - a : Nat) : Int)].sum = (k : Int) by rw [List.sum_cons, List.sum_cons, List.sum_nil]; omega] at h; exact h
          have hr1 : (nV (wholeN (l.take a).sum)).right := nW_right (by omega)
          have hr2 : (nV (wholeN (l.drop a).sum)).right := nW_right (by omega)
          have hr3 : (nV (wholeN (a : Int))).right := nW_right (by omega)
          have hr4 : (nV (wholeN ((k - a : Nat) : Int))).right := nW_right (by omega)
          have HSN := Lib.hid (And.intro hs3 (And.intro hs4 (And.intro hs5 (And.intro hs6 (And.intro hs7 hs8)))))
          clear b1 b2 bq hsp hs3 hs4 hs5 hs6 hs7 hs8
          have HTU := Lib.hid (HT.out.ext hxr)
          have HBD := Lib.hid (And.intro hbd hlk)
          clear hs0 hs1 hs2 hbd hlk hvr hA hA1 hA2 hrd HW
          generalize wholeN l.sum = y0 at *
          generalize wholeN (l.take a).sum = y1 at *
          generalize wholeN (l.drop a).sum = y2 at *
          generalize wholeN (a : Int) = y3 at *
          generalize wholeN ((k - a : Nat) : Int) = y4 at *
          generalize wholeN (k : Int) = y5 at *
          generalize (l.take a).map nW = V1 at *
          generalize (l.drop a).map nW = V2 at *
          generalize l.map nW = V0 at *
          refine wp_floatG [(0, 0), (4, 0), (5, 0), (6, 0), (10, 0), (11, 0), (12, 0), (16, 4), (17, 4), (18, 4), (1, 1), (2, 1), (3, 1), (7, 1), (8, 1), (9, 1), (13, 1), (14, 1), (15, 1), (18, 3), (17, 3), (16, 3), (19, 5), (20, 5)] [21] [21] [] (by kernel_rfl) (by kernel_rfl) (by kernel_rfl) (fun _ _ d _ _ h => by cases d <;> exact h) (fun _ _ d _ _ h => by cases d <;> exact h) ?_
          iterate 7 ((refine wpFg_read (v := ?_) rfl ?_ (fun w1 h1 => ?_) ?_; rotate_left 1; rfl; (obtain ⟨os1, d1, rfl⟩ := h1.more; go_simp; first | done | rfl)); try simp only [Act.put, zqA, zqB, zqC])
          (refine wpFg_launch (t := 10) (Obj.cells #[.int .i64 0, .int .i64 0, .int .i64 0, .string ⟨#[]⟩, .bool false, .int .i64 0] 30) ptrB rfl rfl rfl (fun w1 => ?_) ?_; (first | rfl | (simp [go_sem, ptrB]; done) | (go_simp; rfl)))
          (refine wpFg_launch (t := 11) (Obj.cells #[.int .i64 0, .int .i64 0, .int .i64 0, .string ⟨#[]⟩, .bool false, .int .i64 0] 30) ptrB rfl rfl rfl (fun w1 => ?_) ?_; (first | rfl | (simp [go_sem, ptrB]; done) | (go_simp; rfl)))
          (refine wpFg_launch (t := 12) (Obj.cells #[.int .i64 0, .int .i64 0, .int .i64 0, .string ⟨#[]⟩, .bool false, .int .i64 0] 30) ptrB rfl rfl rfl (fun w1 => ?_) ?_; (first | rfl | (simp [go_sem, ptrB]; done) | (go_simp; rfl)))
          (refine wpFg_eff rfl ?_ (fun wf hXf hE K hK => ?_); rfl; obtain ⟨osf, df, rfl⟩ := hXf.more; go_simp; refine (krow_any _ _ _ _ (by omega)).mono ?_; rintro e w' ⟨rfl, hb⟩; refine hK _ _ (fun _ => True) (by (try simp only [more_drew, more_more, Array.append_assoc]); exact hb) (fun _ _ _ _ => trivial) trivial ?_)
          try simp only [Act.put, zqA, zqB, zqC]
          (refine wpFg_eff rfl ?_ (fun wf hXf hE K hK => ?_); rfl; obtain ⟨osf, df, rfl⟩ := hXf.more; go_simp; generalize hq1 : U.heap.size + osf.size = q1; refine hK _ _ (fun W => ArgsIn W (some ⟨q1, 0, none⟩) 1 1 [kAr V0 (some ⟨b, off, none⟩) k c]) (by (try simp only [drew_more]); exact (Ext.refl _).alloc _) (fun _ _ hx h => h.ext hx) (kargs_new (n := 1) [kAr V0 (some ⟨b, off, none⟩) k c] (by rw [← hq1]; simp) rfl rfl (by decide) (by intro a ha; obtain rfl := List.mem_singleton.1 ha; exact ⟨HA0.out.1.ext (by with_reducible repeat (first | exact Ext.refl _ | apply Ext.drew | apply Ext.alloc | apply Ext.more_)), HA0.out.2⟩)) ?_)
          try simp only [Act.put, zqA, zqB, zqC]
          (refine wpFg_eff rfl ?_ (fun wf hXf hE K hK => ?_); rfl; obtain ⟨osf, df, rfl⟩ := hXf.more; go_simp; refine (kone_in hE (by decide) (by decide) (by rw [HSM.out.1]) (fun W hW g => mcall_sum _ _ _ _ _ ((HTU.out.ext (by with_reducible repeat (first | exact Ext.refl _ | apply Ext.drew | apply Ext.alloc | apply Ext.more_))).ext hW) g)).mono ?_; rintro e w' ⟨rfl, hb⟩; refine hK _ _ (fun _ => True) (by (try simp only [more_drew, more_more, Array.append_assoc]); exact hb) (fun _ _ _ _ => trivial) trivial ?_)
          try simp only [Act.put, zqA, zqB, zqC]
          (refine wpFg_eff rfl ?_ (fun wf hXf hE K hK => ?_); rfl; obtain ⟨osf, df, rfl⟩ := hXf.more; go_simp; refine (krow_any _ _ _ _ (by omega)).mono ?_; rintro e w' ⟨rfl, hb⟩; refine hK _ _ (fun _ => True) (by (try simp only [more_drew, more_more, Array.append_assoc]); exact hb) (fun _ _ _ _ => trivial) trivial ?_)
          try simp only [Act.put, zqA, zqB, zqC]
          (refine wpFg_eff rfl ?_ (fun wf hXf hE K hK => ?_); rfl; obtain ⟨osf, df, rfl⟩ := hXf.more; go_simp; generalize hq2 : U.heap.size + osf.size = q2; refine hK _ _ (fun W => ArgsIn W (some ⟨q2, 0, none⟩) 1 1 [kAr V1 (some ⟨b, off, none⟩) a c]) (by (try simp only [drew_more]); exact (Ext.refl _).alloc _) (fun _ _ hx h => h.ext hx) (kargs_new (n := 1) [kAr V1 (some ⟨b, off, none⟩) a c] (by rw [← hq2]; simp) rfl rfl (by decide) (by intro a ha; obtain rfl := List.mem_singleton.1 ha; exact ⟨HA1.out.1.ext (by with_reducible repeat (first | exact Ext.refl _ | apply Ext.drew | apply Ext.alloc | apply Ext.more_)), HA1.out.2⟩)) ?_)
          try simp only [Act.put, zqA, zqB, zqC]
          (refine wpFg_eff rfl ?_ (fun wf hXf hE K hK => ?_); rfl; obtain ⟨osf, df, rfl⟩ := hXf.more; go_simp; refine (kone_in hE (by decide) (by decide) (by rw [HSM.out.2.1]) (fun W hW g => mcall_sum _ _ _ _ _ ((HTU.out.ext (by with_reducible repeat (first | exact Ext.refl _ | apply Ext.drew | apply Ext.alloc | apply Ext.more_))).ext hW) g)).mono ?_; rintro e w' ⟨rfl, hb⟩; refine hK _ _ (fun _ => True) (by (try simp only [more_drew, more_more, Array.append_assoc]); exact hb) (fun _ _ _ _ => trivial) trivial ?_)
          try simp only [Act.put, zqA, zqB, zqC]
          (refine wpFg_eff rfl ?_ (fun wf hXf hE K hK => ?_); rfl; obtain ⟨osf, df, rfl⟩ := hXf.more; go_simp; refine (krow_any _ _ _ _ (by omega)).mono ?_; rintro e w' ⟨rfl, hb⟩; refine hK _ _ (fun _ => True) (by (try simp only [more_drew, more_more, Array.append_assoc]); exact hb) (fun _ _ _ _ => trivial) trivial ?_)
          try simp only [Act.put, zqA, zqB, zqC]
          (refine wpFg_eff rfl ?_ (fun wf hXf hE K hK => ?_); rfl; obtain ⟨osf, df, rfl⟩ := hXf.more; go_simp; generalize hq3 : U.heap.size + osf.size = q3; refine hK _ _ (fun W => ArgsIn W (some ⟨q3, 0, none⟩) 1 1 [kAr V2 (some ⟨b, off + a * 6, none⟩) (k - a) (c - a)]) (by (try simp only [drew_more]); exact (Ext.refl _).alloc _) (fun _ _ hx h => h.ext hx) (kargs_new (n := 1) [kAr V2 (some ⟨b, off + a * 6, none⟩) (k - a) (c - a)] (by rw [← hq3]; simp) rfl rfl (by decide) (by intro a ha; obtain rfl := List.mem_singleton.1 ha; exact ⟨HA2.out.1.ext (by with_reducible repeat (first | exact Ext.refl _ | apply Ext.drew | apply Ext.alloc | apply Ext.more_)), HA2.out.2⟩)) ?_)
          try simp only [Act.put, zqA, zqB, zqC]
          (refine wpFg_eff rfl ?_ (fun wf hXf hE K hK => ?_); rfl; obtain ⟨osf, df, rfl⟩ := hXf.more; go_simp; refine (kone_in hE (by decide) (by decide) (by rw [HSM.out.2.2]) (fun W hW g => mcall_sum _ _ _ _ _ ((HTU.out.ext (by with_reducible repeat (first | exact Ext.refl _ | apply Ext.drew | apply Ext.alloc | apply Ext.more_))).ext hW) g)).mono ?_; rintro e w' ⟨rfl, hb⟩; refine hK _ _ (fun _ => True) (by (try simp only [more_drew, more_more, Array.append_assoc]); exact hb) (fun _ _ _ _ => trivial) trivial ?_)
          try simp only [Act.put, zqA, zqB, zqC]
          refine wpFg_wait fun r3 g3 _ _ => ?_; refine ⟨fun W => W.heap[r3]? = some (Obj.cells #[.int .i64 0, .int .i64 0, .int .i64 0, .string ⟨#[]⟩, .bool false, .int .i64 0] 30), fun w1 w2 hx h => (hx.block (lt_of_block h)).trans h, fun W _ hE h1 => h1, ?_⟩
          try simp only [Act.put, zqA, zqB, zqC]
          refine wpFg_wait fun r2 g2 n2 _ => ?_; refine ⟨fun W => W.heap[r3]? = some (Obj.cells #[.int .i64 0, .int .i64 0, .int .i64 0, .string ⟨#[]⟩, .bool false, .int .i64 0] 30) ∧ W.heap[r2]? = some (Obj.cells #[.int .i64 0, .int .i64 0, .int .i64 0, .string ⟨#[]⟩, .bool false, .int .i64 0] 30), fun w1 w2 hx h => ⟨(hx.block (lt_of_block h.1)).trans h.1, (hx.block (lt_of_block h.2)).trans h.2⟩, fun W _ hE h1 => ⟨hE, h1⟩, ?_⟩
          try simp only [Act.put, zqA, zqB, zqC]
          refine wpFg_wait fun r1 g1 n1 _ => ?_; refine ⟨fun W => W.heap[r3]? = some (Obj.cells #[.int .i64 0, .int .i64 0, .int .i64 0, .string ⟨#[]⟩, .bool false, .int .i64 0] 30) ∧ W.heap[r2]? = some (Obj.cells #[.int .i64 0, .int .i64 0, .int .i64 0, .string ⟨#[]⟩, .bool false, .int .i64 0] 30) ∧ W.heap[r1]? = some (Obj.cells #[.int .i64 0, .int .i64 0, .int .i64 0, .string ⟨#[]⟩, .bool false, .int .i64 0] 30), fun w1 w2 hx h => ⟨(hx.block (lt_of_block h.1)).trans h.1, (hx.block (lt_of_block h.2.1)).trans h.2.1, (hx.block (lt_of_block h.2.2)).trans h.2.2⟩, fun W _ hE h1 => ⟨hE.1, hE.2, h1⟩, ?_⟩
          try simp only [Act.put, zqA, zqB, zqC]
          (refine wpFg_store rfl ?_ (fun wf hXf hE K hK => ?_); rfl; obtain ⟨e3, e2, e1⟩ := hE; (have u0 := cell_of_row _ _ 0 _ _ _ e1); (have u1 := cell_of_row _ _ 1 _ _ _ e1); (have u2 := cell_of_row _ _ 2 _ _ _ e1); (have u3 := cell_of_row _ _ 3 _ _ _ e1); (have u4 := cell_of_row _ _ 4 _ _ _ e1); (have u5 := cell_of_row _ _ 5 _ _ _ e1); (have v0 := frozen_of_row _ _ 0 _ _ e1); (have v1 := frozen_of_row _ _ 1 _ _ e1); (have v2 := frozen_of_row _ _ 2 _ _ e1); (have v3 := frozen_of_row _ _ 3 _ _ e1); (have v4 := frozen_of_row _ _ 4 _ _ e1); (have v5 := frozen_of_row _ _ 5 _ _ e1); (try simp only [ptrB]); go_simp; refine hK _ _ (fun W => W.heap[r3]? = some (Obj.cells #[.int .i64 0, .int .i64 0, .int .i64 0, .string ⟨#[]⟩, .bool false, .int .i64 0] 30) ∧ W.heap[r2]? = some (Obj.cells #[.int .i64 0, .int .i64 0, .int .i64 0, .string ⟨#[]⟩, .bool false, .int .i64 0] 30) ∧ W.heap[r1]? = some (kvB (nV y0))) (kset_ext (x := nV y0) hXf g1) (by simp) (fun w1 w2 hx h => ⟨(hx.block (lt_of_block h.1)).trans h.1, (hx.block (lt_of_block h.2.1)).trans h.2.1, (hx.block (lt_of_block h.2.2)).trans h.2.2⟩) ⟨(kset_other (x := nV y0) (fun e => n1 (by simp [e]))).trans e3, (kset_other (x := nV y0) (fun e => n1 (by simp [e]))).trans e2, kset_heap (x := nV y0) e1⟩ ?_)
          try simp only [Act.put, zqA, zqB, zqC]
          (refine wpFg_store rfl ?_ (fun wf hXf hE K hK => ?_); rfl; obtain ⟨e3, e2, e1⟩ := hE; (have u0 := cell_of_row _ _ 0 _ _ _ e2); (have u1 := cell_of_row _ _ 1 _ _ _ e2); (have u2 := cell_of_row _ _ 2 _ _ _ e2); (have u3 := cell_of_row _ _ 3 _ _ _ e2); (have u4 := cell_of_row _ _ 4 _ _ _ e2); (have u5 := cell_of_row _ _ 5 _ _ _ e2); (have v0 := frozen_of_row _ _ 0 _ _ e2); (have v1 := frozen_of_row _ _ 1 _ _ e2); (have v2 := frozen_of_row _ _ 2 _ _ e2); (have v3 := frozen_of_row _ _ 3 _ _ e2); (have v4 := frozen_of_row _ _ 4 _ _ e2); (have v5 := frozen_of_row _ _ 5 _ _ e2); (try simp only [ptrB]); go_simp; refine hK _ _ (fun W => W.heap[r3]? = some (Obj.cells #[.int .i64 0, .int .i64 0, .int .i64 0, .string ⟨#[]⟩, .bool false, .int .i64 0] 30) ∧ W.heap[r2]? = some (kvB (nV y1)) ∧ W.heap[r1]? = some (kvB (nV y0))) (kset_ext (x := nV y1) hXf g2) (by simp) (fun w1 w2 hx h => ⟨(hx.block (lt_of_block h.1)).trans h.1, (hx.block (lt_of_block h.2.1)).trans h.2.1, (hx.block (lt_of_block h.2.2)).trans h.2.2⟩) ⟨(kset_other (x := nV y1) (fun e => n2 (by simp [e]))).trans e3, kset_heap (x := nV y1) e2, (kset_other (x := nV y1) (fun e => n1 (by simp [e]))).trans e1⟩ ?_)
          try simp only [Act.put, zqA, zqB, zqC]
          refine wpFg_done fun wz hXz hE => ?_
          obtain ⟨e3, e2, e1⟩ := hE; (have u0 := cell_of_row _ _ 0 _ _ _ e3); (have u1 := cell_of_row _ _ 1 _ _ _ e3); (have u2 := cell_of_row _ _ 2 _ _ _ e3); (have u3 := cell_of_row _ _ 3 _ _ _ e3); (have u4 := cell_of_row _ _ 4 _ _ _ e3); (have u5 := cell_of_row _ _ 5 _ _ _ e3); (have v0 := frozen_of_row _ _ 0 _ _ e3); (have v1 := frozen_of_row _ _ 1 _ _ e3); (have v2 := frozen_of_row _ _ 2 _ _ e3); (have v3 := frozen_of_row _ _ 3 _ _ e3); (have v4 := frozen_of_row _ _ 4 _ _ e3); (have v5 := frozen_of_row _ _ 5 _ _ e3); (have f3 := kset_heap (x := nV y2) e3); (have f2 := (kset_other (x := nV y2) (fun e => n2 (by simp [e]) : r2 ≠ r3)).trans e2); (have f1 := (kset_other (x := nV y2) (fun e => n1 (by simp [e]) : r1 ≠ r3)).trans e1); (have f4 : Ext U _ := Ext.trans (by with_reducible repeat (first | exact Ext.refl _ | apply Ext.drew | apply Ext.alloc | apply Ext.more_) : Ext U U.drew) (kset_ext (x := nV y2) hXz g3)); (try simp only [ptrB])
          (refine wpTl_op rfl ?_ (fun K hK => ?_); rfl; go_simp; refine hK _ _ ?_)
          try simp only [Act.put, zqA, zqB, zqC]
          refine wpTl_nil ?_
          go_upto_region 11 with fail
          refine wp_world fun Z hZ => ?_
          have hxZ : Ext U Z := by rw [hZ]; exact f4
          have F1 : Z.heap[r1]? = some (kvB (nV y0)) := by rw [hZ]; exact f1
          have F2 : Z.heap[r2]? = some (kvB (nV y1)) := by rw [hZ]; exact f2
          have F3 : Z.heap[r3]? = some (kvB (nV y2)) := by rw [hZ]; exact f3
          obtain ⟨a0, a1, a2, a3, a4, a5⟩ := kvB_at F1
          obtain ⟨b0, b1, b2, b3, b4, b5⟩ := kvB_at F2
          obtain ⟨c0, c1, c2, c3, c4, c5⟩ := kvB_at F3
          have la := lt_of_cell a0
          have lb := lt_of_cell b0
          have lc := lt_of_cell c0
          have HX0 := Lib.hid ((hxr).trans hxZ)
          have HTZ := Lib.hid (HTU.out.ext hxZ)
          have HB0 := Lib.hid (And.intro (HA0.out.1.ext hxZ) HA0.out.2)
          have HB1 := Lib.hid (And.intro (HA1.out.1.ext hxZ) HA1.out.2)
          have HB2 := Lib.hid (And.intro (HA2.out.1.ext hxZ) HA2.out.2)
          have hes := eql_same
          clear hZ f1 f2 f3 f4 F1 F2 F3 e1 e2 e3 hxZ hxr HA0 HA1 HA2 HTU u0 u1 u2 u3 u4 u5 v0 v1 v2 v3 v4 v5
          refine wp_floatG [(0, 0), (1, 0), (2, 0), (3, 0), (4, 0), (5, 0), (8, 0), (9, 4), (6, 4), (6, 3), (7, 1), (9, 3), (10, 1), (11, 1), (12, 1), (13, 0), (14, 0), (15, 0), (16, 0), (17, 0), (18, 0), (19, 1), (20, 1), (21, 1), (22, 1), (23, 0), (24, 0), (25, 0), (26, 0), (30, 0), (31, 0), (32, 0), (36, 0), (37, 0), (38, 0), (27, 1), (28, 1), (29, 1), (33, 1), (34, 1), (35, 1), (39, 1), (40, 1), (41, 1), (42, 1), (43, 1), (44, 1), (45, 1), (46, 0), (47, 0), (48, 0)] [] [] [] (by kernel_rfl) (by kernel_rfl) (by kernel_rfl) (fun _ _ d _ _ h => by cases d <;> exact h) (fun _ _ d _ _ h => by cases d <;> exact h) ?_
          iterate 7 ((refine wpFg_read (v := ?_) rfl ?_ (fun w1 h1 => ?_) ?_; rotate_left 1; rfl; (obtain ⟨os1, d1, rfl⟩ := h1.more; go_simp; first | done | rfl)); try simp only [Act.put, zqA, zqB, zqC])
          (refine wpFg_launch (t := 78) ?_ (fun b => .slice (some ⟨b, 0, none⟩) 1 1) rfl rfl rfl (fun w1 => ?_) ?_; rotate_left 1; (go_simp; first | done | rfl))
          (refine wpFg_launch (t := 75) ?_ (fun b => .slice (some ⟨b, 0, none⟩) 1 1) rfl rfl rfl (fun w1 => ?_) ?_; rotate_left 1; (go_simp; first | done | rfl))
          refine wpFg_wait fun q1 _ _ _ => ?_; refine ⟨fun W => ArrIn W (some ⟨q1, 0, none⟩) 1 1 [nV y1], fun _ _ hx h => h.ext hx, fun W _ hE h1 => karr_block [nV y1] h1 rfl rfl (by decide) (by simpa using hr1.ok), ?_⟩
          try simp only [Act.put, zqA, zqB, zqC]
          (refine wpFg_eff rfl ?_ (fun wf hXf hE K hK => ?_); rfl; obtain ⟨osf, df, rfl⟩ := hXf.more; go_simp; refine (krow_any _ _ _ _ (by decide)).mono ?_; rintro e w' ⟨rfl, hb⟩; refine hK _ _ (fun W => ArrIn W (some ⟨q1, 0, none⟩) 1 1 [nV y1]) (by (try simp only [more_drew, more_more, Array.append_assoc]); exact hb) (fun _ _ hx h => h.ext hx) (hE.ext (by (try simp only [more_drew, more_more, Array.append_assoc]); exact hb)) ?_)
          try simp only [Act.put, zqA, zqB, zqC]
          refine wpFg_wait fun q2 _ _ _ => ?_; refine ⟨fun W => ArrIn W (some ⟨q1, 0, none⟩) 1 1 [nV y1] ∧ ArrIn W (some ⟨q2, 0, none⟩) 1 1 [nV y2], fun _ _ hx h => ⟨h.1.ext hx, h.2.ext hx⟩, fun W _ hE h1 => ⟨hE, karr_block [nV y2] h1 rfl rfl (by decide) (by simpa using hr2.ok)⟩, ?_⟩
          try simp only [Act.put, zqA, zqB, zqC]
          (refine wpFg_eff rfl ?_ (fun wf hXf hE K hK => ?_); rfl; obtain ⟨osf, df, rfl⟩ := hXf.more; go_simp; refine (krow_any _ _ _ _ (by decide)).mono ?_; rintro e w' ⟨rfl, hb⟩; refine hK _ _ (fun W => ArrIn W (some ⟨q1, 0, none⟩) 1 1 [nV y1] ∧ ArrIn W (some ⟨q2, 0, none⟩) 1 1 [nV y2]) (by (try simp only [more_drew, more_more, Array.append_assoc]); exact hb) (fun _ _ hx h => ⟨h.1.ext hx, h.2.ext hx⟩) ⟨hE.1.ext (by (try simp only [more_drew, more_more, Array.append_assoc]); exact hb), hE.2.ext (by (try simp only [more_drew, more_more, Array.append_assoc]); exact hb)⟩ ?_)
          try simp only [Act.put, zqA, zqB, zqC]
          (refine wpFg_eff rfl ?_ (fun wf hXf hE K hK => ?_); rfl; obtain ⟨osf, df, rfl⟩ := hXf.more; go_simp; generalize hq3 : Z.heap.size + osf.size = q3; refine hK _ _ (fun W => ArgsIn W (some ⟨q3, 0, none⟩) 2 2 [kOne (nV y1) q1, kOne (nV y2) q2]) (by (try simp only [drew_more]); exact (Ext.refl _).alloc _) (fun _ _ hx h => h.ext hx) (kargs_new (n := 2) [kOne (nV y1) q1, kOne (nV y2) q2] (by rw [← hq3]; simp) rfl rfl (by decide) (by intro a ha; simp only [List.mem_cons, List.not_mem_nil, or_false] at ha; rcases ha with rfl | rfl; exact kOne_ok hE.1 hr1; exact kOne_ok hE.2 hr2)) ?_)
          try simp only [Act.put, zqA, zqB, zqC]
          (refine wpFg_eff rfl ?_ (fun wf hXf hE K hK => ?_); rfl; obtain ⟨osf, df, rfl⟩ := hXf.more; go_simp; refine (kone_in hE (by decide) (by decide) (by rw [HSN.out.1]) (fun W hW g => mcall_sum _ _ _ _ _ ((HTZ.out.ext (by with_reducible repeat (first | exact Ext.refl _ | apply Ext.drew | apply Ext.alloc | apply Ext.more_))).ext hW) g)).mono ?_; rintro e w' ⟨rfl, hb⟩; refine hK _ _ (fun _ => True) (by (try simp only [more_drew, more_more, Array.append_assoc]); exact hb) (fun _ _ _ _ => trivial) trivial ?_)
          try simp only [Act.put, zqA, zqB, zqC]
          iterate 6 ((refine wpFg_read (v := ?_) rfl ?_ (fun w1 h1 => ?_) ?_; rotate_left 1; rfl; (obtain ⟨os1, d1, rfl⟩ := h1.more; go_simp; first | done | rfl)); try simp only [Act.put, zqA, zqB, zqC])
          (refine wpFg_eff rfl ?_ (fun wf hXf hE K hK => ?_); rfl; obtain ⟨osf, df, rfl⟩ := hXf.more; go_simp; generalize hq4 : Z.heap.size + osf.size = q4; refine hK _ _ (fun W => ArrIn W (some ⟨q4, 0, none⟩) 2 2 [nV y1, nV y2]) (by (try simp only [drew_more]); exact (Ext.refl _).alloc _) (fun _ _ hx h => h.ext hx) (karr_new (n := 2) [nV y1, nV y2] (by rw [← hq4]; simp) rfl rfl (by decide) (by intro x hx; simp only [List.mem_cons, List.not_mem_nil, or_false] at hx; rcases hx with rfl | rfl; exact hr1.ok; exact hr2.ok)) ?_)
          try simp only [Act.put, zqA, zqB, zqC]
          (refine wpFg_eff rfl ?_ (fun wf hXf hE K hK => ?_); rfl; obtain ⟨osf, df, rfl⟩ := hXf.more; go_simp; refine (krow_any _ _ _ _ (by decide)).mono ?_; rintro e w' ⟨rfl, hb⟩; refine hK _ _ (fun W => ArrIn W (some ⟨q4, 0, none⟩) 2 2 [nV y1, nV y2]) (by (try simp only [more_drew, more_more, Array.append_assoc]); exact hb) (fun _ _ hx h => h.ext hx) (hE.ext (by (try simp only [more_drew, more_more, Array.append_assoc]); exact hb)) ?_)
          try simp only [Act.put, zqA, zqB, zqC]
          (refine wpFg_eff rfl ?_ (fun wf hXf hE K hK => ?_); rfl; obtain ⟨osf, df, rfl⟩ := hXf.more; go_simp; generalize hq5 : Z.heap.size + osf.size = q5; refine hK _ _ (fun W => ArgsIn W (some ⟨q5, 0, none⟩) 1 1 [kAr [nV y1, nV y2] (some ⟨q4, 0, none⟩) 2 2]) (by (try simp only [drew_more]); exact (Ext.refl _).alloc _) (fun _ _ hx h => h.ext hx) (kargs_new (n := 1) [kAr [nV y1, nV y2] (some ⟨q4, 0, none⟩) 2 2] (by rw [← hq5]; simp) rfl rfl (by decide) (by intro a ha; obtain rfl := List.mem_singleton.1 ha; exact kAr_ok hE (by decide) (by decide) (by intro x hx; simp only [List.mem_cons, List.not_mem_nil, or_false] at hx; rcases hx with rfl | rfl; exact hr1; exact hr2))) ?_)
          try simp only [Act.put, zqA, zqB, zqC]
          (refine wpFg_eff rfl ?_ (fun wf hXf hE K hK => ?_); rfl; obtain ⟨osf, df, rfl⟩ := hXf.more; go_simp; refine (kone_in hE (by decide) (by decide) (by rw [HSN.out.2.1]) (fun W hW g => mcall_sum _ _ _ _ _ ((HTZ.out.ext (by with_reducible repeat (first | exact Ext.refl _ | apply Ext.drew | apply Ext.alloc | apply Ext.more_))).ext hW) g)).mono ?_; rintro e w' ⟨rfl, hb⟩; refine hK _ _ (fun _ => True) (by (try simp only [more_drew, more_more, Array.append_assoc]); exact hb) (fun _ _ _ _ => trivial) trivial ?_)
          try simp only [Act.put, zqA, zqB, zqC]
          iterate 10 ((refine wpFg_read (v := ?_) rfl ?_ (fun w1 h1 => ?_) ?_; rotate_left 1; rfl; (obtain ⟨os1, d1, rfl⟩ := h1.more; go_simp; first | done | rfl)); try simp only [Act.put, zqA, zqB, zqC])
          (refine wpFg_eff rfl ?_ (fun wf hXf hE K hK => ?_); rfl; obtain ⟨osf, df, rfl⟩ := hXf.more; go_simp; refine (krow_any _ _ _ _ (by omega)).mono ?_; rintro e w' ⟨rfl, hb⟩; refine hK _ _ (fun _ => True) (by (try simp only [more_drew, more_more, Array.append_assoc]); exact hb) (fun _ _ _ _ => trivial) trivial ?_)
          try simp only [Act.put, zqA, zqB, zqC]
          (refine wpFg_eff rfl ?_ (fun wf hXf hE K hK => ?_); rfl; obtain ⟨osf, df, rfl⟩ := hXf.more; go_simp; generalize hq6 : Z.heap.size + osf.size = q6; refine hK _ _ (fun W => ArgsIn W (some ⟨q6, 0, none⟩) 1 1 [kAr V0 (some ⟨b, off, none⟩) k c]) (by (try simp only [drew_more]); exact (Ext.refl _).alloc _) (fun _ _ hx h => h.ext hx) (kargs_new (n := 1) [kAr V0 (some ⟨b, off, none⟩) k c] (by rw [← hq6]; simp) rfl rfl (by decide) (by intro a ha; obtain rfl := List.mem_singleton.1 ha; exact ⟨HB0.out.1.ext (by with_reducible repeat (first | exact Ext.refl _ | apply Ext.drew | apply Ext.alloc | apply Ext.more_)), HB0.out.2⟩)) ?_)
          try simp only [Act.put, zqA, zqB, zqC]
          (refine wpFg_eff rfl ?_ (fun wf hXf hE K hK => ?_); rfl; obtain ⟨osf, df, rfl⟩ := hXf.more; go_simp; refine (kone_in (F := fun xs => countedO isNum (allV xs)) hE (by decide) (by decide) HSN.out.2.2.1 (fun W hW g => mcall_count _ _ _ _ _ ((HTZ.out.ext (by with_reducible repeat (first | exact Ext.refl _ | apply Ext.drew | apply Ext.alloc | apply Ext.more_))).ext hW) g)).mono ?_; rintro e w' ⟨rfl, hb⟩; refine hK _ _ (fun _ => True) (by (try simp only [more_drew, more_more, Array.append_assoc]); exact hb) (fun _ _ _ _ => trivial) trivial ?_)
          try simp only [Act.put, zqA, zqB, zqC]
          (refine wpFg_eff rfl ?_ (fun wf hXf hE K hK => ?_); rfl; obtain ⟨osf, df, rfl⟩ := hXf.more; go_simp; refine (krow_any _ _ _ _ (by omega)).mono ?_; rintro e w' ⟨rfl, hb⟩; refine hK _ _ (fun _ => True) (by (try simp only [more_drew, more_more, Array.append_assoc]); exact hb) (fun _ _ _ _ => trivial) trivial ?_)
          try simp only [Act.put, zqA, zqB, zqC]
          (refine wpFg_eff rfl ?_ (fun wf hXf hE K hK => ?_); rfl; obtain ⟨osf, df, rfl⟩ := hXf.more; go_simp; generalize hq7 : Z.heap.size + osf.size = q7; refine hK _ _ (fun W => ArgsIn W (some ⟨q7, 0, none⟩) 1 1 [kAr V1 (some ⟨b, off, none⟩) a c]) (by (try simp only [drew_more]); exact (Ext.refl _).alloc _) (fun _ _ hx h => h.ext hx) (kargs_new (n := 1) [kAr V1 (some ⟨b, off, none⟩) a c] (by rw [← hq7]; simp) rfl rfl (by decide) (by intro a ha; obtain rfl := List.mem_singleton.1 ha; exact ⟨HB1.out.1.ext (by with_reducible repeat (first | exact Ext.refl _ | apply Ext.drew | apply Ext.alloc | apply Ext.more_)), HB1.out.2⟩)) ?_)
          try simp only [Act.put, zqA, zqB, zqC]
          (refine wpFg_eff rfl ?_ (fun wf hXf hE K hK => ?_); rfl; obtain ⟨osf, df, rfl⟩ := hXf.more; go_simp; refine (kone_in (F := fun xs => countedO isNum (allV xs)) hE (by decide) (by decide) HSN.out.2.2.2.1 (fun W hW g => mcall_count _ _ _ _ _ ((HTZ.out.ext (by with_reducible repeat (first | exact Ext.refl _ | apply Ext.drew | apply Ext.alloc | apply Ext.more_))).ext hW) g)).mono ?_; rintro e w' ⟨rfl, hb⟩; refine hK _ _ (fun _ => True) (by (try simp only [more_drew, more_more, Array.append_assoc]); exact hb) (fun _ _ _ _ => trivial) trivial ?_)
          try simp only [Act.put, zqA, zqB, zqC]
          (refine wpFg_eff rfl ?_ (fun wf hXf hE K hK => ?_); rfl; obtain ⟨osf, df, rfl⟩ := hXf.more; go_simp; refine (krow_any _ _ _ _ (by omega)).mono ?_; rintro e w' ⟨rfl, hb⟩; refine hK _ _ (fun _ => True) (by (try simp only [more_drew, more_more, Array.append_assoc]); exact hb) (fun _ _ _ _ => trivial) trivial ?_)
          try simp only [Act.put, zqA, zqB, zqC]
          (refine wpFg_eff rfl ?_ (fun wf hXf hE K hK => ?_); rfl; obtain ⟨osf, df, rfl⟩ := hXf.more; go_simp; generalize hq8 : Z.heap.size + osf.size = q8; refine hK _ _ (fun W => ArgsIn W (some ⟨q8, 0, none⟩) 1 1 [kAr V2 (some ⟨b, off + a * 6, none⟩) (k - a) (c - a)]) (by (try simp only [drew_more]); exact (Ext.refl _).alloc _) (fun _ _ hx h => h.ext hx) (kargs_new (n := 1) [kAr V2 (some ⟨b, off + a * 6, none⟩) (k - a) (c - a)] (by rw [← hq8]; simp) rfl rfl (by decide) (by intro a ha; obtain rfl := List.mem_singleton.1 ha; exact ⟨HB2.out.1.ext (by with_reducible repeat (first | exact Ext.refl _ | apply Ext.drew | apply Ext.alloc | apply Ext.more_)), HB2.out.2⟩)) ?_)
          try simp only [Act.put, zqA, zqB, zqC]
          (refine wpFg_eff rfl ?_ (fun wf hXf hE K hK => ?_); rfl; obtain ⟨osf, df, rfl⟩ := hXf.more; go_simp; refine (kone_in (F := fun xs => countedO isNum (allV xs)) hE (by decide) (by decide) HSN.out.2.2.2.2.1 (fun W hW g => mcall_count _ _ _ _ _ ((HTZ.out.ext (by with_reducible repeat (first | exact Ext.refl _ | apply Ext.drew | apply Ext.alloc | apply Ext.more_))).ext hW) g)).mono ?_; rintro e w' ⟨rfl, hb⟩; refine hK _ _ (fun _ => True) (by (try simp only [more_drew, more_more, Array.append_assoc]); exact hb) (fun _ _ _ _ => trivial) trivial ?_)
          try simp only [Act.put, zqA, zqB, zqC]
          (refine wpFg_eff rfl ?_ (fun wf hXf hE K hK => ?_); rfl; obtain ⟨osf, df, rfl⟩ := hXf.more; go_simp; generalize hq9 : Z.heap.size + osf.size = q9; refine hK _ _ (fun W => ArrIn W (some ⟨q9, 0, none⟩) 2 2 [nV y3, nV y4]) (by (try simp only [drew_more]); exact (Ext.refl _).alloc _) (fun _ _ hx h => h.ext hx) (karr_new (n := 2) [nV y3, nV y4] (by rw [← hq9]; simp) rfl rfl (by decide) (by intro x hx; simp only [List.mem_cons, List.not_mem_nil, or_false] at hx; rcases hx with rfl | rfl; exact hr3.ok; exact hr4.ok)) ?_)
          try simp only [Act.put, zqA, zqB, zqC]
          (refine wpFg_eff rfl ?_ (fun wf hXf hE K hK => ?_); rfl; obtain ⟨osf, df, rfl⟩ := hXf.more; go_simp; refine (krow_any _ _ _ _ (by decide)).mono ?_; rintro e w' ⟨rfl, hb⟩; refine hK _ _ (fun W => ArrIn W (some ⟨q9, 0, none⟩) 2 2 [nV y3, nV y4]) (by (try simp only [more_drew, more_more, Array.append_assoc]); exact hb) (fun _ _ hx h => h.ext hx) (hE.ext (by (try simp only [more_drew, more_more, Array.append_assoc]); exact hb)) ?_)
          try simp only [Act.put, zqA, zqB, zqC]
          (refine wpFg_eff rfl ?_ (fun wf hXf hE K hK => ?_); rfl; obtain ⟨osf, df, rfl⟩ := hXf.more; go_simp; generalize hq10 : Z.heap.size + osf.size = q10; refine hK _ _ (fun W => ArgsIn W (some ⟨q10, 0, none⟩) 1 1 [kAr [nV y3, nV y4] (some ⟨q9, 0, none⟩) 2 2]) (by (try simp only [drew_more]); exact (Ext.refl _).alloc _) (fun _ _ hx h => h.ext hx) (kargs_new (n := 1) [kAr [nV y3, nV y4] (some ⟨q9, 0, none⟩) 2 2] (by rw [← hq10]; simp) rfl rfl (by decide) (by intro a ha; obtain rfl := List.mem_singleton.1 ha; exact kAr_ok hE (by decide) (by decide) (by intro x hx; simp only [List.mem_cons, List.not_mem_nil, or_false] at hx; rcases hx with rfl | rfl; exact hr3; exact hr4))) ?_)
          try simp only [Act.put, zqA, zqB, zqC]
          (refine wpFg_eff rfl ?_ (fun wf hXf hE K hK => ?_); rfl; obtain ⟨osf, df, rfl⟩ := hXf.more; go_simp; refine (kone_in hE (by decide) (by decide) (by rw [HSN.out.2.2.2.2.2]) (fun W hW g => mcall_sum _ _ _ _ _ ((HTZ.out.ext (by with_reducible repeat (first | exact Ext.refl _ | apply Ext.drew | apply Ext.alloc | apply Ext.more_))).ext hW) g)).mono ?_; rintro e w' ⟨rfl, hb⟩; refine hK _ _ (fun _ => True) (by (try simp only [more_drew, more_more, Array.append_assoc]); exact hb) (fun _ _ _ _ => trivial) trivial ?_)
          try simp only [Act.put, zqA, zqB, zqC]
          iterate 3 ((refine wpFg_read (v := ?_) rfl ?_ (fun w1 h1 => ?_) ?_; rotate_left 1; rfl; (obtain ⟨os1, d1, rfl⟩ := h1.more; go_simp; first | done | rfl)); try simp only [Act.put, zqA, zqB, zqC])
          (refine wpFg_done fun wz hXz hE => ?_; obtain ⟨osz, dz, rfl⟩ := hXz.more)
          refine wpTl_nil ?_
          go_wp2_with fail
          go_ret
          exact ⟨rfl, HX0.out.trans (by repeat (first | (with_reducible (first | exact Ext.refl _ | exact ext_d _ _ _ _ | exact ext_app _ _ _ _ _ | exact ext_app2 _ _ _ _ _ _)) | ((with_reducible refine ext_suffix ⟨_, ?_⟩); (try simp only [Array.append_assoc]); rfl) | (with_reducible (first | apply Ext.drew | apply Ext.alloc | apply Ext.more_))))⟩
end Go.Proofs.YtkcoikelcmpceaaGreatDoor
namespace Go.Proofs.YtkcoikelcmpceaaGreatDoor
open Go.RowKit NM
theorem kalike_any (r c r' c' : Int) (A A' : Option Addr) (n cap n' cap' : Nat) (w : World) :
    Calls Tryz.prog 107 #[AV r c (.slice A n cap), AV r' c' (.slice A' n' cap')] w fun e w' => e = .returned (.bool (r == r' && c == c')) ∧ Ext w w' := by
  cases h1 : r == r' with
  | false =>
    go_enter Tryz.func107, Tryz.ntmps107
    go_wp2_with fail
    go_ret
    exact ⟨rfl, by with_reducible repeat (first | exact Ext.refl _ | apply Ext.drew | apply Ext.alloc | apply Ext.more_)⟩
  | true =>
    go_enter Tryz.func107, Tryz.ntmps107
    go_wp2_with fail
    go_ret
    exact ⟨rfl, by with_reducible repeat (first | exact Ext.refl _ | apply Ext.drew | apply Ext.alloc | apply Ext.more_)⟩
/-- What stands where the others fit. -/
def fitL (q : Val → Bool) : List Val → List Val → List Val
  | x :: xs, y :: ys => if q x then y :: fitL q xs ys else fitL q xs ys
  | _, _ => []
theorem fitL_succ (q : Val → Bool) : ∀ {xs ys : List Val} {k : Nat} {x y : Val}, xs[k]? = some x → ys[k]? = some y → fitL q (xs.take (k + 1)) (ys.take (k + 1)) = fitL q (xs.take k) (ys.take k) ++ (if q x then [y] else [])
  | [], _, k, x, y, h, _ => by simp at h
  | _ :: _, [], k, x, y, _, h => by simp at h
  | a :: xs, b :: ys, 0, x, y, h, h' => by
    obtain rfl : a = x := by simpa using h
    obtain rfl : b = y := by simpa using h'
    simp only [List.take_succ_cons, List.take_zero]
    unfold fitL
    split <;> simp [fitL]
  | a :: xs, b :: ys, k + 1, x, y, h, h' => by
    have ih := fitL_succ q (xs := xs) (ys := ys) (k := k) (x := x) (y := y) (by simpa using h) (by simpa using h')
    rw [List.take_succ_cons, List.take_succ_cons, List.take_succ_cons, List.take_succ_cons]
    show (if q a then b :: fitL q (xs.take (k + 1)) (ys.take (k + 1)) else fitL q (xs.take (k + 1)) (ys.take (k + 1))) = (if q a then b :: fitL q (xs.take k) (ys.take k) else fitL q (xs.take k) (ys.take k)) ++ _
    rw [ih]
    split <;> simp
theorem fitL_length (q : Val → Bool) : ∀ xs ys : List Val, (fitL q xs ys).length ≤ xs.length
  | [], _ => by simp [fitL]
  | _ :: _, [] => by simp [fitL]
  | a :: xs, b :: ys => by
    have ih := fitL_length q xs ys
    unfold fitL
    split <;> simp <;> omega
theorem fitL_mem (q : Val → Bool) : ∀ {xs ys : List Val} {v : Val}, v ∈ fitL q xs ys → v ∈ ys
  | [], _, v, h => by simp [fitL] at h
  | _ :: _, [], v, h => by simp [fitL] at h
  | a :: xs, b :: ys, v, h => by
    unfold fitL at h
    split at h
    · rcases List.mem_cons.1 h with rfl | h
      · exact List.mem_cons_self
      · exact List.mem_cons_of_mem _ (fitL_mem q h)
    · exact List.mem_cons_of_mem _ (fitL_mem q h)
/-- The array that SUMIF sums; what it tells. -/
def summedN (xs : List Ar) : NA := if xs.length = 3 then argN xs 2 else argN xs 0
def sumIfO (xs : List Ar) : NA :=
  if (argV xs 1).kind = 4 then aloneO (argV xs 1).fault
  else if ((summedN xs).R == (argN xs 0).R && (summedN xs).C == (argN xs 0).C) = false then aloneO 2
  else
    let l := fitL (kfitB (critO (argV xs 1)).1 (critO (argV xs 1)).2) (argN xs 0).l (summedN xs).l
    if ffL l = 0 then oneA (sumV (numsL l)) else aloneO (ffL l)
theorem kbeq_cast (a b : Nat) : ((a : Int) == (b : Int)) = (a == b) := by rw [Bool.eq_iff_iff, beq_iff_eq, beq_iff_eq]; omega
set_option maxHeartbeats 4000000 in
theorem ksumIf_two (A : Option Addr) (n cap : Nat) (xs : List Ar) (w : World) (htab : Tab w) (hft : FTab w) (h : ArgsIn w A n cap xs) (hn : n = 2) (h4 : (argV xs 1).kind ≠ 4) :
    Calls Tryz.prog 55 #[.slice A n cap] w fun e w' => ResA w (sumIfO xs) e w' := by
  subst hn
  obtain ⟨i0, hi0, hz0, hz1, hz2⟩ := info_parts info_val
  have hxl := h.len
  have hcap := h.cap
  obtain ⟨R, C, l, b1, off1, n1, cap1, b, off, x0, ha0, rfl, ⟨v0, v1, v2⟩, hn1, hc1, _, _, _, hbl, hb1, _, _, harr, _⟩ := h.first (k := 0) (by omega)
  obtain ⟨R', C', l', b2, off2, n2, cap2, b', off', x, ha1, e1, ⟨w0, w1, w2⟩, hn2, hc2, ⟨y0, y1, y2, y3, y4, y5⟩, hgv, hxr, _, hb2, hav, _, _, _⟩ := h.first (k := 1) (by omega)
  obtain ⟨rfl, rfl⟩ : b = b' ∧ off = off' := by simpa using e1
  rw [hav] at h4
  simp only [Nat.zero_mul, Nat.add_zero, Nat.one_mul] at v0 v1 v2 w0 w1 w2
  have hln := harr.len
  have hright := (h.all _ (List.mem_of_getElem? ha0)).right
  obtain ⟨r1, r2, r3, r4, r5⟩ := rightA_nat.1 hright
  simp only at r1 r2 r3 r4 r5
  have hN0 : argN xs 0 = ⟨R, C, l⟩ := by unfold argN; rw [ha0]
  have hcr := fun W hW => criterion_any x W hxr h4 hW
  have hsr := right_crit hxr
  obtain ⟨X, hX⟩ : ∃ X, sumIfO xs = X := ⟨_, rfl⟩
  rw [hX]
  have hXX := hX
  unfold sumIfO summedN at hXX
  have hx3 : ¬ xs.length = 3 := by omega
  rw [hav, if_neg h4, if_neg hx3, hN0] at hXX
  simp only [beq_self_eq_true, Bool.and_self, Bool.true_eq_false, if_false] at hXX
  have HT := Lib.hid htab
  have HF := Lib.hid hft
  have HX := Lib.hid hXX
  have HR5 := Lib.hid r5
  have HA := Lib.hid harr
  have HLN := Lib.hid hln
  clear htab hft hX hXX h ha0 ha1 hav hgv hN0 r5 harr hln e1 hright h4 hxr
  have hal := fun W => kalike_any R C R C (some ⟨b1, off1, none⟩) (some ⟨b1, off1, none⟩) n1 cap1 n1 cap1 W
  simp only [beq_self_eq_true, Bool.and_self] at hal
  go_enter Tryz.func55, Tryz.ntmps55
  go_upto_region 7 with (first | (go_at_call 113; (with_reducible refine (hcr _ (HF.out.ext (by with_reducible repeat (first | exact Ext.refl _ | apply Ext.drew | apply Ext.alloc | apply Ext.more_)))).mono ?_); rintro e w' ⟨p1, p2, rfl, hc, hp1, hp2, hb⟩; obtain ⟨os1, d1, rfl⟩ := hb.more; clear hb))
  refine wp_plan (S := Ext _) [(0, 0), (1, 0), (2, 0), (3, 0), (4, 1), (5, 0)] [] (by kernel_rfl) (by kernel_rfl) (by kernel_rfl) (fun _ _ d _ _ h => by cases d <;> exact h) (Ext.drew (Ext.refl _)) ?_
  iterate 4 ((refine wpPl_read (v := ?_) rfl ?_ (fun _ h => ?_) ?_; rotate_left 1; rfl; (obtain ⟨_, _, rfl⟩ := h.more; go_simp; try rfl)); try simp only [Act.put, zqA, zqB, zqC])
  (refine wpPl_eff rfl ?_ (fun K hK => ?_); rfl; go_simp; refine (hal _).mono ?_; rintro e w' ⟨rfl, hb⟩; obtain ⟨os2, d2, rfl⟩ := hb.more; clear hb; refine hK _ _ ?_ ?_; (repeat (first | (with_reducible (first | exact Ext.refl _ | exact ext_d _ _ _ _ | exact ext_app _ _ _ _ _ | exact ext_app2 _ _ _ _ _ _ | exact ext_app3 _ _ _ _ _ _ _ | exact ext_app4 _ _ _ _ _ _ _ _ | exact ext_app5 _ _ _ _ _ _ _ _ _)) | ((with_reducible refine ext_suffix ⟨_, ?_⟩); (try simp only [Array.append_assoc]); rfl) | (with_reducible (first | apply Ext.drew | apply Ext.alloc | apply Ext.more_)) | apply Ext.drew | apply Ext.alloc | apply Ext.more_)))
  try simp only [Act.put, zqA, zqB, zqC]
  (refine wpPl_read (v := ?_) rfl ?_ (fun _ h => ?_) ?_; rotate_left 1; rfl; (obtain ⟨_, _, rfl⟩ := h.more; go_simp; try rfl))
  try simp only [Act.put, zqA, zqB, zqC]
  refine wpPl_nil ?_
  go_upto_region 9 with fail
  refine wp_world fun U hU => ?_
  have hxU : Ext w U := by rw [hU]; exact (by repeat (first | (with_reducible (first | exact Ext.refl _ | exact ext_d _ _ _ _ | exact ext_app _ _ _ _ _ | exact ext_app2 _ _ _ _ _ _)) | ((with_reducible refine ext_suffix ⟨_, ?_⟩); (try simp only [Array.append_assoc]); rfl) | (with_reducible (first | apply Ext.drew | apply Ext.alloc | apply Ext.more_))))
  have hcU : CritAt U p1 p2 (critO x).1 (critO x).2 := hc.ext (by rw [hU]; exact (by repeat (first | (with_reducible (first | exact Ext.refl _ | exact ext_d _ _ _ _ | exact ext_app _ _ _ _ _ | exact ext_app2 _ _ _ _ _ _)) | ((with_reducible refine ext_suffix ⟨_, ?_⟩); (try simp only [Array.append_assoc]); rfl) | (with_reducible (first | apply Ext.drew | apply Ext.alloc | apply Ext.more_)))))
  have s0 : U.cell? ⟨w.heap.size + 1 + os1.size, 0, none⟩ = some (.int .i64 R) := by rw [hU]; go_simp
  have s1 : U.cell? ⟨w.heap.size + 1 + os1.size, 1, none⟩ = some (.int .i64 C) := by rw [hU]; go_simp
  have s2 : U.cell? ⟨w.heap.size + 1 + os1.size, 2, none⟩ = some (.slice (some ⟨b1, off1, none⟩) n1 cap1) := by rw [hU]; go_simp
  have hrow : U.heap[w.heap.size]? = some (.cells #[.int .i64 0, .int .i64 0, .slice none 0 0] 33 (0, 0)) := ((show Ext (w.alloc (Obj.cells #[.int .i64 0, .int .i64 0, .slice none 0 0] 33)) U by rw [hU]; exact (by repeat (first | (with_reducible (first | exact Ext.refl _ | exact ext_d _ _ _ _ | exact ext_app _ _ _ _ _ | exact ext_app2 _ _ _ _ _ _)) | ((with_reducible refine ext_suffix ⟨_, ?_⟩); (try simp only [Array.append_assoc]); rfl) | (with_reducible (first | apply Ext.drew | apply Ext.alloc | apply Ext.more_))))).block (by simp)).trans (kalloc_new _ _)
  have lo := lt_of_block hrow
  have ls := lt_of_cell s0
  replace v0 := hxU.cell_some v0
  replace v1 := hxU.cell_some v1
  replace v2 := hxU.cell_some v2
  have lv := lt_of_cell v0
  have HTU := Lib.hid (HT.out.ext hxU)
  have HAU := Lib.hid (HA.out.ext hxU)
  have HQ : Hid (Tells U 159 #[.pointer (some ⟨p1, 0, none⟩), .pointer (some ⟨p2, 0, none⟩)] (kfitB (critO x).1 (critO x).2)) := Lib.hid (crit_tells hcU hsr)
  have HXU := Lib.hid hxU
  have HRW := Lib.hid hrow
  have hcp : n1 ≤ cap1 := HA.out.cap
  have hn9 : n1 ≤ 4096 := by have := HLN.out; omega
  clear hU hc hcU hsr HT HF HA hal hcr w0 w1 w2 y0 y1 y2 y3 y4 y5 hxU hrow
  generalize kfitB (critO x).1 (critO x).2 = q at *
  generalize w.heap.size + 1 + os1.size = pS at *
  go_upto_region 11 with fail
  go_loopw [6, 45] (fun v i wr => ∃ k : Nat, k ≤ n1 ∧ i = .int .i64 (k : Int) ∧ Hid (wr.ownsRow U.heap.size 30 6 v (fitL q (l.take k) (l.take k)).length (vcells (fitL q (l.take k) (l.take k)))) ∧ Ext U wr) (fun _ i _ => n1 - (intOf i).toNat)
  case atStart => exact ⟨0, Nat.zero_le _, rfl, World.ownsRow_nil _ _ _ _, Ext.refl _⟩
  case round =>
    obtain ⟨k, hk, rfl, HW, hxr⟩ := hrel
    have hsz := hxr.size
    by_cases hlt : k < n1
    · obtain ⟨x1, b9, off9, hx, hxo, e9, hat⟩ := HAU.out.at hlt
      obtain ⟨rfl, rfl⟩ : b1 = b9 ∧ off1 = off9 := by simpa using e9
      obtain ⟨z0, z1, z2, z3, z4, z5⟩ := hat.ext hxr
      have lz := lt_of_cell z0
      replace s0 := hxr.cell_some s0
      replace s1 := hxr.cell_some s1
      replace s2 := hxr.cell_some s2
      replace ls := lt_of_cell s0
      have hxR : x1.right := HR5.out x1 (List.mem_of_getElem? hx)
      have HS := Lib.hid (fitL_succ q hx hx)
      have hcall := fun W (hW : Ext U W) => HQ.out x1 W (klow_ext hW) hxR
      have hfl := Lib.hid (fitL_length q (l.take k) (l.take k))
      have hle : (fitL q (l.take k) (l.take k)).length ≤ 4096 := by have := hfl.out; rw [List.length_take] at this; omega
      clear hx hxR hat hfl e9
      generalize fitL q (l.take k) (l.take k) = F at *
      cases hqx : q x1 with
      | true =>
        rw [hqx] at hcall HS
        rw [if_pos rfl] at HS
        go_wp2_with (first | (at_builtin; refine wpList_append_own _ rfl _ _ _ rfl U.heap.size 30 i0 (VV 0 0 0 ⟨#[]⟩ false 0) 6 56 Tryz.underlying24 hi0 hz0 hz1 hz2 rfl (by decide) _ F.length (vcells F) rfl (own_ext HW.out (by with_reducible repeat (first | exact Ext.refl _ | apply Ext.drew | apply Ext.alloc | apply Ext.more_))) _ 1 1 [.int .i64 x1.kind, .int .i64 x1.mant, .int .i64 x1.exp, .string x1.text, .bool x1.truth, .int .i64 x1.fault] rfl rfl (new_cells_at _ _ _ (by first | rfl | (simp; done)) rfl _) (vcells_one (l := [x1])) (by simp only [maxLen]; omega) (by omega) (by simp; omega) ?_; intro v4 w4 ho4 hg4 _) | (refine (hcall _ ?_).mono ?_; (focus (exact hxr.trans (by with_reducible repeat (first | exact Ext.refl _ | apply Ext.drew | apply Ext.alloc | apply Ext.more_)))); rintro e w' ⟨rfl, hb⟩; obtain ⟨os3, d3, rfl⟩ := hb.more; clear hb))
        have hx4 := ext_grownN (hxr.trans (by with_reducible repeat (first | exact Ext.refl _ | apply Ext.drew | apply Ext.alloc | apply Ext.more_))) (own_ext HW.out (by with_reducible repeat (first | exact Ext.refl _ | apply Ext.drew | apply Ext.alloc | apply Ext.more_))) hg4
        refine ⟨⟨k + 1, by omega, by go_num, ?_, hx4⟩, by simp [intOf]; omega⟩
        show World.ownsRow _ _ _ _ _ _ _
        rw [HS.out, vcells_append, List.length_append]
        exact ho4
      | false =>
        rw [hqx] at hcall HS
        rw [if_neg (by simp), List.append_nil] at HS
        go_wp2_with (refine (hcall _ ?_).mono ?_; (focus (exact hxr.trans (by with_reducible repeat (first | exact Ext.refl _ | apply Ext.drew | apply Ext.alloc | apply Ext.more_)))); rintro e w' ⟨rfl, hb⟩; obtain ⟨os3, d3, rfl⟩ := hb.more; clear hb)
        refine ⟨⟨k + 1, by omega, by go_num, ?_, hxr.trans (by with_reducible repeat (first | exact Ext.refl _ | apply Ext.drew | apply Ext.alloc | apply Ext.more_))⟩, by simp [intOf]; omega⟩
        show World.ownsRow _ _ _ _ _ _ _
        rw [HS.out]
        exact own_ext HW.out (by with_reducible repeat (first | exact Ext.refl _ | apply Ext.drew | apply Ext.alloc | apply Ext.more_))
    · obtain rfl : k = n1 := by omega
      have htk : l.take k = l := by rw [← HLN.out]; exact List.take_length
      rw [htk] at HW
      obtain ⟨D, c, rfl, hrd, hcD⟩ := Rd.of_own HW.out
      have hfl := fitL_length q l l
      have hln := HLN.out
      have hFR : ∀ v ∈ fitL q l l, v.right := fun v hv => HR5.out v (fitL_mem q hv)
      have hle : (fitL q l l).length ≤ 4096 := by omega
      have hin : ArrIn wr D (fitL q l l).length c (fitL q l l) := ⟨hrd.mono (Nat.zero_le _), rfl, hcD, by omega, fun y hy => (hFR y hy).ok⟩
      have hXo := HX.out
      have hnr := numsL_rt hFR
      have hlen9 := numsL_length (fitL q l l)
      have hno9 : ffL (fitL q l l) = 0 → noF (fitL q l l) := fun h0 => noF_of hFR h0
      have hx0 : Ext w wr := HXU.out.trans hxr
      have hrw := (hxr.block (lt_of_block HRW.out)).trans HRW.out
      have o0 := cell_of_row _ _ 0 _ _ _ hrw
      have o1 := cell_of_row _ _ 1 _ _ _ hrw
      have o2 := cell_of_row _ _ 2 _ _ _ hrw
      have g0 := frozen_of_row _ _ 0 _ _ hrw
      have g1 := frozen_of_row _ _ 1 _ _ hrw
      have g2 := frozen_of_row _ _ 2 _ _ hrw
      have lor := lt_of_block hrw
      clear hrw
      clear HW hrd hFR hfl hln htk
      generalize fitL q l l = FL at *
      by_cases h0 : ffL FL = 0
      · rw [if_pos h0] at hXo
        have hno := hno9 h0
        have hone : ∀ W, Calls Tryz.prog 64 #[VV (sumV (numsL FL)).kind (sumV (numsL FL)).mant (sumV (numsL FL)).exp (sumV (numsL FL)).text (sumV (numsL FL)).truth (sumV (numsL FL)).fault] W (ResA W X) := fun W => by rw [← hXo]; exact one_res _ W (right_sumV hnr).ok (right_sumV hnr)
        have HNR := Lib.hid (And.intro hnr hlen9)
        have HIN := Lib.hid hin
        clear hXo HX hnr hlen9 hno9 hin
        go_upto_region 17 with (go_at_call 95; (with_reducible refine (knumbers_any _ _ _ FL _ (HIN.out.ext (by with_reducible repeat (first | exact Ext.refl _ | apply Ext.drew | apply Ext.alloc | apply Ext.more_))) (by omega)).mono ?_); rw [h0]; rintro e w' ⟨v, rfl, hnm, hb⟩; obtain ⟨A2, c2, rfl, hin2⟩ := (hnm hno).in (by have := HNR.out.2; omega) HNR.out.1; obtain ⟨os4, d4, rfl⟩ := hb.more; clear hb hnm)
        have hsum := fun W (hT : Tab W) (hN : NmIn W A2 (numsL FL).length c2 (numsL FL)) => ksum_any A2 (numsL FL).length c2 (numsL FL) W hT hN
        have HI2 := Lib.hid hin2
        clear hin2
        generalize numsL FL = L at *
        generalize L.length = n8 at *
        generalize sumV L = y at *
        go_wp2_with (first | (go_at_call 64; (with_reducible refine (hone _).mono ?_); rintro e w' ⟨D2, m2, cc2, rfl, hD, hb⟩; obtain ⟨os5, d5, rfl⟩ := hb.more; clear hb; have hDr := hD.rd) | (go_at_call 39; (refine (hsum _ ?_ ?_).mono ?_); (focus (exact HTU.out.ext (hxr.trans (by with_reducible repeat (first | exact Ext.refl _ | apply Ext.drew | apply Ext.alloc | apply Ext.more_))))); (focus (exact HI2.out.ext (by repeat (first | (with_reducible (first | exact Ext.refl _ | exact ext_d _ _ _ _ | exact ext_app _ _ _ _ _ | exact ext_app2 _ _ _ _ _ _)) | ((with_reducible refine ext_suffix ⟨_, ?_⟩); (try simp only [Array.append_assoc]); rfl) | (with_reducible (first | apply Ext.drew | apply Ext.alloc | apply Ext.more_)))))); rintro e w' ⟨rfl, hb⟩; obtain ⟨os6, d6, rfl⟩ := hb.more; clear hb))
        exact bodyPost_ret (v := AV X.R X.C (.slice D2 m2 cc2)) (by simp [results, Tryz.results55, go_sem, o0, o1, o2, lor]) rfl ⟨D2, m2, cc2, rfl, ⟨(by (try simp only [more_more] at hDr); (try simp only [drew_more] at hDr); (try simp only [more_drew] at hDr); (try simp only [Array.append_assoc] at hDr); exact Rd.swap hDr (by first | (simp; done) | (simp; omega) | omega) (by first | (simp; done) | (simp; omega) | omega) (by first | (simp; done) | (simp; omega) | omega)), hD.len, hD.cap, hD.small, hD.ok⟩, Ext.more_ (Ext.set (Ext.set (Ext.set hx0 _ (Nat.le_refl _)) _ (Nat.le_refl _)) _ (Nat.le_refl _)) _ _⟩
      · rw [if_neg h0] at hXo
        have hfa := fun W => kfault_any (ffL FL) W
        rw [hXo] at hfa
        have HIN := Lib.hid hin
        clear hXo HX hnr hlen9 hno9 hin
        generalize hff : ffL FL = f at *
        have h0' : (f != 0) = true := by simpa using h0
        have h0'' : (f == 0) = false := by simpa using h0
        go_upto_region 17 with (go_at_call 95; (with_reducible refine (knumbers_any _ _ _ FL _ (HIN.out.ext (by with_reducible repeat (first | exact Ext.refl _ | apply Ext.drew | apply Ext.alloc | apply Ext.more_))) (by omega)).mono ?_); rw [hff]; rintro e w' ⟨v, rfl, hnm, hb⟩; obtain ⟨os4, d4, rfl⟩ := hb.more; clear hb hnm)
        clear hff HIN
        go_wp2_with (go_at_call 22; (with_reducible refine (hfa _).mono ?_); rintro e w' ⟨D2, m2, cc2, rfl, hD, hb⟩; obtain ⟨os5, d5, rfl⟩ := hb.more; clear hb; have hDr := hD.rd)
        exact bodyPost_ret (v := AV X.R X.C (.slice D2 m2 cc2)) (by simp [results, Tryz.results55, go_sem, o0, o1, o2, lor]) rfl ⟨D2, m2, cc2, rfl, ⟨(by (try simp only [more_more] at hDr); (try simp only [drew_more] at hDr); (try simp only [more_drew] at hDr); (try simp only [Array.append_assoc] at hDr); exact Rd.swap hDr (by first | (simp; done) | (simp; omega) | omega) (by first | (simp; done) | (simp; omega) | omega) (by first | (simp; done) | (simp; omega) | omega)), hD.len, hD.cap, hD.small, hD.ok⟩, Ext.more_ (Ext.set (Ext.set (Ext.set hx0 _ (Nat.le_refl _)) _ (Nat.le_refl _)) _ (Nat.le_refl _)) _ _⟩
set_option maxHeartbeats 4000000 in
theorem ksumIf_three (A : Option Addr) (n cap : Nat) (xs : List Ar) (w : World) (htab : Tab w) (hft : FTab w) (h : ArgsIn w A n cap xs) (hn : n = 3) (h4 : (argV xs 1).kind ≠ 4) (hsm : ((argN xs 2).R == (argN xs 0).R && (argN xs 2).C == (argN xs 0).C) = true) :
    Calls Tryz.prog 55 #[.slice A n cap] w fun e w' => ResA w (sumIfO xs) e w' := by
  subst hn
  obtain ⟨i0, hi0, hz0, hz1, hz2⟩ := info_parts info_val
  have hxl := h.len
  have hcap := h.cap
  obtain ⟨R, C, l, b1, off1, n1, cap1, b, off, x0, ha0, rfl, ⟨v0, v1, v2⟩, hn1, hc1, _, _, _, hbl, hb1, _, _, harr, _⟩ := h.first (k := 0) (by omega)
  obtain ⟨R', C', l', b2, off2, n2, cap2, b', off', x, ha1, e1, ⟨w0, w1, w2⟩, hn2, hc2, ⟨y0, y1, y2, y3, y4, y5⟩, hgv, hxr, _, hb2, hav, _, _, _⟩ := h.first (k := 1) (by omega)
  obtain ⟨rfl, rfl⟩ : b = b' ∧ off = off' := by simpa using e1
  obtain ⟨R3, C3, l3, b3, off3, n3, cap3, b', off', x03, ha3, e3, ⟨t0, t1, t2⟩, hn3, hc3, _, _, _, hbl3, hb3, _, _, harr3, _⟩ := h.first (k := 2) (by omega)
  obtain ⟨rfl, rfl⟩ : b = b' ∧ off = off' := by simpa using e3
  simp only [Nat.reduceMul] at t0 t1 t2
  have hln3 := harr3.len
  have hright3 := (h.all _ (List.mem_of_getElem? ha3)).right
  obtain ⟨q1, q2, q3, q4, q5⟩ := rightA_nat.1 hright3
  simp only at q1 q2 q3 q4 q5
  have hN2 : argN xs 2 = ⟨R3, C3, l3⟩ := by unfold argN; rw [ha3]
  rw [hav] at h4
  simp only [Nat.zero_mul, Nat.add_zero, Nat.one_mul] at v0 v1 v2 w0 w1 w2
  have hln := harr.len
  have hright := (h.all _ (List.mem_of_getElem? ha0)).right
  obtain ⟨r1, r2, r3, r4, r5⟩ := rightA_nat.1 hright
  simp only at r1 r2 r3 r4 r5
  have hN0 : argN xs 0 = ⟨R, C, l⟩ := by unfold argN; rw [ha0]
  have hcr := fun W hW => criterion_any x W hxr h4 hW
  have hsr := right_crit hxr
  rw [hN2, hN0] at hsm
  obtain ⟨rfl, rfl⟩ : R3 = R ∧ C3 = C := by simpa using hsm
  obtain rfl : n3 = n1 := by rw [← hln3, ← hln, q4, r4]
  clear hsm
  obtain ⟨X, hX⟩ : ∃ X, sumIfO xs = X := ⟨_, rfl⟩
  rw [hX]
  have hXX := hX
  unfold sumIfO summedN at hXX
  have hx3 : xs.length = 3 := by omega
  rw [hav, if_neg h4, if_pos hx3, hN0, hN2] at hXX
  simp only [beq_self_eq_true, Bool.and_self, Bool.true_eq_false, if_false] at hXX
  have HT := Lib.hid htab
  have HF := Lib.hid hft
  have HX := Lib.hid hXX
  have HR5 := Lib.hid r5
  have HA := Lib.hid harr
  have HLN := Lib.hid hln
  have HR3 := Lib.hid q5
  have HA3 := Lib.hid harr3
  have HLN3 := Lib.hid hln3
  clear q5 harr3 hln3 ha3 hN2 hright3 e3
  clear htab hft hX hXX h ha0 ha1 hav hgv hN0 r5 harr hln e1 hright h4 hxr
  have hal := fun W => kalike_any R3 C3 R3 C3 (some ⟨b3, off3, none⟩) (some ⟨b1, off1, none⟩) n3 cap3 n3 cap1 W
  simp only [beq_self_eq_true, Bool.and_self] at hal
  go_enter Tryz.func55, Tryz.ntmps55
  go_upto_region 7 with (first | (go_at_call 113; (with_reducible refine (hcr _ (HF.out.ext (by with_reducible repeat (first | exact Ext.refl _ | apply Ext.drew | apply Ext.alloc | apply Ext.more_)))).mono ?_); rintro e w' ⟨p1, p2, rfl, hc, hp1, hp2, hb⟩; obtain ⟨os1, d1, rfl⟩ := hb.more; clear hb))
  refine wp_plan (S := Ext _) [(0, 0), (1, 0), (2, 0), (3, 0), (4, 1), (5, 0)] [] (by kernel_rfl) (by kernel_rfl) (by kernel_rfl) (fun _ _ d _ _ h => by cases d <;> exact h) (Ext.drew (Ext.refl _)) ?_
  iterate 4 ((refine wpPl_read (v := ?_) rfl ?_ (fun _ h => ?_) ?_; rotate_left 1; rfl; (obtain ⟨_, _, rfl⟩ := h.more; go_simp; try rfl)); try simp only [Act.put, zqA, zqB, zqC])
  (refine wpPl_eff rfl ?_ (fun K hK => ?_); rfl; go_simp; refine (hal _).mono ?_; rintro e w' ⟨rfl, hb⟩; obtain ⟨os2, d2, rfl⟩ := hb.more; clear hb; refine hK _ _ ?_ ?_; (repeat (first | (with_reducible (first | exact Ext.refl _ | exact ext_d _ _ _ _ | exact ext_app _ _ _ _ _ | exact ext_app2 _ _ _ _ _ _ | exact ext_app3 _ _ _ _ _ _ _ | exact ext_app4 _ _ _ _ _ _ _ _ | exact ext_app5 _ _ _ _ _ _ _ _ _)) | ((with_reducible refine ext_suffix ⟨_, ?_⟩); (try simp only [Array.append_assoc]); rfl) | (with_reducible (first | apply Ext.drew | apply Ext.alloc | apply Ext.more_)) | apply Ext.drew | apply Ext.alloc | apply Ext.more_)))
  try simp only [Act.put, zqA, zqB, zqC]
  (refine wpPl_read (v := ?_) rfl ?_ (fun _ h => ?_) ?_; rotate_left 1; rfl; (obtain ⟨_, _, rfl⟩ := h.more; go_simp; try rfl))
  try simp only [Act.put, zqA, zqB, zqC]
  refine wpPl_nil ?_
  go_upto_region 9 with fail
  refine wp_world fun U hU => ?_
  have hxU : Ext w U := by rw [hU]; exact (by repeat (first | (with_reducible (first | exact Ext.refl _ | exact ext_d _ _ _ _ | exact ext_app _ _ _ _ _ | exact ext_app2 _ _ _ _ _ _)) | ((with_reducible refine ext_suffix ⟨_, ?_⟩); (try simp only [Array.append_assoc]); rfl) | (with_reducible (first | apply Ext.drew | apply Ext.alloc | apply Ext.more_))))
  have hcU : CritAt U p1 p2 (critO x).1 (critO x).2 := hc.ext (by rw [hU]; exact (by repeat (first | (with_reducible (first | exact Ext.refl _ | exact ext_d _ _ _ _ | exact ext_app _ _ _ _ _ | exact ext_app2 _ _ _ _ _ _)) | ((with_reducible refine ext_suffix ⟨_, ?_⟩); (try simp only [Array.append_assoc]); rfl) | (with_reducible (first | apply Ext.drew | apply Ext.alloc | apply Ext.more_)))))
  have s0 : U.cell? ⟨w.heap.size + 1 + os1.size, 0, none⟩ = some (.int .i64 R3) := by rw [hU]; go_simp
  have s1 : U.cell? ⟨w.heap.size + 1 + os1.size, 1, none⟩ = some (.int .i64 C3) := by rw [hU]; go_simp
  have s2 : U.cell? ⟨w.heap.size + 1 + os1.size, 2, none⟩ = some (.slice (some ⟨b3, off3, none⟩) n3 cap3) := by rw [hU]; go_simp
  have hrow : U.heap[w.heap.size]? = some (.cells #[.int .i64 0, .int .i64 0, .slice none 0 0] 33 (0, 0)) := ((show Ext (w.alloc (Obj.cells #[.int .i64 0, .int .i64 0, .slice none 0 0] 33)) U by rw [hU]; exact (by repeat (first | (with_reducible (first | exact Ext.refl _ | exact ext_d _ _ _ _ | exact ext_app _ _ _ _ _ | exact ext_app2 _ _ _ _ _ _)) | ((with_reducible refine ext_suffix ⟨_, ?_⟩); (try simp only [Array.append_assoc]); rfl) | (with_reducible (first | apply Ext.drew | apply Ext.alloc | apply Ext.more_))))).block (by simp)).trans (kalloc_new _ _)
  have lo := lt_of_block hrow
  have ls := lt_of_cell s0
  replace v0 := hxU.cell_some v0
  replace v1 := hxU.cell_some v1
  replace v2 := hxU.cell_some v2
  have lv := lt_of_cell v0
  have HTU := Lib.hid (HT.out.ext hxU)
  have HAU := Lib.hid (HA.out.ext hxU)
  have HA3U := Lib.hid (HA3.out.ext hxU)
  have hcp3 : n3 ≤ cap3 := HA3.out.cap
  clear HA3 t0 t1 t2
  have HQ : Hid (Tells U 159 #[.pointer (some ⟨p1, 0, none⟩), .pointer (some ⟨p2, 0, none⟩)] (kfitB (critO x).1 (critO x).2)) := Lib.hid (crit_tells hcU hsr)
  have HXU := Lib.hid hxU
  have HRW := Lib.hid hrow
  have hcp : n3 ≤ cap1 := HA.out.cap
  have hn9 : n3 ≤ 4096 := by have := HLN.out; omega
  clear hU hc hcU hsr HT HF HA hal hcr w0 w1 w2 y0 y1 y2 y3 y4 y5 hxU hrow
  generalize kfitB (critO x).1 (critO x).2 = q at *
  generalize w.heap.size + 1 + os1.size = pS at *
  go_upto_region 11 with fail
  go_loopw [6, 45] (fun v i wr => ∃ k : Nat, k ≤ n3 ∧ i = .int .i64 (k : Int) ∧ Hid (wr.ownsRow U.heap.size 30 6 v (fitL q (l.take k) (l3.take k)).length (vcells (fitL q (l.take k) (l3.take k)))) ∧ Ext U wr) (fun _ i _ => n3 - (intOf i).toNat)
  case atStart => exact ⟨0, Nat.zero_le _, rfl, World.ownsRow_nil _ _ _ _, Ext.refl _⟩
  case round =>
    obtain ⟨k, hk, rfl, HW, hxr⟩ := hrel
    have hsz := hxr.size
    by_cases hlt : k < n3
    · obtain ⟨x1, b9, off9, hx, hxo, e9, hat⟩ := HAU.out.at hlt
      obtain ⟨rfl, rfl⟩ : b1 = b9 ∧ off1 = off9 := by simpa using e9
      obtain ⟨z0, z1, z2, z3, z4, z5⟩ := hat.ext hxr
      have lz := lt_of_cell z0
      obtain ⟨y1, b8, off8, hy, hyo, e8, hay⟩ := HA3U.out.at hlt
      obtain ⟨rfl, rfl⟩ : b3 = b8 ∧ off3 = off8 := by simpa using e8
      obtain ⟨g0, g1, g2, g3, g4, g5⟩ := hay.ext hxr
      have lg := lt_of_cell g0
      replace s0 := hxr.cell_some s0
      replace s1 := hxr.cell_some s1
      replace s2 := hxr.cell_some s2
      replace ls := lt_of_cell s0
      have hxR : x1.right := HR5.out x1 (List.mem_of_getElem? hx)
      have HS := Lib.hid (fitL_succ q hx hy)
      have hcall := fun W (hW : Ext U W) => HQ.out x1 W (klow_ext hW) hxR
      have hfl := Lib.hid (fitL_length q (l.take k) (l3.take k))
      have hle : (fitL q (l.take k) (l3.take k)).length ≤ 4096 := by have := hfl.out; rw [List.length_take] at this; omega
      clear hx hxR hat hfl e9 hy hay e8
      generalize fitL q (l.take k) (l3.take k) = F at *
      cases hqx : q x1 with
      | true =>
        rw [hqx] at hcall HS
        rw [if_pos rfl] at HS
        go_wp2_with (first | (at_builtin; refine wpList_append_own _ rfl _ _ _ rfl U.heap.size 30 i0 (VV 0 0 0 ⟨#[]⟩ false 0) 6 56 Tryz.underlying24 hi0 hz0 hz1 hz2 rfl (by decide) _ F.length (vcells F) rfl (own_ext HW.out (by with_reducible repeat (first | exact Ext.refl _ | apply Ext.drew | apply Ext.alloc | apply Ext.more_))) _ 1 1 [.int .i64 y1.kind, .int .i64 y1.mant, .int .i64 y1.exp, .string y1.text, .bool y1.truth, .int .i64 y1.fault] rfl rfl (new_cells_at _ _ _ (by first | rfl | (simp; done)) rfl _) (vcells_one (l := [y1])) (by simp only [maxLen]; omega) (by omega) (by simp; omega) ?_; intro v4 w4 ho4 hg4 _) | (refine (hcall _ ?_).mono ?_; (focus (exact hxr.trans (by with_reducible repeat (first | exact Ext.refl _ | apply Ext.drew | apply Ext.alloc | apply Ext.more_)))); rintro e w' ⟨rfl, hb⟩; obtain ⟨os3, d3, rfl⟩ := hb.more; clear hb))
        have hx4 := ext_grownN (hxr.trans (by with_reducible repeat (first | exact Ext.refl _ | apply Ext.drew | apply Ext.alloc | apply Ext.more_))) (own_ext HW.out (by with_reducible repeat (first | exact Ext.refl _ | apply Ext.drew | apply Ext.alloc | apply Ext.more_))) hg4
        refine ⟨⟨k + 1, by omega, by go_num, ?_, hx4⟩, by simp [intOf]; omega⟩
        show World.ownsRow _ _ _ _ _ _ _
        rw [HS.out, vcells_append, List.length_append]
        exact ho4
      | false =>
        rw [hqx] at hcall HS
        rw [if_neg (by simp), List.append_nil] at HS
        go_wp2_with (refine (hcall _ ?_).mono ?_; (focus (exact hxr.trans (by with_reducible repeat (first | exact Ext.refl _ | apply Ext.drew | apply Ext.alloc | apply Ext.more_)))); rintro e w' ⟨rfl, hb⟩; obtain ⟨os3, d3, rfl⟩ := hb.more; clear hb)
        refine ⟨⟨k + 1, by omega, by go_num, ?_, hxr.trans (by with_reducible repeat (first | exact Ext.refl _ | apply Ext.drew | apply Ext.alloc | apply Ext.more_))⟩, by simp [intOf]; omega⟩
        show World.ownsRow _ _ _ _ _ _ _
        rw [HS.out]
        exact own_ext HW.out (by with_reducible repeat (first | exact Ext.refl _ | apply Ext.drew | apply Ext.alloc | apply Ext.more_))
    · obtain rfl : k = n3 := by omega
      have htk : l.take k = l := by rw [← HLN.out]; exact List.take_length
      have htk3 : l3.take k = l3 := by rw [← HLN3.out]; exact List.take_length
      rw [htk, htk3] at HW
      obtain ⟨D, c, rfl, hrd, hcD⟩ := Rd.of_own HW.out
      have hfl := fitL_length q l l3
      have hln := HLN.out
      have hFR : ∀ v ∈ fitL q l l3, v.right := fun v hv => HR3.out v (fitL_mem q hv)
      have hle : (fitL q l l3).length ≤ 4096 := by omega
      have hin : ArrIn wr D (fitL q l l3).length c (fitL q l l3) := ⟨hrd.mono (Nat.zero_le _), rfl, hcD, by omega, fun y hy => (hFR y hy).ok⟩
      have hXo := HX.out
      have hnr := numsL_rt hFR
      have hlen9 := numsL_length (fitL q l l3)
      have hno9 : ffL (fitL q l l3) = 0 → noF (fitL q l l3) := fun h0 => noF_of hFR h0
      have hx0 : Ext w wr := HXU.out.trans hxr
      have hrw := (hxr.block (lt_of_block HRW.out)).trans HRW.out
      have o0 := cell_of_row _ _ 0 _ _ _ hrw
      have o1 := cell_of_row _ _ 1 _ _ _ hrw
      have o2 := cell_of_row _ _ 2 _ _ _ hrw
      have g0 := frozen_of_row _ _ 0 _ _ hrw
      have g1 := frozen_of_row _ _ 1 _ _ hrw
      have g2 := frozen_of_row _ _ 2 _ _ hrw
      have lor := lt_of_block hrw
      clear hrw
      clear HW hrd hFR hfl hln htk htk3
      generalize fitL q l l3 = FL at *
      by_cases h0 : ffL FL = 0
      · rw [if_pos h0] at hXo
        have hno := hno9 h0
        have hone : ∀ W, Calls Tryz.prog 64 #[VV (sumV (numsL FL)).kind (sumV (numsL FL)).mant (sumV (numsL FL)).exp (sumV (numsL FL)).text (sumV (numsL FL)).truth (sumV (numsL FL)).fault] W (ResA W X) := fun W => by rw [← hXo]; exact one_res _ W (right_sumV hnr).ok (right_sumV hnr)
        have HNR := Lib.hid (And.intro hnr hlen9)
        have HIN := Lib.hid hin
        clear hXo HX hnr hlen9 hno9 hin
        go_upto_region 17 with (go_at_call 95; (with_reducible refine (knumbers_any _ _ _ FL _ (HIN.out.ext (by with_reducible repeat (first | exact Ext.refl _ | apply Ext.drew | apply Ext.alloc | apply Ext.more_))) (by omega)).mono ?_); rw [h0]; rintro e w' ⟨v, rfl, hnm, hb⟩; obtain ⟨A2, c2, rfl, hin2⟩ := (hnm hno).in (by have := HNR.out.2; omega) HNR.out.1; obtain ⟨os4, d4, rfl⟩ := hb.more; clear hb hnm)
        have hsum := fun W (hT : Tab W) (hN : NmIn W A2 (numsL FL).length c2 (numsL FL)) => ksum_any A2 (numsL FL).length c2 (numsL FL) W hT hN
        have HI2 := Lib.hid hin2
        clear hin2
        generalize numsL FL = L at *
        generalize L.length = n8 at *
        generalize sumV L = y at *
        go_wp2_with (first | (go_at_call 64; (with_reducible refine (hone _).mono ?_); rintro e w' ⟨D2, m2, cc2, rfl, hD, hb⟩; obtain ⟨os5, d5, rfl⟩ := hb.more; clear hb; have hDr := hD.rd) | (go_at_call 39; (refine (hsum _ ?_ ?_).mono ?_); (focus (exact HTU.out.ext (hxr.trans (by with_reducible repeat (first | exact Ext.refl _ | apply Ext.drew | apply Ext.alloc | apply Ext.more_))))); (focus (exact HI2.out.ext (by repeat (first | (with_reducible (first | exact Ext.refl _ | exact ext_d _ _ _ _ | exact ext_app _ _ _ _ _ | exact ext_app2 _ _ _ _ _ _)) | ((with_reducible refine ext_suffix ⟨_, ?_⟩); (try simp only [Array.append_assoc]); rfl) | (with_reducible (first | apply Ext.drew | apply Ext.alloc | apply Ext.more_)))))); rintro e w' ⟨rfl, hb⟩; obtain ⟨os6, d6, rfl⟩ := hb.more; clear hb))
        exact bodyPost_ret (v := AV X.R X.C (.slice D2 m2 cc2)) (by simp [results, Tryz.results55, go_sem, o0, o1, o2, lor]) rfl ⟨D2, m2, cc2, rfl, ⟨(by (try simp only [more_more] at hDr); (try simp only [drew_more] at hDr); (try simp only [more_drew] at hDr); (try simp only [Array.append_assoc] at hDr); exact Rd.swap hDr (by first | (simp; done) | (simp; omega) | omega) (by first | (simp; done) | (simp; omega) | omega) (by first | (simp; done) | (simp; omega) | omega)), hD.len, hD.cap, hD.small, hD.ok⟩, Ext.more_ (Ext.set (Ext.set (Ext.set hx0 _ (Nat.le_refl _)) _ (Nat.le_refl _)) _ (Nat.le_refl _)) _ _⟩
      · rw [if_neg h0] at hXo
        have hfa := fun W => kfault_any (ffL FL) W
        rw [hXo] at hfa
        have HIN := Lib.hid hin
        clear hXo HX hnr hlen9 hno9 hin
        generalize hff : ffL FL = f at *
        have h0' : (f != 0) = true := by simpa using h0
        have h0'' : (f == 0) = false := by simpa using h0
        go_upto_region 17 with (go_at_call 95; (with_reducible refine (knumbers_any _ _ _ FL _ (HIN.out.ext (by with_reducible repeat (first | exact Ext.refl _ | apply Ext.drew | apply Ext.alloc | apply Ext.more_))) (by omega)).mono ?_); rw [hff]; rintro e w' ⟨v, rfl, hnm, hb⟩; obtain ⟨os4, d4, rfl⟩ := hb.more; clear hb hnm)
        clear hff HIN
        go_wp2_with (go_at_call 22; (with_reducible refine (hfa _).mono ?_); rintro e w' ⟨D2, m2, cc2, rfl, hD, hb⟩; obtain ⟨os5, d5, rfl⟩ := hb.more; clear hb; have hDr := hD.rd)
        exact bodyPost_ret (v := AV X.R X.C (.slice D2 m2 cc2)) (by simp [results, Tryz.results55, go_sem, o0, o1, o2, lor]) rfl ⟨D2, m2, cc2, rfl, ⟨(by (try simp only [more_more] at hDr); (try simp only [drew_more] at hDr); (try simp only [more_drew] at hDr); (try simp only [Array.append_assoc] at hDr); exact Rd.swap hDr (by first | (simp; done) | (simp; omega) | omega) (by first | (simp; done) | (simp; omega) | omega) (by first | (simp; done) | (simp; omega) | omega)), hD.len, hD.cap, hD.small, hD.ok⟩, Ext.more_ (Ext.set (Ext.set (Ext.set hx0 _ (Nat.le_refl _)) _ (Nat.le_refl _)) _ (Nat.le_refl _)) _ _⟩
set_option maxHeartbeats 4000000 in
theorem ksumIf_shape (A : Option Addr) (n cap : Nat) (xs : List Ar) (w : World) (htab : Tab w) (hft : FTab w) (h : ArgsIn w A n cap xs) (hn : n = 3) (h4 : (argV xs 1).kind ≠ 4) (hsm : ((argN xs 2).R == (argN xs 0).R && (argN xs 2).C == (argN xs 0).C) = false) :
    Calls Tryz.prog 55 #[.slice A n cap] w fun e w' => ResA w (sumIfO xs) e w' := by
  subst hn
  obtain ⟨i0, hi0, hz0, hz1, hz2⟩ := info_parts info_val
  have hxl := h.len
  have hcap := h.cap
  obtain ⟨R, C, l, b1, off1, n1, cap1, b, off, x0, ha0, rfl, ⟨v0, v1, v2⟩, hn1, hc1, _, _, _, hbl, hb1, _, _, harr, _⟩ := h.first (k := 0) (by omega)
  obtain ⟨R', C', l', b2, off2, n2, cap2, b', off', x, ha1, e1, ⟨w0, w1, w2⟩, hn2, hc2, ⟨y0, y1, y2, y3, y4, y5⟩, hgv, hxr, _, hb2, hav, _, _, _⟩ := h.first (k := 1) (by omega)
  obtain ⟨rfl, rfl⟩ : b = b' ∧ off = off' := by simpa using e1
  obtain ⟨R3, C3, l3, b3, off3, n3, cap3, b', off', x03, ha3, e3, ⟨t0, t1, t2⟩, hn3, hc3, _, _, _, hbl3, hb3, _, _, harr3, _⟩ := h.first (k := 2) (by omega)
  obtain ⟨rfl, rfl⟩ : b = b' ∧ off = off' := by simpa using e3
  simp only [Nat.reduceMul] at t0 t1 t2
  have hln3 := harr3.len
  have hright3 := (h.all _ (List.mem_of_getElem? ha3)).right
  obtain ⟨q1, q2, q3, q4, q5⟩ := rightA_nat.1 hright3
  simp only at q1 q2 q3 q4 q5
  have hN2 : argN xs 2 = ⟨R3, C3, l3⟩ := by unfold argN; rw [ha3]
  rw [hav] at h4
  simp only [Nat.zero_mul, Nat.add_zero, Nat.one_mul] at v0 v1 v2 w0 w1 w2
  have hln := harr.len
  have hright := (h.all _ (List.mem_of_getElem? ha0)).right
  obtain ⟨r1, r2, r3, r4, r5⟩ := rightA_nat.1 hright
  simp only at r1 r2 r3 r4 r5
  have hN0 : argN xs 0 = ⟨R, C, l⟩ := by unfold argN; rw [ha0]
  have hcr := fun W hW => criterion_any x W hxr h4 hW
  have hsr := right_crit hxr
  obtain ⟨X, hX⟩ : ∃ X, sumIfO xs = X := ⟨_, rfl⟩
  rw [hX]
  have hfa := fun W => kfault_any 2 W
  have hXX := hX
  unfold sumIfO summedN at hXX
  have hx3 : xs.length = 3 := by omega
  rw [hav, if_neg h4, if_pos hx3, if_pos hsm] at hXX
  rw [hXX] at hfa
  rw [hN2, hN0] at hsm
  have hal := fun W => kalike_any R3 C3 R C (some ⟨b3, off3, none⟩) (some ⟨b1, off1, none⟩) n3 cap3 n1 cap1 W
  simp only at hsm
  simp only [kbeq_cast, hsm] at hal
  have HT := Lib.hid htab
  have HF := Lib.hid hft
  clear htab hft hX hXX h ha0 ha1 ha3 hav hgv hN0 hN2 r5 q5 harr harr3 hln hln3 e1 e3 hright hright3 h4 hxr hsm
  go_enter Tryz.func55, Tryz.ntmps55
  go_upto_region 7 with (first | (go_at_call 113; (with_reducible refine (hcr _ (HF.out.ext (by with_reducible repeat (first | exact Ext.refl _ | apply Ext.drew | apply Ext.alloc | apply Ext.more_)))).mono ?_); rintro e w' ⟨p1, p2, rfl, hc, hp1, hp2, hb⟩; obtain ⟨os1, d1, rfl⟩ := hb.more; clear hb))
  refine wp_plan (S := Ext _) [(0, 0), (1, 0), (2, 0), (3, 0), (4, 1), (5, 0)] [] (by kernel_rfl) (by kernel_rfl) (by kernel_rfl) (fun _ _ d _ _ h => by cases d <;> exact h) (Ext.drew (Ext.refl _)) ?_
  iterate 4 ((refine wpPl_read (v := ?_) rfl ?_ (fun _ h => ?_) ?_; rotate_left 1; rfl; (obtain ⟨_, _, rfl⟩ := h.more; go_simp; try rfl)); try simp only [Act.put, zqA, zqB, zqC])
  (refine wpPl_eff rfl ?_ (fun K hK => ?_); rfl; go_simp; refine (hal _).mono ?_; rintro e w' ⟨rfl, hb⟩; obtain ⟨os2, d2, rfl⟩ := hb.more; clear hb; refine hK _ _ ?_ ?_; (repeat (first | (with_reducible (first | exact Ext.refl _ | exact ext_d _ _ _ _ | exact ext_app _ _ _ _ _ | exact ext_app2 _ _ _ _ _ _ | exact ext_app3 _ _ _ _ _ _ _ | exact ext_app4 _ _ _ _ _ _ _ _ | exact ext_app5 _ _ _ _ _ _ _ _ _)) | ((with_reducible refine ext_suffix ⟨_, ?_⟩); (try simp only [Array.append_assoc]); rfl) | (with_reducible (first | apply Ext.drew | apply Ext.alloc | apply Ext.more_)) | apply Ext.drew | apply Ext.alloc | apply Ext.more_)))
  try simp only [Act.put, zqA, zqB, zqC]
  (refine wpPl_read (v := ?_) rfl ?_ (fun _ h => ?_) ?_; rotate_left 1; rfl; (obtain ⟨_, _, rfl⟩ := h.more; go_simp; try rfl))
  try simp only [Act.put, zqA, zqB, zqC]
  refine wpPl_nil ?_
  go_wp2_with (go_at_call 22; (with_reducible refine (hfa _).mono ?_); rintro e w' ⟨D2, m2, cc2, rfl, hD, hb⟩; obtain ⟨os5, d5, rfl⟩ := hb.more; clear hb; have hDr := hD.rd)
  exact bodyPost_ret (v := AV X.R X.C (.slice D2 m2 cc2)) (by simp [results, Tryz.results55, go_sem]) rfl ⟨D2, m2, cc2, rfl, ⟨(by (try simp only [more_more] at hDr); (try simp only [drew_more] at hDr); (try simp only [more_drew] at hDr); (try simp only [Array.append_assoc] at hDr); exact Rd.swap hDr (by first | (simp; done) | (simp; omega) | omega) (by first | (simp; done) | (simp; omega) | omega) (by first | (simp; done) | (simp; omega) | omega)), hD.len, hD.cap, hD.small, hD.ok⟩, by repeat (first | (with_reducible (first | exact Ext.refl _ | exact ext_d _ _ _ _ | exact ext_app _ _ _ _ _ | exact ext_app2 _ _ _ _ _ _)) | ((with_reducible refine ext_suffix ⟨_, ?_⟩); (try simp only [Array.append_assoc]); rfl) | (with_reducible (first | apply Ext.drew | apply Ext.alloc | apply Ext.more_)))⟩
set_option maxHeartbeats 2000000 in
theorem ksumIf_bad (A : Option Addr) (n cap : Nat) (xs : List Ar) (w : World) (h : ArgsIn w A n cap xs) (hn : 2 ≤ n) (h4 : (argV xs 1).kind = 4) :
    Calls Tryz.prog 55 #[.slice A n cap] w fun e w' => ResA w (sumIfO xs) e w' := by
  obtain ⟨R, C, l, b1, off1, n1, cap1, b, off, x, ha, rfl, ⟨v0, v1, v2⟩, hn1, hc1, ⟨y0, y1, y2, y3, y4, y5⟩, hgv, hxr, hbl, hb1, hav, _, _, _⟩ := h.first (k := 1) (by omega)
  have hcap := h.cap
  have hsm := h.small
  simp only [Nat.one_mul] at v0 v1 v2
  obtain ⟨X, hX⟩ : ∃ X, sumIfO xs = X := ⟨_, rfl⟩
  rw [hX]
  unfold sumIfO at hX
  rw [hav] at hX h4
  rw [if_pos h4] at hX
  have hcb := fun W => criterion_bad x W h4
  have hfa := fun W => kfault_any x.fault W
  rw [hX] at hfa
  have hne : (x.fault != 0) = true := by have := (right_cases hxr).2.2.2 h4; simp; omega
  clear hX h4 hxr h ha hgv hav
  go_enter Tryz.func55, Tryz.ntmps55
  go_wp2_with (first | (go_at_call 113; (with_reducible refine (hcb _).mono ?_); rintro e w' ⟨rfl, hb⟩; obtain ⟨os1, d1, rfl⟩ := hb.more; clear hb) | (go_at_call 22; (with_reducible refine (hfa _).mono ?_); rintro e w' ⟨D2, m2, cc2, rfl, hD, hb⟩; obtain ⟨os5, d5, rfl⟩ := hb.more; clear hb; have hDr := hD.rd))
  exact bodyPost_ret (v := AV X.R X.C (.slice D2 m2 cc2)) (by simp [results, Tryz.results55, go_sem]) rfl ⟨D2, m2, cc2, rfl, ⟨(by (try simp only [more_more] at hDr); (try simp only [drew_more] at hDr); (try simp only [more_drew] at hDr); (try simp only [Array.append_assoc] at hDr); exact Rd.swap hDr (by first | (simp; done) | (simp; omega) | omega) (by first | (simp; done) | (simp; omega) | omega) (by first | (simp; done) | (simp; omega) | omega)), hD.len, hD.cap, hD.small, hD.ok⟩, by with_reducible repeat (first | exact Ext.refl _ | apply Ext.drew | apply Ext.alloc | apply Ext.more_)⟩
theorem ksumIf_any (A : Option Addr) (n cap : Nat) (xs : List Ar) (w : World) (htab : Tab w) (hft : FTab w) (h : ArgsIn w A n cap xs) (h2 : 2 ≤ n) (h3 : n ≤ 3) :
    Calls Tryz.prog 55 #[.slice A n cap] w fun e w' => ResA w (sumIfO xs) e w' := by
  by_cases h4 : (argV xs 1).kind = 4
  · exact ksumIf_bad A n cap xs w h h2 h4
  · by_cases hn : n = 2
    · exact ksumIf_two A n cap xs w htab hft h hn h4
    · have hn : n = 3 := by omega
      cases hs : ((argN xs 2).R == (argN xs 0).R && (argN xs 2).C == (argN xs 0).C) with
      | true => exact ksumIf_three A n cap xs w htab hft h hn h4 hs
      | false => exact ksumIf_shape A n cap xs w htab hft h hn h4 hs
theorem mcall_sumif (A : Option Addr) (n cap : Nat) (gs : List GA) (w : World) (htab : Tab w) (hft : FTab w) (h : ArgsG w A n cap gs) : Calls Tryz.prog 14 #[.string ⟨#[83, 85, 77, 73, 70]⟩, .slice A n cap] w (CallG w (callX 2 3 gs (sumIfO (arsOf gs)))) :=
  kcall_any ⟨#[83, 85, 77, 73, 70]⟩ 2 3 55 (fun _ => #[]) (by decide) (fun _ => rfl) (fun args W => by go_simp) (by decide) (by decide) A n cap gs w h _ (fun hr h1 h2 p W hW _ => ksumIf_any A n cap _ W (htab.ext hW) (hft.ext hW) ((arsOf_in h hr).ext hW) h1 h2)
end Go.Proofs.YtkcoikelcmpceaaGreatDoor
namespace Go.Proofs.YtkcoikelcmpceaaGreatDoor
open Go.RowKit NM
theorem textL_small {m e : Int} : ∀ b ∈ textL m e, b.toNat ≤ 57 := by
  have hd : ∀ b ∈ Lib.decDigits m.natAbs, b.toNat ≤ 57 := by
    intro b hb
    rw [dec_dig, List.mem_map] at hb
    obtain ⟨d, hd, rfl⟩ := hb
    have h := dig0_all m.natAbs d hd
    rw [UInt8.toNat_ofNat']
    omega
  have h0 : ∀ k, ∀ b ∈ List.replicate k (48 : UInt8), b.toNat ≤ 57 := fun k b hb => by rw [(List.mem_replicate.1 hb).2]; decide
  intro b hb
  unfold textL at hb
  rcases List.mem_append.1 hb with hb | hb
  · split at hb
    · rw [List.mem_singleton.1 hb]; decide
    · cases hb
  · split at hb
    · rcases List.mem_append.1 hb with hb | hb
      · exact hd b hb
      · exact h0 _ b hb
    · split at hb
      · rcases List.mem_append.1 hb with hb | hb
        · exact hd b (List.mem_of_mem_take hb)
        · rcases List.mem_cons.1 hb with rfl | hb
          · decide
          · exact hd b (List.mem_of_mem_drop hb)
      · rcases List.mem_cons.1 hb with rfl | hb
        · decide
        · rcases List.mem_cons.1 hb with rfl | hb
          · decide
          · rcases List.mem_append.1 hb with hb | hb
            · exact h0 _ b hb
            · exact hd b hb
theorem textS_head {m e : Int} (h : Rt m e) : ∃ b l, (textS m e).data.toList = b :: l ∧ b.toNat ≤ 57 := by
  have h1 : (textS m e).data.toList = textL m e := by unfold textS textB; rw [if_pos h]
  cases hl : textL m e with
  | nil =>
    have := text_back h
    rw [hl] at this
    have h0 : parM ([] : List Nat) = none := rfl
    rw [List.map_nil, h0] at this
    cases this
  | cons b l => exact ⟨b, l, by rw [h1, hl], textL_small b (by rw [hl]; exact List.mem_cons_self)⟩
/-- A criterion's text. -/
def critB (c : CS) (n : Nm) : ByteArray := c.str ++ textS n.1 n.2
def critV (c : CS) (n : Nm) : Val := ⟨2, 0, 0, critB c n, false, 0⟩
theorem crit_list (c : CS) (n : Nm) : (critB c n).data.toList = c.key ++ (textS n.1 n.2).data.toList := by
  unfold critB CS.str
  rw [ByteArray.data_append, Array.toList_append]
theorem crit_sign {c : CS} {n : Nm} (h : Rt n.1 n.2) : csOf (critB c n) = some c := by
  obtain ⟨b, l, hb, h57⟩ := textS_head h
  have n1 : ((61 : UInt8) == b) = false := by
    cases hq : ((61 : UInt8) == b) with
    | false => rfl
    | true => obtain rfl := eq_of_beq hq; exact absurd h57 (by decide)
  have n2 : ((62 : UInt8) == b) = false := by
    cases hq : ((62 : UInt8) == b) with
    | false => rfl
    | true => obtain rfl := eq_of_beq hq; exact absurd h57 (by decide)
  unfold csOf
  rw [crit_list, hb]
  cases c <;> simp [csL, CS.key, Lib.hasPrefix, List.isPrefixOf, n1, n2]
theorem crit_of {c : CS} {n : Nm} (h : Rt n.1 n.2) : critO (critV c n) = (c, nV n) := by
  obtain ⟨b, l, hb, _⟩ := textS_head h
  unfold critO
  rw [if_pos (show (critV c n).kind = 2 from rfl)]
  show (match csOf (critB c n) with | some c' => (c', readV ⟨(Lib.trimPrefix (critB c n).data.toList c'.key).toArray⟩) | none => (CS.eq, critV c n)) = _
  rw [crit_sign h]
  show (c, readV ⟨(Lib.trimPrefix (critB c n).data.toList c.key).toArray⟩) = _
  have ht : Lib.trimPrefix (critB c n).data.toList c.key = (textS n.1 n.2).data.toList := by
    unfold Lib.trimPrefix Lib.hasPrefix
    rw [crit_list, if_pos (by rw [List.isPrefixOf_iff_prefix]; exact List.prefix_append _ _), List.drop_left]
  rw [ht, show (ByteArray.mk (textS n.1 n.2).data.toList.toArray) = textS n.1 n.2 from rfl, read_num (back_textS h) (by rw [hb]; simp)]
theorem right_critV {c : CS} {n : Nm} (h : Rt n.1 n.2) : (critV c n).right := by
  have h1 := right_text (critB c n)
  have hs : ¬ 255 < (critB c n).size := by
    have e : (critB c n).size = c.key.length + (textS n.1 n.2).size := by
      have h9 := congrArg List.length (crit_list c n)
      rw [List.length_append, Array.length_toList, Array.length_toList] at h9
      exact h9
    have h2 := textS_size h
    have h3 : c.key.length ≤ 2 := by cases c <;> decide
    omega
  unfold textV at h1
  rw [if_neg hs] at h1
  exact h1
/-- The other sign. -/
def CS.other : CS → CS
  | .ge => .lt | .lt => .ge | .le => .gt | .gt => .le | .eq => .ne | .ne => .eq
theorem holds_other (c : CS) (n : Int) : c.other.holds n = !c.holds n := by
  cases c <;> (simp only [CS.other, CS.holds]; rw [Bool.eq_iff_iff]; simp; try omega)
theorem fits_other (c : CS) (a b : Nm) : kfitB c.other (nV a) (nV b) = !kfitB c (nV a) (nV b) := by
  unfold kfitB
  rw [if_pos (show (nV b).kind = (nV a).kind from rfl), if_pos (show (nV b).kind = (nV a).kind from rfl), holds_other]
theorem fitL_self (q : Val → Bool) : ∀ l : List Val, fitL q l l = l.filter q
  | [] => rfl
  | a :: l => by
    unfold fitL
    rw [fitL_self q l, List.filter_cons]
theorem filt_nW (q : Val → Bool) : ∀ l : List Int, (l.map nW).filter q = (l.filter (fun i => q (nW i))).map nW
  | [] => rfl
  | a :: l => by
    have ih := filt_nW q l
    rw [List.map_cons]
    cases h : q (nW a) with
    | true => rw [List.filter_cons_of_pos h, List.filter_cons_of_pos (by exact h), ih]; rfl
    | false => rw [List.filter_cons_of_neg (by simp [h]), List.filter_cons_of_neg (by simp [h]), ih]
theorem filt_sum (f : Int → Bool) : ∀ l : List Int, (l.filter f).sum + (l.filter (fun i => !f i)).sum = l.sum
  | [] => rfl
  | a :: l => by
    have ih := filt_sum f l
    cases h : f a with
    | true => rw [List.filter_cons_of_pos h, List.filter_cons_of_neg (by simp [h]), List.sum_cons, List.sum_cons]; omega
    | false => rw [List.filter_cons_of_neg (by simp [h]), List.filter_cons_of_pos (by simp [h]), List.sum_cons, List.sum_cons]; omega
theorem filt_len (f : Int → Bool) : ∀ l : List Int, (l.filter f).length + (l.filter (fun i => !f i)).length = l.length
  | [] => rfl
  | a :: l => by
    have ih := filt_len f l
    cases h : f a with
    | true => rw [List.filter_cons_of_pos h, List.filter_cons_of_neg (by simp [h]), List.length_cons, List.length_cons]; omega
    | false => rw [List.filter_cons_of_neg (by simp [h]), List.filter_cons_of_pos (by simp [h]), List.length_cons, List.length_cons]; omega
/-- The whole numbers that fit. -/
def fitI (c : CS) (n : Nm) (l : List Int) : List Int := l.filter fun i => kfitB c (nV n) (nW i)
theorem fitI_mem {c : CS} {n : Nm} {l : List Int} {i : Int} (h : i ∈ fitI c n l) : i ∈ l := (List.mem_filter.1 h).1
theorem fitI_other (c : CS) (n : Nm) (l : List Int) : fitI c.other n l = l.filter fun i => !kfitB c (nV n) (nW i) := by
  unfold fitI; congr 1; funext i; exact fits_other c n (wholeN i)
theorem fitI_sum (c : CS) (n : Nm) (l : List Int) : (fitI c n l).sum + (fitI c.other n l).sum = l.sum := by
  rw [fitI_other]; exact filt_sum _ l
theorem fitI_len (c : CS) (n : Nm) (l : List Int) : (fitI c n l).length + (fitI c.other n l).length = l.length := by
  rw [fitI_other]; exact filt_len _ l
theorem fitI_le (c : CS) (n : Nm) (l : List Int) : (fitI c n l).length ≤ l.length := List.length_filter_le _ _
theorem countif_row {c : CS} {n : Nm} (h : Rt n.1 n.2) (l : List Int) (D : Option Addr) (k cc q : Nat) : countIfO [kAr (l.map nW) D k cc, kOne (critV c n) q] = oneA (nV (wholeN ((fitI c n l).length : Int))) := by
  unfold countIfO
  have h1 : argV [kAr (l.map nW) D k cc, kOne (critV c n) q] 1 = critV c n := rfl
  have h0 : (argN [kAr (l.map nW) D k cc, kOne (critV c n) q] 0).l = l.map nW := rfl
  rw [h1, h0, if_neg (show ¬ (critV c n).kind = 4 from (by decide : ¬ (2 : Int) = 4)), crit_of h]
  unfold countedO
  rw [filt_nW, List.length_map]
  rfl
theorem fit_sum {c : CS} {n : Nm} (h : Rt n.1 n.2) (l : List Int) {B : Nat} (hb : ∀ i ∈ l, i.natAbs ≤ B) (hl : l.length * B < T 15) :
    (let L := fitL (kfitB (critO (critV c n)).1 (critO (critV c n)).2) (l.map nW) (l.map nW)
    if ffL L = 0 then oneA (sumV (numsL L)) else aloneO (ffL L)) = oneA (nV (wholeN (fitI c n l).sum)) := by
  rw [crit_of h]
  simp only
  rw [fitL_self, filt_nW, ffL_wholes, numsL_wholes, if_pos rfl]
  unfold sumV
  rw [← whole_zero, sum_wholes (B := B) _ 0 (fun i hi => hb i (List.mem_filter.1 hi).1) (by have := fitI_le c n l; have h2 := Nat.mul_le_mul_right B this; unfold fitI at h2; simp only [Int.natAbs_zero]; omega), Int.zero_add]
  rfl
theorem sumif_two {c : CS} {n : Nm} (h : Rt n.1 n.2) (l : List Int) {B : Nat} (hb : ∀ i ∈ l, i.natAbs ≤ B) (hl : l.length * B < T 15) (D : Option Addr) (k cc q : Nat) : sumIfO [kAr (l.map nW) D k cc, kOne (critV c n) q] = oneA (nV (wholeN (fitI c n l).sum)) := by
  have h1 : argV [kAr (l.map nW) D k cc, kOne (critV c n) q] 1 = critV c n := rfl
  have h0 : argN [kAr (l.map nW) D k cc, kOne (critV c n) q] 0 = ⟨1, k, l.map nW⟩ := rfl
  have h2 : summedN [kAr (l.map nW) D k cc, kOne (critV c n) q] = ⟨1, k, l.map nW⟩ := by unfold summedN; rw [if_neg (by simp)]; exact h0
  unfold sumIfO
  rw [h1, h0, h2, if_neg (show ¬ (critV c n).kind = 4 from (by decide : ¬ (2 : Int) = 4)), if_neg (by simp)]
  exact fit_sum h l hb hl
theorem sumif_three {c : CS} {n : Nm} (h : Rt n.1 n.2) (l : List Int) {B : Nat} (hb : ∀ i ∈ l, i.natAbs ≤ B) (hl : l.length * B < T 15) (D : Option Addr) (k cc q : Nat) : sumIfO [kAr (l.map nW) D k cc, kOne (critV c n) q, kAr (l.map nW) D k cc] = oneA (nV (wholeN (fitI c n l).sum)) := by
  have h1 : argV [kAr (l.map nW) D k cc, kOne (critV c n) q, kAr (l.map nW) D k cc] 1 = critV c n := rfl
  have h0 : argN [kAr (l.map nW) D k cc, kOne (critV c n) q, kAr (l.map nW) D k cc] 0 = ⟨1, k, l.map nW⟩ := rfl
  have h2 : summedN [kAr (l.map nW) D k cc, kOne (critV c n) q, kAr (l.map nW) D k cc] = ⟨1, k, l.map nW⟩ := by unfold summedN; rw [if_pos (by simp)]; rfl
  unfold sumIfO
  rw [h1, h0, h2, if_neg (show ¬ (critV c n).kind = 4 from (by decide : ¬ (2 : Int) = 4)), if_neg (by simp)]
  exact fit_sum h l hb hl
end Go.Proofs.YtkcoikelcmpceaaGreatDoor
namespace Go.Proofs.YtkcoikelcmpceaaGreatDoor
open Go.RowKit
theorem kvar_at (w : World) (o : Obj) (osa osb : Array Obj) (da db : Nat) {W : World} (hW : W = more ((more w osa da).alloc o) osb db) : W.heap[w.heap.size + osa.size]? = some o ∧ Ext w W := by
  subst hW
  have x0 : Ext ((more w osa da).alloc o) (more ((more w osa da).alloc o) osb db) := by with_reducible repeat (first | exact Ext.refl _ | apply Ext.drew | apply Ext.alloc | apply Ext.more_)
  refine ⟨?_, by with_reducible repeat (first | exact Ext.refl _ | apply Ext.drew | apply Ext.alloc | apply Ext.more_)⟩
  have h := heap_alloc_new (more w osa da) o
  rw [show (more w osa da).heap.size = w.heap.size + osa.size by simp] at h
  rw [x0.block (b := w.heap.size + osa.size) (by simp)]
  exact h
theorem kheap_var (w : World) (o o' : Obj) (osa osb : Array Obj) (da db : Nat) {b : Nat} (hb : b ≠ w.heap.size + osa.size) :
    (more ((more w osa da).alloc o') osb db).heap[b]? = (more ((more w osa da).alloc o) osb db).heap[b]? := by
  simp only [more, World.alloc, Array.getElem?_append, Array.getElem?_push, Array.size_push, Array.size_append]
  by_cases h : b < w.heap.size + osa.size + 1
  · rw [if_pos h, if_pos h, if_neg hb, if_neg hb]
  · rw [if_neg h, if_neg h]
theorem ArrIn.kvar3 {w : World} {osa osb : Array Obj} {da db : Nat} {p q r u v x : Value} {t : TypeId} {A : Option Addr} {n cap : Nat} {l : List Val}
    (h : ArrIn (more ((more w osa da).alloc (.cells #[p, q, r] t)) osb db) A n cap l) : ArrIn (more ((more w osa da).alloc (.cells #[u, v, x] t)) osb db) A n cap l := by
  refine ⟨fun j y hu => ?_, h.len, h.cap, h.small, h.ok⟩
  obtain ⟨b', off, hA, hl, hc⟩ := h.rd j y hu
  refine ⟨b', off, hA, hl, ?_⟩
  have hne : b' ≠ w.heap.size + osa.size := by
    intro e
    cases l with
    | nil => simp [vcells] at hu
    | cons z l =>
      obtain ⟨b2, off2, hA', _, hc3⟩ := h.rd 3 (.string z.text) (by simp [vcells, Val.cells])
      rw [hA] at hA'
      simp only [Option.some.injEq, Addr.mk.injEq, and_true] at hA'
      obtain ⟨rfl, rfl⟩ := hA'
      subst e
      have hv := (kvar_at w (.cells #[p, q, r] t) osa osb da db rfl).1
      simp [World.cell?, hv] at hc3
  rw [← hc]
  exact World.cell?_of_block (a := ⟨b', off + j, none⟩) (kheap_var w _ _ osa osb da db hne)
end Go.Proofs.YtkcoikelcmpceaaGreatDoor
namespace Go.Proofs.YtkcoikelcmpceaaGreatDoor
open Go.RowKit NM
set_option maxHeartbeats 4000000 in
theorem fmathIfs_c (c : CS) (r : Int) (hcr : (c = .gt ∧ r = 0) ∨ (c = .lt ∧ r = 1) ∨ (c = .eq ∧ r = 2)) (A : Option Addr) (n cap : Nat) (l : List Int) (th wh : Int) (w : World) (htab : Tab w) (hft : FTab w) (h : IntsIn w .i16 (-32768) 32767 A n cap l) (hth : -32768 ≤ th ∧ th ≤ 32767) (hwh : 0 ≤ wh ∧ wh ≤ 255) (hrem : wh.tmod 3 = r) (hn0 : 1 ≤ n) (hn1 : n ≤ 60) :
    Calls Tryz.prog 4 #[.slice A n cap, .int .i16 th, .int .u8 wh] w fun e w' => e = .returned (.bool true) ∧ Ext w w' := by
  obtain ⟨i0, hi0, hz0, hz1, hz2⟩ := info_parts info_val
  have HT := Lib.hid htab
  have HF := Lib.hid hft
  have hsm := h.small
  have H := Lib.hid h
  have h1' : decide ((n : Int) < 1) = false := decide_eq_false (by omega)
  have h2' : decide ((60 : Int) < n) = false := decide_eq_false (by omega)
  have hw1 : IntKind.i64.wrap wh = wh := by rw [IntKind.wrap_i64]; omega
  have hw2 : IntKind.i64.wrap r = r := by rw [IntKind.wrap_i64]; omega
  have HCR := Lib.hid hcr
  clear htab hft h hcr
  go_enter Tryz.func4, Tryz.ntmps4
  go_upto_region 3 with (first | (go_at_call 7; (with_reducible refine (awake11_any _ (HT.out.ext (by with_reducible repeat (first | exact Ext.refl _ | apply Ext.drew | apply Ext.alloc | apply Ext.more_))) (HF.out.ext (by with_reducible repeat (first | exact Ext.refl _ | apply Ext.drew | apply Ext.alloc | apply Ext.more_)))).mono ?_); rintro e w' ⟨rfl, hb⟩; obtain ⟨osw1, dw1, rfl⟩ := hb.more; clear hb))
  go_cut [7, 36, 37, 38] (fun s7 s36 s37 s38 wx => ∃ p7 : Nat, s7 = .pointer (some ⟨p7, 0, none⟩) ∧ Ext w wx ∧ wx.cell? ⟨p7, 0, none⟩ = some (.string c.str) ∧ wx.cell? ⟨p7, 1, none⟩ = some (.string c.other.str))
  case first =>
    rcases HCR.out with ⟨rfl, rfl⟩ | ⟨rfl, rfl⟩ | ⟨rfl, rfl⟩
    all_goals
      go_wp2_with fail
      go_meet
      refine ⟨_, rfl, ?_, ?_, ?_⟩
      all_goals first | (simp [go_sem, CS.str, CS.key, CS.other]; done) | exact (by with_reducible repeat (first | exact Ext.refl _ | apply Ext.drew | apply Ext.alloc | apply Ext.more_))
  case rest =>
  obtain ⟨p7, rfl, hx7, s0, s1⟩ := hcut
  have hT15 : T 15 = 1000000000000000 := by decide
  have cmk : ∀ x W, x.natAbs < T 15 → Calls Tryz.prog 8 #[.int .i64 x, .int .i64 0] W fun e w' => e = .returned (.tuple #[NV (wholeN x).1 (wholeN x).2, .bool true]) ∧ Ext W w' := fun x W hx => by
    have h := rmake_any x 0 W (by unfold I64; omega)
    rw [show rnd (decide (x < 0)) x.natAbs false 0 = some (wholeN x) from (wholex hx).1] at h
    exact h
  have HM := Lib.hid cmk
  have hln := H.out.len
  have hcp := H.out.cap
  have HL := Lib.hid hln
  have HTC := Lib.hid (HT.out.ext hx7)
  have HFC := Lib.hid (HF.out.ext hx7)
  have HX7 := Lib.hid hx7
  have HC : Hid (IntsIn wc .i16 (-32768) 32767 A n cap l) := Lib.hid ⟨H.out.rd.ext hx7, H.out.len, H.out.cap, H.out.small, H.out.bd⟩
  have ls := lt_of_cell s0
  clear cmk hln h1' h2' hx7 HT HF H hrem hw1 hw2 hwh hT15
  go_upto_region 6 with fail
  go_loopw [8, 9] (fun v i wr => ∃ k : Nat, k ≤ n ∧ i = .int .i64 (k : Int) ∧ Hid (wr.ownsRow wc.heap.size 30 6 v k (vcells ((l.take k).map nW))) ∧ Ext wc wr) (fun _ i _ => n - (intOf i).toNat)
  case atStart => exact ⟨0, Nat.zero_le _, rfl, World.ownsRow_nil _ _ _ _, by with_reducible repeat (first | exact Ext.refl _ | apply Ext.drew | apply Ext.alloc | apply Ext.more_)⟩
  case round =>
    obtain ⟨k, hk, rfl, HW, hxr⟩ := hrel
    have hsz := hxr.size
    by_cases hlt : k < n
    · obtain ⟨x, hx⟩ : ∃ x, l[k]? = some x := ⟨_, List.getElem?_eq_getElem (by have := HL.out; omega)⟩
      have hxb := HC.out.bd x (List.mem_of_getElem? hx)
      have HS : Hid ((l.take (k + 1)).map nW = (l.take k).map nW ++ [nW x]) := Lib.hid (by rw [List.take_add_one, hx]; simp)
      obtain ⟨b, off, rfl, _, hcell⟩ := HC.out.rd k (.int .i16 x) (by rw [List.getElem?_map, hx]; rfl)
      replace hcell := hxr.cell_some hcell
      have hbl := lt_of_cell hcell
      have hmk := fun W => HM.out x W (by have : T 15 = 1000000000000000 := (by decide); omega)
      have hwx : IntKind.i64.wrap x = x := by rw [IntKind.wrap_i64]; omega
      clear hx
      have HP : Hid (nW x = ⟨1, (wholeN x).1, (wholeN x).2, ⟨#[]⟩, false, 0⟩) := Lib.hid rfl
      generalize nW x = X at *
      generalize wholeN x = p at *
      generalize (l.take k).map nW = O at *
      go_wp2_with (first | (go_at_call 8; (with_reducible refine (hmk _).mono ?_); rintro e w' ⟨rfl, hb⟩; obtain ⟨osm, dm, rfl⟩ := hb.more; clear hb) | (at_builtin; refine wpList_append_own _ rfl _ _ _ rfl wc.heap.size 30 i0 (VV 0 0 0 ⟨#[]⟩ false 0) 6 56 Tryz.underlying24 hi0 hz0 hz1 hz2 rfl (by decide) _ k (vcells O) rfl (own_ext HW.out (by with_reducible repeat (first | exact Ext.refl _ | apply Ext.drew | apply Ext.alloc | apply Ext.more_))) _ 1 1 [.int .i64 1, .int .i64 p.1, .int .i64 p.2, .string ⟨#[]⟩, .bool false, .int .i64 0] rfl rfl (new_cells_at _ _ _ (by first | rfl | (simp; done)) rfl _) (vcells_one (l := [⟨1, p.1, p.2, ⟨#[]⟩, false, 0⟩])) (by simp only [maxLen]; omega) (by omega) (by simp; omega) ?_; intro v4 w4 ho4 hg4 _))
      have hx4 := ext_grownN (hxr.trans (by with_reducible repeat (first | exact Ext.refl _ | apply Ext.drew | apply Ext.alloc | apply Ext.more_))) (own_ext HW.out (by with_reducible repeat (first | exact Ext.refl _ | apply Ext.drew | apply Ext.alloc | apply Ext.more_))) hg4
      refine ⟨⟨k + 1, by omega, by go_num, ?_, hx4⟩, by simp [intOf]; omega⟩
      show World.ownsRow _ _ _ _ _ _ _
      rw [HS.out, vcells_append, HP.out]
      exact ho4
    · obtain rfl : k = n := by omega
      have htk : l.take k = l := by rw [← HL.out]; exact List.take_length
      rw [htk] at HW
      obtain ⟨D, c9, rfl, hrd, hcD⟩ := Rd.of_own HW.out
      have hlk := HL.out
      have hbd : ∀ i ∈ l, i.natAbs ≤ 32768 := fun i hi => by have := HC.out.bd i hi; omega
      have hT15 : T 15 = 1000000000000000 := by decide
      have hvr : ∀ x ∈ l.map nW, x.right := fun x hx => by
        obtain ⟨i, hi, rfl⟩ := List.mem_map.1 hx
        exact nW_right (by have := hbd i hi; omega)
      have hA : ArrIn wr D k c9 (l.map nW) := ⟨hrd.mono (Nat.zero_le _), by rw [List.length_map]; exact hlk, hcD, by omega, fun y hy => (hvr y hy).ok⟩
      have hmt := fun W => HM.out th W (by omega)
      have hwt : IntKind.i64.wrap th = th := by rw [IntKind.wrap_i64]; omega
      have hP : Rt (wholeN th).1 (wholeN th).2 := nW_rt (by omega)
      replace s0 := hxr.cell_some s0
      replace s1 := hxr.cell_some s1
      replace ls := lt_of_cell s0
      have HA : Hid (ArrIn wr D k c9 (l.map nW) ∧ NA.right ⟨1, k, l.map nW⟩) := Lib.hid ⟨hA, (kAr_ok hA (by omega) (by omega) hvr).right⟩
      have HTW := Lib.hid (HTC.out.ext hxr)
      have HFW := Lib.hid (HFC.out.ext hxr)
      have HXW := Lib.hid (HX7.out.trans hxr)
      have HBD := Lib.hid (And.intro hbd hlk)
      clear HM htk hbd hlk hvr hA hrd HW hsz hxr HX7 HTC HFC HC hlt hT15
      generalize wholeN th = P at *
      generalize hV : l.map nW = V at *
      have HV := Lib.hid hV
      clear hV
      go_upto_region 12 with (first | (go_at_call 8; (with_reducible refine (hmt _).mono ?_); rintro e w' ⟨rfl, hb⟩; obtain ⟨osm, dm, rfl⟩ := hb.more; clear hb) | (go_at_call 10; (with_reducible refine (krow_any _ _ _ _ (by omega)).mono ?_); rintro e w' ⟨rfl, hb⟩; obtain ⟨osr, dr, rfl⟩ := hb.more; clear hb))
      refine wp_world fun U hU => ?_
      have hxU : Ext wr U := by rw [hU]; exact (by repeat (first | (with_reducible (first | exact Ext.refl _ | exact ext_d _ _ _ _ | exact ext_app _ _ _ _ _ | exact ext_app2 _ _ _ _ _ _)) | ((with_reducible refine ext_suffix ⟨_, ?_⟩); (try simp only [Array.append_assoc]); rfl) | (with_reducible (first | apply Ext.drew | apply Ext.alloc | apply Ext.more_))))
      have m0 : U.cell? ⟨wr.heap.size + osm.size, 0, none⟩ = some (.int .i64 P.1) := by rw [hU]; go_simp
      have m1 : U.cell? ⟨wr.heap.size + osm.size, 1, none⟩ = some (.int .i64 P.2) := by rw [hU]; go_simp
      have a0 : U.cell? ⟨wr.heap.size + osm.size + 1 + osr.size, 0, none⟩ = some (.int .i64 1) := by rw [hU]; go_simp
      have a1 : U.cell? ⟨wr.heap.size + osm.size + 1 + osr.size, 1, none⟩ = some (.int .i64 (k : Int)) := by rw [hU]; go_simp
      have a2 : U.cell? ⟨wr.heap.size + osm.size + 1 + osr.size, 2, none⟩ = some (.slice D k c9) := by rw [hU]; go_simp
      replace s0 := hxU.cell_some s0
      replace s1 := hxU.cell_some s1
      replace ls := lt_of_cell s0
      have lm := lt_of_cell m0
      have la := lt_of_cell a0
      replace HA : Hid (ArrIn U D k c9 V ∧ NA.right ⟨1, k, V⟩) := Lib.hid ⟨HA.out.1.ext hxU, HA.out.2⟩
      replace HTW := Lib.hid (HTW.out.ext hxU)
      replace HFW := Lib.hid (HFW.out.ext hxU)
      replace HXW := Lib.hid (HXW.out.trans hxU)
      clear hU hxU hmt hwt
      generalize wr.heap.size + osm.size + 1 + osr.size = p14 at *
      generalize wr.heap.size + osm.size = p12 at *
      have hbd := HBD.out.1
      have hlk := HBD.out.2
      have hT15 : T 15 = 1000000000000000 := by decide
      have hle := fitI_le c P l
      have hle2 := fitI_le c.other P l
      have hv1 : V = l.map nW := HV.out.symm
      have f1 : ∀ q, countIfO [kAr V D k c9, kOne (critV c P) q] = oneA (nV (wholeN ((fitI c P l).length : Int))) := fun q => by rw [hv1]; exact countif_row hP l D k c9 q
      have f2 : ∀ q, countIfO [kAr V D k c9, kOne (critV c.other P) q] = oneA (nV (wholeN ((fitI c.other P l).length : Int))) := fun q => by rw [hv1]; exact countif_row hP l D k c9 q
      have f3 : ∀ q, ofNumsO sumV [kAr [nV (wholeN ((fitI c P l).length : Int)), nV (wholeN ((fitI c.other P l).length : Int))] (some ⟨q, 0, none⟩) 2 2] = oneA (nV (wholeN k)) := fun q => by
        have h := sum_row (xs := [kAr [nV (wholeN ((fitI c P l).length : Int)), nV (wholeN ((fitI c.other P l).length : Int))] (some ⟨q, 0, none⟩) 2 2]) (l := [((fitI c P l).length : Int), ((fitI c.other P l).length : Int)]) (B := 60) rfl (fun i hi => by simp only [List.mem_cons, List.not_mem_nil, or_false] at hi; rcases hi with rfl | rfl <;> omega) (by rw [hT15]; simp)
        rw [show [((fitI c P l).length : Int), ((fitI c.other P l).length : Int)].sum = (k : Int) by have := fitI_len c P l; rw [List.sum_cons, List.sum_cons, List.sum_nil]; omega] at h
        exact h
      have f4 : countedO isNum (allV [kAr V D k c9]) = oneA (nV (wholeN k)) := by
        have h := count_row (xs := [kAr V D k c9]) (l := l) (by rw [hv1]; simp [allV]); rw [hlk] at h; exact h
      have f5 : ∀ q, sumIfO [kAr V D k c9, kOne (critV c P) q] = oneA (nV (wholeN (fitI c P l).sum)) := fun q => by rw [hv1]; exact sumif_two hP l (B := 32768) hbd (by omega) D k c9 q
      have f6 : ∀ q, sumIfO [kAr V D k c9, kOne (critV c.other P) q, kAr V D k c9] = oneA (nV (wholeN (fitI c.other P l).sum)) := fun q => by rw [hv1]; exact sumif_three hP l (B := 32768) hbd (by omega) D k c9 q
      have b1 : (fitI c P l).sum.natAbs ≤ 60 * 32768 := Nat.le_trans (wsum_small (B := 32768) fun i hi => hbd i (fitI_mem hi)) (Nat.mul_le_mul_right _ (by omega))
      have b2 : (fitI c.other P l).sum.natAbs ≤ 60 * 32768 := Nat.le_trans (wsum_small (B := 32768) fun i hi => hbd i (fitI_mem hi)) (Nat.mul_le_mul_right _ (by omega))
      have f7 : ∀ q, ofNumsO sumV [kAr [nV (wholeN (fitI c P l).sum), nV (wholeN (fitI c.other P l).sum)] (some ⟨q, 0, none⟩) 2 2] = oneA (nV (wholeN l.sum)) := fun q => by
        have h := sum_row (xs := [kAr [nV (wholeN (fitI c P l).sum), nV (wholeN (fitI c.other P l).sum)] (some ⟨q, 0, none⟩) 2 2]) (l := [(fitI c P l).sum, (fitI c.other P l).sum]) (B := 60 * 32768) rfl (fun i hi => by simp only [List.mem_cons, List.not_mem_nil, or_false] at hi; rcases hi with rfl | rfl; exact b1; exact b2) (by rw [hT15]; simp)
        rw [show [(fitI c P l).sum, (fitI c.other P l).sum].sum = l.sum by have := fitI_sum c P l; rw [List.sum_cons, List.sum_cons, List.sum_nil]; omega] at h
        exact h
      have f8 : ofNumsO sumV [kAr V D k c9] = oneA (nV (wholeN l.sum)) := sum_row (l := l) (B := 32768) (by rw [hv1]; simp [allV]) hbd (by omega)
      have r1 : (nV (wholeN ((fitI c P l).length : Int))).right := nW_right (by omega)
      have r2 : (nV (wholeN ((fitI c.other P l).length : Int))).right := nW_right (by omega)
      have r3 : (nV (wholeN (fitI c P l).sum)).right := nW_right (by omega)
      have r4 : (nV (wholeN (fitI c.other P l).sum)).right := nW_right (by omega)
      have hvX : (critV c P).right := right_critV hP
      have hvY : (critV c.other P).right := right_critV hP
      have htx := fun W => rtext_any P.1 P.2 W (rt_i64 hP)
      have g1 : critV c P = ⟨2, 0, 0, c.str ++ textS P.1 P.2, false, 0⟩ := rfl
      have g2 : critV c.other P = ⟨2, 0, 0, c.other.str ++ textS P.1 P.2, false, 0⟩ := rfl
      rw [g1] at f1 f5 hvX
      rw [g2] at f2 f6 hvY
      have hks : ∀ c : CS, c.str.size ≤ 2 := fun c => by cases c <;> decide
      have hk1 : ¬ 9223372036854775807 < c.str.size + (textS P.1 P.2).size := by have := textS_size hP; have := hks c; omega
      have hk2 : ¬ 9223372036854775807 < c.other.str.size + (textS P.1 P.2).size := by have := textS_size hP; have := hks c.other; omega
      have hes := eql_same
      have HS1 := Lib.hid (And.intro f1 (And.intro f2 (And.intro f3 f4)))
      have HS2 := Lib.hid (And.intro f5 (And.intro f6 (And.intro f7 f8)))
      clear hks g1 g2 f1 f2 f3 f4 f5 f6 f7 f8 b1 b2 hle hle2 hv1 hbd hlk hT15 HBD HV HL hP HCR
      generalize textS P.1 P.2 = TX at *
      generalize wholeN ((fitI c P l).length : Int) = y1 at *
      generalize wholeN ((fitI c.other P l).length : Int) = y2 at *
      generalize wholeN (k : Int) = y3 at *
      generalize wholeN (fitI c P l).sum = y4 at *
      generalize wholeN (fitI c.other P l).sum = y5 at *
      generalize wholeN l.sum = y6 at *
      refine wp_float [(8, 15, (.cells #[.int .i64 0, .int .i64 0, .slice none 0 0] 33))] [(0, 0), (1, 0), (2, 0), (3, 1), (4, 0), (5, 0), (6, 1), (7, 1)] [9] [9] [] (by kernel_rfl) (by kernel_rfl) (by kernel_rfl) (fun _ _ d _ _ h => by cases d <;> exact h) (fun _ _ d _ _ h => by cases d <;> exact h) (fun x hx o ho a w => by (obtain rfl := List.mem_singleton.1 hx); (obtain rfl := Option.some.inj ho); (first | rfl | (simp [go_sem, ptrB]; done) | (go_simp; rfl))) ?_
      iterate 3 ((refine wpFp_read (v := ?_) rfl ?_ (fun w1 h1 => ?_) ?_; rotate_left 1; rfl; (obtain ⟨os1, d1, rfl⟩ := h1.more; go_simp; first | done | rfl)); try simp only [Act.put, zqA, zqB, zqC])
      (refine wpFp_eff rfl ?_ (fun wf hXf hE K hK => ?_); rfl; obtain ⟨osf, df, rfl⟩ := hXf.more; go_simp; refine (htx _).mono ?_; rintro e w' ⟨rfl, hb⟩; refine hK _ _ (fun _ => True) (by (try simp only [more_drew, more_more, Array.append_assoc]); exact hb) (fun _ _ _ _ => trivial) trivial ?_)
      try simp only [Act.put, zqA, zqB, zqC]
      iterate 2 ((refine wpFp_read (v := ?_) rfl ?_ (fun w1 h1 => ?_) ?_; rotate_left 1; rfl; (obtain ⟨os1, d1, rfl⟩ := h1.more; go_simp; first | done | rfl)); try simp only [Act.put, zqA, zqB, zqC])
      (refine wpFp_eff rfl ?_ (fun wf hXf hE K hK => ?_); rfl; obtain ⟨osf, df, rfl⟩ := hXf.more; go_simp; generalize hq1 : U.heap.size + osf.size = q1; refine hK _ _ (fun W => ArrIn W (some ⟨q1, 0, none⟩) 1 1 [(⟨2, 0, 0, c.str ++ TX, false, 0⟩ : Val)]) (by (try simp only [drew_more]); exact (Ext.refl _).alloc _) (fun _ _ hx h => h.ext hx) (karr_new [(⟨2, 0, 0, c.str ++ TX, false, 0⟩ : Val)] (by rw [← hq1]; simp) rfl rfl (by decide) (by simpa using hvX.ok)) ?_)
      try simp only [Act.put, zqA, zqB, zqC]
      (refine wpFp_eff rfl ?_ (fun wf hXf hE K hK => ?_); rfl; obtain ⟨osf, df, rfl⟩ := hXf.more; go_simp; refine (krow_any _ _ _ _ (by decide)).mono ?_; rintro e w' ⟨rfl, hb⟩; refine hK _ _ (fun W => ArrIn W (some ⟨q1, 0, none⟩) 1 1 [(⟨2, 0, 0, c.str ++ TX, false, 0⟩ : Val)]) (by (try simp only [more_drew, more_more, Array.append_assoc]); exact hb) (fun _ _ hx h => h.ext hx) (hE.ext (by (try simp only [more_drew, more_more, Array.append_assoc]); exact hb)) ?_)
      try simp only [Act.put, zqA, zqB, zqC]
      refine wpFp_one fun osa da osb db hE => ?_
      try simp only [Act.put, zqA, zqB, zqC]
      (refine wpTl_op rfl ?_ (fun K hK => ?_); rfl; go_simp; refine hK _ _ ?_)
      try simp only [Act.put, zqA, zqB, zqC]
      refine wpTl_nil ?_
      go_upto_region 13 with fail
      refine wp_world fun W1 hW1 => ?_
      obtain ⟨q0, hx01⟩ := kvar_at _ _ _ _ _ _ hW1
      have HXV : Hid (ArrIn W1 (some ⟨q1, 0, none⟩) 1 1 [(⟨2, 0, 0, c.str ++ TX, false, 0⟩ : Val)]) := Lib.hid (by rw [hW1]; exact hE.kvar3)
      clear hW1 hE hk1
      replace s0 := hx01.cell_some s0
      replace s1 := hx01.cell_some s1
      replace ls := lt_of_cell s0
      replace m0 := hx01.cell_some m0
      replace m1 := hx01.cell_some m1
      replace a0 := hx01.cell_some a0
      replace a1 := hx01.cell_some a1
      replace a2 := hx01.cell_some a2
      replace lm := lt_of_cell m0
      replace la := lt_of_cell a0
      replace HA : Hid (ArrIn W1 D k c9 V ∧ NA.right ⟨1, k, V⟩) := Lib.hid ⟨HA.out.1.ext hx01, HA.out.2⟩
      replace HTW := Lib.hid (HTW.out.ext hx01)
      replace HFW := Lib.hid (HFW.out.ext hx01)
      replace HXW := Lib.hid (HXW.out.trans hx01)
      have lq := lt_of_block q0
      generalize U.heap.size + osa.size = p15 at *
      clear hx01
      refine wp_float [(8, 16, (.cells #[.int .i64 0, .int .i64 0, .slice none 0 0] 33))] [(0, 0), (1, 0), (2, 0), (3, 1), (4, 0), (5, 0), (6, 1), (7, 1)] [9] [9] [] (by kernel_rfl) (by kernel_rfl) (by kernel_rfl) (fun _ _ d _ _ h => by cases d <;> exact h) (fun _ _ d _ _ h => by cases d <;> exact h) (fun x hx o ho a w => by (obtain rfl := List.mem_singleton.1 hx); (obtain rfl := Option.some.inj ho); (first | rfl | (simp [go_sem, ptrB]; done) | (go_simp; rfl))) ?_
      iterate 3 ((refine wpFp_read (v := ?_) rfl ?_ (fun w1 h1 => ?_) ?_; rotate_left 1; rfl; (obtain ⟨os1, d1, rfl⟩ := h1.more; go_simp; first | done | rfl)); try simp only [Act.put, zqA, zqB, zqC])
      (refine wpFp_eff rfl ?_ (fun wf hXf hE K hK => ?_); rfl; obtain ⟨osf, df, rfl⟩ := hXf.more; go_simp; refine (htx _).mono ?_; rintro e w' ⟨rfl, hb⟩; refine hK _ _ (fun _ => True) (by (try simp only [more_drew, more_more, Array.append_assoc]); exact hb) (fun _ _ _ _ => trivial) trivial ?_)
      try simp only [Act.put, zqA, zqB, zqC]
      iterate 2 ((refine wpFp_read (v := ?_) rfl ?_ (fun w1 h1 => ?_) ?_; rotate_left 1; rfl; (obtain ⟨os1, d1, rfl⟩ := h1.more; go_simp; first | done | rfl)); try simp only [Act.put, zqA, zqB, zqC])
      (refine wpFp_eff rfl ?_ (fun wf hXf hE K hK => ?_); rfl; obtain ⟨osf, df, rfl⟩ := hXf.more; go_simp; generalize hq2 : W1.heap.size + osf.size = q2; refine hK _ _ (fun W => ArrIn W (some ⟨q2, 0, none⟩) 1 1 [(⟨2, 0, 0, c.other.str ++ TX, false, 0⟩ : Val)]) (by (try simp only [drew_more]); exact (Ext.refl _).alloc _) (fun _ _ hx h => h.ext hx) (karr_new [(⟨2, 0, 0, c.other.str ++ TX, false, 0⟩ : Val)] (by rw [← hq2]; simp) rfl rfl (by decide) (by simpa using hvY.ok)) ?_)
      try simp only [Act.put, zqA, zqB, zqC]
      (refine wpFp_eff rfl ?_ (fun wf hXf hE K hK => ?_); rfl; obtain ⟨osf, df, rfl⟩ := hXf.more; go_simp; refine (krow_any _ _ _ _ (by decide)).mono ?_; rintro e w' ⟨rfl, hb⟩; refine hK _ _ (fun W => ArrIn W (some ⟨q2, 0, none⟩) 1 1 [(⟨2, 0, 0, c.other.str ++ TX, false, 0⟩ : Val)]) (by (try simp only [more_drew, more_more, Array.append_assoc]); exact hb) (fun _ _ hx h => h.ext hx) (hE.ext (by (try simp only [more_drew, more_more, Array.append_assoc]); exact hb)) ?_)
      try simp only [Act.put, zqA, zqB, zqC]
      refine wpFp_one fun osa da osb db hE => ?_
      try simp only [Act.put, zqA, zqB, zqC]
      (refine wpTl_op rfl ?_ (fun K hK => ?_); rfl; go_simp; refine hK _ _ ?_)
      try simp only [Act.put, zqA, zqB, zqC]
      refine wpTl_nil ?_
      go_upto_region 14 with fail
      refine wp_world fun Z hZ => ?_
      obtain ⟨q9, hx12⟩ := kvar_at _ _ _ _ _ _ hZ
      have HYV : Hid (ArrIn Z (some ⟨q2, 0, none⟩) 1 1 [(⟨2, 0, 0, c.other.str ++ TX, false, 0⟩ : Val)]) := Lib.hid (by rw [hZ]; exact hE.kvar3)
      clear hZ hE hk2 htx s0 s1 ls m0 m1 lm
      replace q0 := (hx12.block (lt_of_block q0)).trans q0
      replace HXV := Lib.hid (HXV.out.ext hx12)
      replace a0 := hx12.cell_some a0
      replace a1 := hx12.cell_some a1
      replace a2 := hx12.cell_some a2
      replace la := lt_of_cell a0
      replace HA : Hid (ArrIn Z D k c9 V ∧ NA.right ⟨1, k, V⟩) := Lib.hid ⟨HA.out.1.ext hx12, HA.out.2⟩
      replace HTW := Lib.hid (HTW.out.ext hx12)
      replace HFW := Lib.hid (HFW.out.ext hx12)
      replace HXW := Lib.hid (HXW.out.trans hx12)
      have b0 := cell_of_row _ _ 0 _ _ _ q0
      have b1 := cell_of_row _ _ 1 _ _ _ q0
      have b2 := cell_of_row _ _ 2 _ _ _ q0
      have e0 := cell_of_row _ _ 0 _ _ _ q9
      have e1 := cell_of_row _ _ 1 _ _ _ q9
      have e2 := cell_of_row _ _ 2 _ _ _ q9
      have lb := lt_of_cell b0
      have le := lt_of_cell e0
      generalize W1.heap.size + osa.size = p16 at *
      clear hx12 q0 q9
      refine wp_floatG [(0, 0), (1, 0), (4, 0), (5, 0), (12, 0), (13, 4), (6, 4), (2, 4), (2, 3), (3, 1), (6, 3), (7, 1), (8, 1), (9, 1), (10, 1), (11, 1), (13, 3), (14, 1), (15, 0)] [] [] [] (by kernel_rfl) (by kernel_rfl) (by kernel_rfl) (fun _ _ d _ _ h => by cases d <;> exact h) (fun _ _ d _ _ h => by cases d <;> exact h) ?_
      iterate 5 ((refine wpFg_read (v := ?_) rfl ?_ (fun w1 h1 => ?_) ?_; rotate_left 1; rfl; (obtain ⟨os1, d1, rfl⟩ := h1.more; go_simp; first | done | rfl)); try simp only [Act.put, zqA, zqB, zqC])
      (refine wpFg_launch (t := 96) ?_ (fun b => .slice (some ⟨b, 0, none⟩) 1 1) rfl rfl rfl (fun w1 => ?_) ?_; rotate_left 1; (go_simp; first | done | rfl))
      (refine wpFg_launch (t := 89) ?_ (fun b => .slice (some ⟨b, 0, none⟩) 2 2) rfl rfl rfl (fun w1 => ?_) ?_; rotate_left 1; (go_simp; first | done | rfl))
      (refine wpFg_launch (t := 85) ?_ (fun b => .slice (some ⟨b, 0, none⟩) 2 2) rfl rfl rfl (fun w1 => ?_) ?_; rotate_left 1; (go_simp; first | done | rfl))
      refine wpFg_wait fun q3 _ _ _ => ?_; refine ⟨fun W => ArgsIn W (some ⟨q3, 0, none⟩) 2 2 [kAr V D k c9, kOne (⟨2, 0, 0, c.str ++ TX, false, 0⟩ : Val) q1], fun _ _ hx h => h.ext hx, fun W hXW _ hw => kargs_block (n := 2) [kAr V D k c9, kOne (⟨2, 0, 0, c.str ++ TX, false, 0⟩ : Val) q1] hw rfl rfl (by decide) (by (intro a ha; simp only [List.mem_cons, List.not_mem_nil, or_false] at ha; rcases ha with rfl | rfl; exact ⟨HA.out.1.ext ((Ext.refl _).drew.trans hXW), HA.out.2⟩; exact kOne_ok (HXV.out.ext ((Ext.refl _).drew.trans hXW)) hvX)), ?_⟩
      try simp only [Act.put, zqA, zqB, zqC]
      (refine wpFg_eff rfl ?_ (fun wf hXf hE K hK => ?_); rfl; obtain ⟨osf, df, rfl⟩ := hXf.more; go_simp; refine (kone_in hE (by decide) (by decide) (by rw [HS1.out.1]) (fun W hW g => mcall_countif _ _ _ _ _ ((HTW.out.ext (by with_reducible repeat (first | exact Ext.refl _ | apply Ext.drew | apply Ext.alloc | apply Ext.more_))).ext hW) ((HFW.out.ext (by with_reducible repeat (first | exact Ext.refl _ | apply Ext.drew | apply Ext.alloc | apply Ext.more_))).ext hW) g)).mono ?_; rintro e w' ⟨rfl, hb⟩; refine hK _ _ (fun _ => True) (by (try simp only [more_drew, more_more, Array.append_assoc]); exact hb) (fun _ _ _ _ => trivial) trivial ?_)
      try simp only [Act.put, zqA, zqB, zqC]
      refine wpFg_wait fun q4 _ _ _ => ?_; refine ⟨fun W => ArgsIn W (some ⟨q4, 0, none⟩) 2 2 [kAr V D k c9, kOne (⟨2, 0, 0, c.other.str ++ TX, false, 0⟩ : Val) q2], fun _ _ hx h => h.ext hx, fun W hXW _ hw => kargs_block (n := 2) [kAr V D k c9, kOne (⟨2, 0, 0, c.other.str ++ TX, false, 0⟩ : Val) q2] hw rfl rfl (by decide) (by (intro a ha; simp only [List.mem_cons, List.not_mem_nil, or_false] at ha; rcases ha with rfl | rfl; exact ⟨HA.out.1.ext ((Ext.refl _).drew.trans hXW), HA.out.2⟩; exact kOne_ok (HYV.out.ext ((Ext.refl _).drew.trans hXW)) hvY)), ?_⟩
      try simp only [Act.put, zqA, zqB, zqC]
      (refine wpFg_eff rfl ?_ (fun wf hXf hE K hK => ?_); rfl; obtain ⟨osf, df, rfl⟩ := hXf.more; go_simp; refine (kone_in hE (by decide) (by decide) (by rw [HS1.out.2.1]) (fun W hW g => mcall_countif _ _ _ _ _ ((HTW.out.ext (by with_reducible repeat (first | exact Ext.refl _ | apply Ext.drew | apply Ext.alloc | apply Ext.more_))).ext hW) ((HFW.out.ext (by with_reducible repeat (first | exact Ext.refl _ | apply Ext.drew | apply Ext.alloc | apply Ext.more_))).ext hW) g)).mono ?_; rintro e w' ⟨rfl, hb⟩; refine hK _ _ (fun _ => True) (by (try simp only [more_drew, more_more, Array.append_assoc]); exact hb) (fun _ _ _ _ => trivial) trivial ?_)
      try simp only [Act.put, zqA, zqB, zqC]
      (refine wpFg_eff rfl ?_ (fun wf hXf hE K hK => ?_); rfl; obtain ⟨osf, df, rfl⟩ := hXf.more; go_simp; generalize hq5 : Z.heap.size + osf.size = q5; refine hK _ _ (fun W => ArrIn W (some ⟨q5, 0, none⟩) 2 2 [nV y1, nV y2]) (by (try simp only [drew_more]); exact (Ext.refl _).alloc _) (fun _ _ hx h => h.ext hx) (karr_new (n := 2) [nV y1, nV y2] (by rw [← hq5]; simp) rfl rfl (by decide) (by intro x hx; simp only [List.mem_cons, List.not_mem_nil, or_false] at hx; rcases hx with rfl | rfl; exact r1.ok; exact r2.ok)) ?_)
      try simp only [Act.put, zqA, zqB, zqC]
      (refine wpFg_eff rfl ?_ (fun wf hXf hE K hK => ?_); rfl; obtain ⟨osf, df, rfl⟩ := hXf.more; go_simp; refine (krow_any _ _ _ _ (by decide)).mono ?_; rintro e w' ⟨rfl, hb⟩; refine hK _ _ (fun W => ArrIn W (some ⟨q5, 0, none⟩) 2 2 [nV y1, nV y2]) (by (try simp only [more_drew, more_more, Array.append_assoc]); exact hb) (fun _ _ hx h => h.ext hx) (hE.ext (by (try simp only [more_drew, more_more, Array.append_assoc]); exact hb)) ?_)
      try simp only [Act.put, zqA, zqB, zqC]
      (refine wpFg_eff rfl ?_ (fun wf hXf hE K hK => ?_); rfl; obtain ⟨osf, df, rfl⟩ := hXf.more; go_simp; generalize hq6 : Z.heap.size + osf.size = q6; refine hK _ _ (fun W => ArgsIn W (some ⟨q6, 0, none⟩) 1 1 [kAr [nV y1, nV y2] (some ⟨q5, 0, none⟩) 2 2]) (by (try simp only [drew_more]); exact (Ext.refl _).alloc _) (fun _ _ hx h => h.ext hx) (kargs_new (n := 1) [kAr [nV y1, nV y2] (some ⟨q5, 0, none⟩) 2 2] (by rw [← hq6]; simp) rfl rfl (by decide) (by intro a ha; obtain rfl := List.mem_singleton.1 ha; exact kAr_ok hE (by decide) (by decide) (by intro x hx; simp only [List.mem_cons, List.not_mem_nil, or_false] at hx; rcases hx with rfl | rfl; exact r1; exact r2))) ?_)
      try simp only [Act.put, zqA, zqB, zqC]
      (refine wpFg_eff rfl ?_ (fun wf hXf hE K hK => ?_); rfl; obtain ⟨osf, df, rfl⟩ := hXf.more; go_simp; refine (kone_in hE (by decide) (by decide) (by rw [HS1.out.2.2.1]) (fun W hW g => mcall_sum _ _ _ _ _ ((HTW.out.ext (by with_reducible repeat (first | exact Ext.refl _ | apply Ext.drew | apply Ext.alloc | apply Ext.more_))).ext hW) g)).mono ?_; rintro e w' ⟨rfl, hb⟩; refine hK _ _ (fun _ => True) (by (try simp only [more_drew, more_more, Array.append_assoc]); exact hb) (fun _ _ _ _ => trivial) trivial ?_)
      try simp only [Act.put, zqA, zqB, zqC]
      refine wpFg_wait fun q7 _ _ _ => ?_; refine ⟨fun W => ArgsIn W (some ⟨q7, 0, none⟩) 1 1 [kAr V D k c9], fun _ _ hx h => h.ext hx, fun W hXW _ hw => kargs_block (n := 1) [kAr V D k c9] hw rfl rfl (by decide) (by (intro a ha; simp only [List.mem_cons, List.not_mem_nil, or_false] at ha; rcases ha with rfl; exact ⟨HA.out.1.ext ((Ext.refl _).drew.trans hXW), HA.out.2⟩)), ?_⟩
      try simp only [Act.put, zqA, zqB, zqC]
      (refine wpFg_eff rfl ?_ (fun wf hXf hE K hK => ?_); rfl; obtain ⟨osf, df, rfl⟩ := hXf.more; go_simp; refine (kone_in (F := fun xs => countedO isNum (allV xs)) hE (by decide) (by decide) HS1.out.2.2.2 (fun W hW g => mcall_count _ _ _ _ _ ((HTW.out.ext (by with_reducible repeat (first | exact Ext.refl _ | apply Ext.drew | apply Ext.alloc | apply Ext.more_))).ext hW) g)).mono ?_; rintro e w' ⟨rfl, hb⟩; refine hK _ _ (fun _ => True) (by (try simp only [more_drew, more_more, Array.append_assoc]); exact hb) (fun _ _ _ _ => trivial) trivial ?_)
      try simp only [Act.put, zqA, zqB, zqC]
      (refine wpFg_read (v := ?_) rfl ?_ (fun w1 h1 => ?_) ?_; rotate_left 1; rfl; (obtain ⟨os1, d1, rfl⟩ := h1.more; go_simp; first | done | rfl))
      try simp only [Act.put, zqA, zqB, zqC]
      (refine wpFg_done fun wz hXz hE => ?_; obtain ⟨osz, dz, rfl⟩ := hXz.more)
      refine wpTl_nil ?_
      go_upto_region 16 with fail
      refine wp_world fun Y hY => ?_
      have hxY : Ext Z Y := by rw [hY]; exact (by repeat (first | (with_reducible (first | exact Ext.refl _ | exact ext_d _ _ _ _ | exact ext_app _ _ _ _ _ | exact ext_app2 _ _ _ _ _ _)) | ((with_reducible refine ext_suffix ⟨_, ?_⟩); (try simp only [Array.append_assoc]); rfl) | (with_reducible (first | apply Ext.drew | apply Ext.alloc | apply Ext.more_))))
      clear hY
      replace a0 := hxY.cell_some a0
      replace a1 := hxY.cell_some a1
      replace a2 := hxY.cell_some a2
      replace b0 := hxY.cell_some b0
      replace b1 := hxY.cell_some b1
      replace b2 := hxY.cell_some b2
      replace e0 := hxY.cell_some e0
      replace e1 := hxY.cell_some e1
      replace e2 := hxY.cell_some e2
      replace la := lt_of_cell a0
      replace lb := lt_of_cell b0
      replace le := lt_of_cell e0
      replace HA : Hid (ArrIn Y D k c9 V ∧ NA.right ⟨1, k, V⟩) := Lib.hid ⟨HA.out.1.ext hxY, HA.out.2⟩
      replace HXV := Lib.hid (HXV.out.ext hxY)
      replace HYV := Lib.hid (HYV.out.ext hxY)
      replace HTW := Lib.hid (HTW.out.ext hxY)
      replace HFW := Lib.hid (HFW.out.ext hxY)
      replace HXW := Lib.hid (HXW.out.trans hxY)
      clear hxY
      refine wp_floatG [(0, 0), (1, 0), (4, 0), (5, 0), (6, 0), (13, 0), (14, 4), (7, 4), (2, 4), (2, 3), (3, 1), (7, 3), (8, 1), (9, 1), (10, 1), (11, 1), (12, 1), (14, 3), (15, 1), (16, 0), (17, 0), (18, 0), (19, 1), (20, 1), (21, 0), (22, 0), (23, 0), (24, 0)] [] [] [] (by kernel_rfl) (by kernel_rfl) (by kernel_rfl) (fun _ _ d _ _ h => by cases d <;> exact h) (fun _ _ d _ _ h => by cases d <;> exact h) ?_
      iterate 6 ((refine wpFg_read (v := ?_) rfl ?_ (fun w1 h1 => ?_) ?_; rotate_left 1; rfl; (obtain ⟨os1, d1, rfl⟩ := h1.more; go_simp; first | done | rfl)); try simp only [Act.put, zqA, zqB, zqC])
      (refine wpFg_launch (t := 113) ?_ (fun b => .slice (some ⟨b, 0, none⟩) 1 1) rfl rfl rfl (fun w1 => ?_) ?_; rotate_left 1; (go_simp; first | done | rfl))
      (refine wpFg_launch (t := 106) ?_ (fun b => .slice (some ⟨b, 0, none⟩) 3 3) rfl rfl rfl (fun w1 => ?_) ?_; rotate_left 1; (go_simp; first | done | rfl))
      (refine wpFg_launch (t := 101) ?_ (fun b => .slice (some ⟨b, 0, none⟩) 2 2) rfl rfl rfl (fun w1 => ?_) ?_; rotate_left 1; (go_simp; first | done | rfl))
      refine wpFg_wait fun q21 _ _ _ => ?_; refine ⟨fun W => ArgsIn W (some ⟨q21, 0, none⟩) 2 2 [kAr V D k c9, kOne (⟨2, 0, 0, c.str ++ TX, false, 0⟩ : Val) q1], fun _ _ hx h => h.ext hx, fun W hXW _ hw => kargs_block (n := 2) [kAr V D k c9, kOne (⟨2, 0, 0, c.str ++ TX, false, 0⟩ : Val) q1] hw rfl rfl (by decide) (by (intro a ha; simp only [List.mem_cons, List.not_mem_nil, or_false] at ha; rcases ha with rfl | rfl; exact ⟨HA.out.1.ext ((Ext.refl _).drew.trans hXW), HA.out.2⟩; exact kOne_ok (HXV.out.ext ((Ext.refl _).drew.trans hXW)) hvX)), ?_⟩
      try simp only [Act.put, zqA, zqB, zqC]
      (refine wpFg_eff rfl ?_ (fun wf hXf hE K hK => ?_); rfl; obtain ⟨osf, df, rfl⟩ := hXf.more; go_simp; refine (kone_in hE (by decide) (by decide) (by rw [HS2.out.1]) (fun W hW g => mcall_sumif _ _ _ _ _ ((HTW.out.ext (by with_reducible repeat (first | exact Ext.refl _ | apply Ext.drew | apply Ext.alloc | apply Ext.more_))).ext hW) ((HFW.out.ext (by with_reducible repeat (first | exact Ext.refl _ | apply Ext.drew | apply Ext.alloc | apply Ext.more_))).ext hW) g)).mono ?_; rintro e w' ⟨rfl, hb⟩; refine hK _ _ (fun _ => True) (by (try simp only [more_drew, more_more, Array.append_assoc]); exact hb) (fun _ _ _ _ => trivial) trivial ?_)
      try simp only [Act.put, zqA, zqB, zqC]
      refine wpFg_wait fun q22 _ _ _ => ?_; refine ⟨fun W => ArgsIn W (some ⟨q22, 0, none⟩) 3 3 [kAr V D k c9, kOne (⟨2, 0, 0, c.other.str ++ TX, false, 0⟩ : Val) q2, kAr V D k c9], fun _ _ hx h => h.ext hx, fun W hXW _ hw => kargs_block (n := 3) [kAr V D k c9, kOne (⟨2, 0, 0, c.other.str ++ TX, false, 0⟩ : Val) q2, kAr V D k c9] hw rfl rfl (by decide) (by (intro a ha; simp only [List.mem_cons, List.not_mem_nil, or_false] at ha; rcases ha with rfl | rfl | rfl; exact ⟨HA.out.1.ext ((Ext.refl _).drew.trans hXW), HA.out.2⟩; exact kOne_ok (HYV.out.ext ((Ext.refl _).drew.trans hXW)) hvY; exact ⟨HA.out.1.ext ((Ext.refl _).drew.trans hXW), HA.out.2⟩)), ?_⟩
      try simp only [Act.put, zqA, zqB, zqC]
      (refine wpFg_eff rfl ?_ (fun wf hXf hE K hK => ?_); rfl; obtain ⟨osf, df, rfl⟩ := hXf.more; go_simp; refine (kone_in hE (by decide) (by decide) (by rw [HS2.out.2.1]) (fun W hW g => mcall_sumif _ _ _ _ _ ((HTW.out.ext (by with_reducible repeat (first | exact Ext.refl _ | apply Ext.drew | apply Ext.alloc | apply Ext.more_))).ext hW) ((HFW.out.ext (by with_reducible repeat (first | exact Ext.refl _ | apply Ext.drew | apply Ext.alloc | apply Ext.more_))).ext hW) g)).mono ?_; rintro e w' ⟨rfl, hb⟩; refine hK _ _ (fun _ => True) (by (try simp only [more_drew, more_more, Array.append_assoc]); exact hb) (fun _ _ _ _ => trivial) trivial ?_)
      try simp only [Act.put, zqA, zqB, zqC]
      (refine wpFg_eff rfl ?_ (fun wf hXf hE K hK => ?_); rfl; obtain ⟨osf, df, rfl⟩ := hXf.more; go_simp; generalize hq23 : Y.heap.size + osf.size = q23; refine hK _ _ (fun W => ArrIn W (some ⟨q23, 0, none⟩) 2 2 [nV y4, nV y5]) (by (try simp only [drew_more]); exact (Ext.refl _).alloc _) (fun _ _ hx h => h.ext hx) (karr_new (n := 2) [nV y4, nV y5] (by rw [← hq23]; simp) rfl rfl (by decide) (by intro x hx; simp only [List.mem_cons, List.not_mem_nil, or_false] at hx; rcases hx with rfl | rfl; exact r3.ok; exact r4.ok)) ?_)
      try simp only [Act.put, zqA, zqB, zqC]
      (refine wpFg_eff rfl ?_ (fun wf hXf hE K hK => ?_); rfl; obtain ⟨osf, df, rfl⟩ := hXf.more; go_simp; refine (krow_any _ _ _ _ (by decide)).mono ?_; rintro e w' ⟨rfl, hb⟩; refine hK _ _ (fun W => ArrIn W (some ⟨q23, 0, none⟩) 2 2 [nV y4, nV y5]) (by (try simp only [more_drew, more_more, Array.append_assoc]); exact hb) (fun _ _ hx h => h.ext hx) (hE.ext (by (try simp only [more_drew, more_more, Array.append_assoc]); exact hb)) ?_)
      try simp only [Act.put, zqA, zqB, zqC]
      (refine wpFg_eff rfl ?_ (fun wf hXf hE K hK => ?_); rfl; obtain ⟨osf, df, rfl⟩ := hXf.more; go_simp; generalize hq24 : Y.heap.size + osf.size = q24; refine hK _ _ (fun W => ArgsIn W (some ⟨q24, 0, none⟩) 1 1 [kAr [nV y4, nV y5] (some ⟨q23, 0, none⟩) 2 2]) (by (try simp only [drew_more]); exact (Ext.refl _).alloc _) (fun _ _ hx h => h.ext hx) (kargs_new (n := 1) [kAr [nV y4, nV y5] (some ⟨q23, 0, none⟩) 2 2] (by rw [← hq24]; simp) rfl rfl (by decide) (by intro a ha; obtain rfl := List.mem_singleton.1 ha; exact kAr_ok hE (by decide) (by decide) (by intro x hx; simp only [List.mem_cons, List.not_mem_nil, or_false] at hx; rcases hx with rfl | rfl; exact r3; exact r4))) ?_)
      try simp only [Act.put, zqA, zqB, zqC]
      (refine wpFg_eff rfl ?_ (fun wf hXf hE K hK => ?_); rfl; obtain ⟨osf, df, rfl⟩ := hXf.more; go_simp; refine (kone_in hE (by decide) (by decide) (by rw [HS2.out.2.2.1]) (fun W hW g => mcall_sum _ _ _ _ _ ((HTW.out.ext (by with_reducible repeat (first | exact Ext.refl _ | apply Ext.drew | apply Ext.alloc | apply Ext.more_))).ext hW) g)).mono ?_; rintro e w' ⟨rfl, hb⟩; refine hK _ _ (fun _ => True) (by (try simp only [more_drew, more_more, Array.append_assoc]); exact hb) (fun _ _ _ _ => trivial) trivial ?_)
      try simp only [Act.put, zqA, zqB, zqC]
      refine wpFg_wait fun q25 _ _ _ => ?_; refine ⟨fun W => ArgsIn W (some ⟨q25, 0, none⟩) 1 1 [kAr V D k c9], fun _ _ hx h => h.ext hx, fun W hXW _ hw => kargs_block (n := 1) [kAr V D k c9] hw rfl rfl (by decide) (by (intro a ha; simp only [List.mem_cons, List.not_mem_nil, or_false] at ha; rcases ha with rfl; exact ⟨HA.out.1.ext ((Ext.refl _).drew.trans hXW), HA.out.2⟩)), ?_⟩
      try simp only [Act.put, zqA, zqB, zqC]
      (refine wpFg_eff rfl ?_ (fun wf hXf hE K hK => ?_); rfl; obtain ⟨osf, df, rfl⟩ := hXf.more; go_simp; refine (kone_in hE (by decide) (by decide) (by rw [HS2.out.2.2.2]) (fun W hW g => mcall_sum _ _ _ _ _ ((HTW.out.ext (by with_reducible repeat (first | exact Ext.refl _ | apply Ext.drew | apply Ext.alloc | apply Ext.more_))).ext hW) g)).mono ?_; rintro e w' ⟨rfl, hb⟩; refine hK _ _ (fun _ => True) (by (try simp only [more_drew, more_more, Array.append_assoc]); exact hb) (fun _ _ _ _ => trivial) trivial ?_)
      try simp only [Act.put, zqA, zqB, zqC]
      iterate 3 ((refine wpFg_read (v := ?_) rfl ?_ (fun w1 h1 => ?_) ?_; rotate_left 1; rfl; (obtain ⟨os1, d1, rfl⟩ := h1.more; go_simp; first | done | rfl)); try simp only [Act.put, zqA, zqB, zqC])
      (refine wpFg_eff rfl ?_ (fun wf hXf hE K hK => ?_); rfl; obtain ⟨osf, df, rfl⟩ := hXf.more; go_simp; generalize hq26 : Y.heap.size + osf.size = q26; refine hK _ _ (fun W => ArgsIn W (some ⟨q26, 0, none⟩) 1 1 [kAr V D k c9]) (by (try simp only [drew_more]); exact (Ext.refl _).alloc _) (fun _ _ hx h => h.ext hx) (kargs_new (n := 1) [kAr V D k c9] (by rw [← hq26]; simp) rfl rfl (by decide) (by (intro a ha; simp only [List.mem_cons, List.not_mem_nil, or_false] at ha; rcases ha with rfl; exact ⟨HA.out.1.ext (by with_reducible repeat (first | exact Ext.refl _ | apply Ext.drew | apply Ext.alloc | apply Ext.more_)), HA.out.2⟩))) ?_)
      try simp only [Act.put, zqA, zqB, zqC]
      (refine wpFg_eff rfl ?_ (fun wf hXf hE K hK => ?_); rfl; obtain ⟨osf, df, rfl⟩ := hXf.more; go_simp; refine (kone_in (F := fun xs => countedO isNum (allV xs)) hE (by decide) (by decide) HS1.out.2.2.2 (fun W hW g => mcall_count _ _ _ _ _ ((HTW.out.ext (by with_reducible repeat (first | exact Ext.refl _ | apply Ext.drew | apply Ext.alloc | apply Ext.more_))).ext hW) g)).mono ?_; rintro e w' ⟨rfl, hb⟩; refine hK _ _ (fun _ => True) (by (try simp only [more_drew, more_more, Array.append_assoc]); exact hb) (fun _ _ _ _ => trivial) trivial ?_)
      try simp only [Act.put, zqA, zqB, zqC]
      iterate 4 ((refine wpFg_read (v := ?_) rfl ?_ (fun w1 h1 => ?_) ?_; rotate_left 1; rfl; (obtain ⟨os1, d1, rfl⟩ := h1.more; go_simp; first | done | rfl)); try simp only [Act.put, zqA, zqB, zqC])
      (refine wpFg_done fun wz hXz hE => ?_; obtain ⟨osz, dz, rfl⟩ := hXz.more)
      refine wpTl_nil ?_
      go_wp2_with fail
      go_ret
      exact ⟨rfl, HXW.out.trans (by repeat (first | (with_reducible (first | exact Ext.refl _ | exact ext_d _ _ _ _ | exact ext_app _ _ _ _ _ | exact ext_app2 _ _ _ _ _ _)) | ((with_reducible refine ext_suffix ⟨_, ?_⟩); (try simp only [Array.append_assoc]); rfl) | (with_reducible (first | apply Ext.drew | apply Ext.alloc | apply Ext.more_))))⟩
theorem fmathIfs_any (A : Option Addr) (n cap : Nat) (l : List Int) (th wh : Int) (w : World) (htab : Tab w) (hft : FTab w) (h : IntsIn w .i16 (-32768) 32767 A n cap l) (hth : -32768 ≤ th ∧ th ≤ 32767) (hwh : 0 ≤ wh ∧ wh ≤ 255) :
    Calls Tryz.prog 4 #[.slice A n cap, .int .i16 th, .int .u8 wh] w fun e w' => e = .returned (.bool true) ∧ Ext w w' := by
  by_cases h1 : n < 1
  · have HT := Lib.hid htab
    have HF := Lib.hid hft
    have h1' : decide ((n : Int) < 1) = true := decide_eq_true (by omega)
    clear htab hft h
    go_enter Tryz.func4, Tryz.ntmps4
    go_wp2_with (first | (go_at_call 7; (with_reducible refine (awake11_any _ (HT.out.ext (by with_reducible repeat (first | exact Ext.refl _ | apply Ext.drew | apply Ext.alloc | apply Ext.more_))) (HF.out.ext (by with_reducible repeat (first | exact Ext.refl _ | apply Ext.drew | apply Ext.alloc | apply Ext.more_)))).mono ?_); rintro e w' ⟨rfl, hb⟩; obtain ⟨osw1, dw1, rfl⟩ := hb.more; clear hb))
    go_ret
    exact ⟨rfl, by with_reducible repeat (first | exact Ext.refl _ | apply Ext.drew | apply Ext.alloc | apply Ext.more_)⟩
  · by_cases h2 : 60 < n
    · have HT := Lib.hid htab
      have HF := Lib.hid hft
      have h1' : decide ((n : Int) < 1) = false := decide_eq_false (by omega)
      have h2' : decide ((60 : Int) < n) = true := decide_eq_true (by omega)
      clear htab hft h
      go_enter Tryz.func4, Tryz.ntmps4
      go_wp2_with (first | (go_at_call 7; (with_reducible refine (awake11_any _ (HT.out.ext (by with_reducible repeat (first | exact Ext.refl _ | apply Ext.drew | apply Ext.alloc | apply Ext.more_))) (HF.out.ext (by with_reducible repeat (first | exact Ext.refl _ | apply Ext.drew | apply Ext.alloc | apply Ext.more_)))).mono ?_); rintro e w' ⟨rfl, hb⟩; obtain ⟨osw1, dw1, rfl⟩ := hb.more; clear hb))
      go_ret
      exact ⟨rfl, by with_reducible repeat (first | exact Ext.refl _ | apply Ext.drew | apply Ext.alloc | apply Ext.more_)⟩
    · obtain ⟨j, rfl⟩ : ∃ j : Nat, wh = (j : Int) := ⟨wh.toNat, by omega⟩
      have hr : ((j : Int)).tmod 3 = ((j % 3 : Nat) : Int) := rfl
      have hj : j % 3 < 3 := Nat.mod_lt _ (by decide)
      generalize j % 3 = q at *
      have hq : q = 0 ∨ q = 1 ∨ q = 2 := by omega
      rcases hq with rfl | rfl | rfl
      · exact fmathIfs_c .gt 0 (Or.inl ⟨rfl, rfl⟩) A n cap l th j w htab hft h hth hwh hr (by omega) (by omega)
      · exact fmathIfs_c .lt 1 (Or.inr (Or.inl ⟨rfl, rfl⟩)) A n cap l th j w htab hft h hth hwh hr (by omega) (by omega)
      · exact fmathIfs_c .eq 2 (Or.inr (Or.inr ⟨rfl, rfl⟩)) A n cap l th j w htab hft h hth hwh hr (by omega) (by omega)
end Go.Proofs.YtkcoikelcmpceaaGreatDoor
