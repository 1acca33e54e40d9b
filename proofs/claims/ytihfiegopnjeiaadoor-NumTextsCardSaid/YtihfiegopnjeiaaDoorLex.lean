/- A number's text, plainly: num's reader and the document's parts tell the same. -/
import Derived.Test.YtihfiegopnjeiaaDoorText
import Derived.Test.YtihfiegopnjeiaaDoorSum
namespace Go.Proofs.YtihfiegopnjeiaaDoor
set_option linter.unusedSimpArgs false
set_option linter.unusedVariables false
open Go.RowKit NM
/-- Where num's reader stands. -/
structure St where
  st : Nat
  neg : Bool
  npow : Bool
  ds : List Nat
  beh : Nat
  pow : Nat
def isD (c : Nat) : Bool := decide (48 ≤ c ∧ c ≤ 57)
def digS (s : St) (c : Nat) : St :=
  if s.st ≤ 2 then { s with st := 2, ds := s.ds ++ [c - 48] }
  else if s.st ≤ 4 then { s with st := 4, beh := s.beh + 1, ds := s.ds ++ [c - 48] }
  else { s with st := 7, pow := if s.pow < 100000 then s.pow * 10 + (c - 48) else s.pow }
def takeS (s : St) (c : Nat) : Option St :=
  if isD c = true then some (digS s c)
  else if c = 45 ∧ s.st = 0 then some { s with neg := true, st := 1 }
  else if c = 46 ∧ s.st ≤ 2 then some { s with st := 3 }
  else if (c = 101 ∨ c = 69) ∧ (s.st = 2 ∨ s.st = 4) then some { s with st := 5 }
  else if (c = 45 ∨ c = 43) ∧ s.st = 5 then some { s with npow := decide (c = 45), st := 6 }
  else none
def runS : List Nat → St → Option St
  | [], s => some s
  | c :: l, s => (takeS s c).bind (runS l)
def endS (s : St) : Option (Int × Int) :=
  if s.st = 2 ∨ s.st = 4 ∨ s.st = 7 then rnd s.neg (val s.ds) false ((if s.npow then -(s.pow : Int) else s.pow) - s.beh) else none
def st0 : St := ⟨0, false, false, [], 0, 0⟩
def parM (l : List Nat) : Option (Int × Int) := (runS l st0).bind endS
/-- What the document says. -/
def powC (c : Nat) (t : List Nat) : Option Int :=
    if c ≠ 101 ∧ c ≠ 69 then none else
    let ng := t.head? = some 45
    let t' := if t.head? = some 43 ∨ t.head? = some 45 then t.tail else t
    if t' = [] ∨ ¬ (∀ c ∈ t', isD c = true) then none else
    let n : Nat := t'.foldl (fun n c => min 1000 (10 * n + (c - 48))) 0
    some (if ng then -(n : Int) else n)
def powR : List Nat → Option Int
  | [] => some 0
  | c :: t => powC c t
theorem powR_cons (c : Nat) (t : List Nat) : powR (c :: t) = powC c t := rfl
def parR (l : List Nat) : Option (Int × Int) :=
  let ng := decide (l.head? = some 45)
  let l1 := if l.head? = some 45 then l.tail else l
  let A := l1.takeWhile isD
  let l2 := l1.dropWhile isD
  let B := if l2.head? = some 46 then l2.tail.takeWhile isD else []
  let l3 := if l2.head? = some 46 then l2.tail.dropWhile isD else l2
  if l2.head? = some 46 ∧ B = [] then none else
  match powR l3 with
  | none => none
  | some e => if A.length + B.length = 0 then none else rnd ng (val ((A ++ B).map (· - 48))) false (e - B.length)
theorem runS_append (a b : List Nat) : ∀ s, runS (a ++ b) s = (runS a s).bind (runS b) := by
  induction a with
  | nil => intro s; rfl
  | cons c l ih =>
    intro s
    show (takeS s c).bind (runS (l ++ b)) = ((takeS s c).bind (runS l)).bind (runS b)
    cases takeS s c with
    | none => rfl
    | some s' => exact ih s'
theorem run_whole (a : List Nat) (h : ∀ c ∈ a, isD c = true) : ∀ s : St, s.st ≤ 2 → runS a s = some { s with st := if a = [] then s.st else 2, ds := s.ds ++ a.map (· - 48) } := by
  induction a with
  | nil => intro s hs; simp [runS]
  | cons c l ih =>
    intro s hs
    have hc := h c (List.mem_cons_self ..)
    show (takeS s c).bind (runS l) = _
    unfold takeS
    rw [if_pos hc]
    unfold digS
    rw [if_pos hs, Option.bind_some, ih (fun c hc => h c (List.mem_cons_of_mem _ hc)) _ (Nat.le_refl 2)]
    simp
theorem run_part (a : List Nat) (h : ∀ c ∈ a, isD c = true) : ∀ s : St, s.st = 3 ∨ s.st = 4 → runS a s = some { s with st := if a = [] then s.st else 4, ds := s.ds ++ a.map (· - 48), beh := s.beh + a.length } := by
  induction a with
  | nil => intro s hs; simp [runS]
  | cons c l ih =>
    intro s hs
    have hc := h c (List.mem_cons_self ..)
    show (takeS s c).bind (runS l) = _
    unfold takeS
    rw [if_pos hc]
    unfold digS
    rw [if_neg (by omega), if_pos (by omega), Option.bind_some, ih (fun c hc => h c (List.mem_cons_of_mem _ hc)) _ (Or.inr rfl)]
    simp; omega
def powF (p : Nat) (l : List Nat) : Nat := l.foldl (fun p c => if p < 100000 then p * 10 + (c - 48) else p) p
theorem run_pow (a : List Nat) (h : ∀ c ∈ a, isD c = true) : ∀ s : St, 5 ≤ s.st → runS a s = some { s with st := if a = [] then s.st else 7, pow := powF s.pow a } := by
  induction a with
  | nil => intro s hs; simp [runS, powF]
  | cons c l ih =>
    intro s hs
    have hc := h c (List.mem_cons_self ..)
    show (takeS s c).bind (runS l) = _
    unfold takeS
    rw [if_pos hc]
    unfold digS
    rw [if_neg (by omega), if_neg (by omega), Option.bind_some, ih (fun c hc => h c (List.mem_cons_of_mem _ hc)) _ (show 5 ≤ 7 by omega)]
    simp [powF]
theorem pow_two (l : List Nat) : ∀ p n : Nat, (p = n ∧ n < 1000 ∨ 1000 ≤ p ∧ n = 1000) → (powF p l = l.foldl (fun n c => min 1000 (10 * n + (c - 48))) n ∧ l.foldl (fun n c => min 1000 (10 * n + (c - 48))) n < 1000 ∨ 1000 ≤ powF p l ∧ l.foldl (fun n c => min 1000 (10 * n + (c - 48))) n = 1000) := by
  induction l with
  | nil => intro p n h; exact h
  | cons c l ih =>
    intro p n h
    show (powF (if p < 100000 then p * 10 + (c - 48) else p) l = _ ∧ _ ∨ _)
    apply ih
    show _ = min 1000 (10 * n + (c - 48)) ∧ min 1000 (10 * n + (c - 48)) < 1000 ∨ _ ∧ min 1000 (10 * n + (c - 48)) = 1000
    split <;> omega
theorem powF_bd (l : List Nat) (h : ∀ c ∈ l, isD c = true) : ∀ p, p ≤ 1000000 → powF p l ≤ 1000000 := by
  induction l with
  | nil => intro p hp; exact hp
  | cons c l ih =>
    intro p hp
    apply ih (fun c hc => h c (List.mem_cons_of_mem _ hc))
    have hc := h c (List.mem_cons_self ..)
    unfold isD at hc
    have hc := of_decide_eq_true hc
    show (if p < 100000 then p * 10 + (c - 48) else p) ≤ 1000000
    split <;> omega
theorem rnd_low_ {neg : Bool} {N : Nat} {e : Int} (h : nd N + e ≤ -100) : rnd neg N false e = some (0, 0) := by
  apply rnd_of_zero
  unfold n2
  apply cutN_far
  have h1 := n1_le N false
  have h2 : nd (n1 N false) ≤ 16 := (nd_le_iff _ _).2 (Nat.lt_of_le_of_lt h1 (T_lt (by omega)))
  omega
/-- Beyond a thousand a power of ten counts no more. -/
theorem rnd_same {neg ng : Bool} {N b p n : Nat} (hN : nd N ≤ 300) (hb : b ≤ 300) (h : p = n ∧ n < 1000 ∨ 1000 ≤ p ∧ n = 1000) : rnd neg N false ((if ng then -(p : Int) else p) - b) = rnd neg N false ((if ng then -(n : Int) else n) - b) := by
  rcases h with ⟨rfl, _⟩ | ⟨h1, rfl⟩
  · rfl
  · cases ng with
    | true =>
      simp only [if_true]
      rw [rnd_low_ (by omega), rnd_low_ (by omega)]
    | false =>
      simp only [Bool.false_eq_true, if_false]
      by_cases h0 : N = 0
      · rw [h0, rnd_nought, rnd_nought]
      · rw [rnd_far_up h0 (by omega), rnd_far_up h0 (by omega)]
theorem split_d (l : List Nat) : l = l.takeWhile isD ++ l.dropWhile isD := (List.takeWhile_append_dropWhile).symm
theorem take_d (l : List Nat) : ∀ c ∈ l.takeWhile isD, isD c = true := by
  intro c hc
  have := List.all_takeWhile (l := l) (p := isD)
  exact List.all_eq_true.1 this c hc
theorem drop_d {l : List Nat} {c : Nat} {t : List Nat} (h : l.dropWhile isD = c :: t) : isD c = false := by
  have := List.head?_dropWhile_not isD l
  rw [h] at this
  simpa using this
theorem run_digits {s : St} {t : List Nat} (hs : s.st = 5 ∨ s.st = 6) (hh : s.st = 5 → t.head? ≠ some 43 ∧ t.head? ≠ some 45) :
    (runS t s).bind endS = if t = [] ∨ ¬ (∀ c ∈ t, isD c = true) then none else rnd s.neg (val s.ds) false ((if s.npow then -(powF s.pow t : Int) else powF s.pow t) - s.beh) := by
  have h1 := split_d t
  have h2 := take_d t
  have h3 := fun c u => drop_d (l := t) (c := c) (t := u)
  generalize t.takeWhile isD = K at *
  generalize t.dropWhile isD = l4 at *
  subst h1
  rw [runS_append, run_pow K h2 s (by omega), Option.bind_some]
  cases l4 with
  | nil =>
    rw [List.append_nil]
    by_cases hK : K = []
    · subst hK
      rw [if_pos (Or.inl rfl)]
      show endS _ = none
      unfold endS
      rw [if_neg]
      simp; omega
    · have hcond : ¬ (K = [] ∨ ¬ (∀ c ∈ K, isD c = true)) := fun hx => hx.elim hK (fun h => h h2)
      rw [if_neg hcond]
      show endS _ = _
      unfold endS
      rw [if_pos (by simp [hK])]
  | cons c u =>
    have hc := h3 c u rfl
    rw [if_pos (Or.inr (fun h => by rw [h c (by simp)] at hc; cases hc))]
    have : takeS { s with st := if K = [] then s.st else 7, pow := powF s.pow K } c = none := by
      unfold takeS
      rw [if_neg (by rw [hc]; simp)]
      by_cases hK : K = []
      · subst hK
        simp only [if_true]
        rw [if_neg (by omega), if_neg (by omega), if_neg (by omega), if_neg]
        rintro ⟨h, h5⟩
        have := hh h5
        simp at this
        omega
      · simp only [if_neg hK]
        rw [if_neg (by omega), if_neg (by omega), if_neg (by omega), if_neg (by omega)]
    show ((takeS _ c).bind (runS u)).bind endS = none
    rw [this]; rfl
theorem run_tail {s : St} {l : List Nat} (hs : s.st = 2 ∧ l.head? ≠ some 46 ∨ s.st = 4) (hp : s.pow = 0) (hn : s.npow = false) (hd : ∀ c t, l = c :: t → isD c = false) (h1 : nd (val s.ds) ≤ 300) (h2 : s.beh ≤ 300) :
    (runS l s).bind endS = match powR l with
      | none => none
      | some e => rnd s.neg (val s.ds) false (e - s.beh) := by
  cases l with
  | nil =>
    show endS s = rnd s.neg (val s.ds) false (0 - s.beh)
    unfold endS
    rw [if_pos (by omega), hp, hn]; rfl
  | cons c t =>
    have hc := hd c t rfl
    by_cases he : c ≠ 101 ∧ c ≠ 69
    · have : powR (c :: t) = none := by rw [powR_cons]; unfold powC; rw [if_pos he]
      rw [this]
      have : takeS s c = none := by
        unfold takeS
        simp at hs
        rw [if_neg (by rw [hc]; simp), if_neg (by omega), if_neg (by omega), if_neg (by omega), if_neg (by omega)]
      show ((takeS s c).bind (runS t)).bind endS = none
      rw [this]; rfl
    · have ht : takeS s c = some { s with st := 5 } := by
        unfold takeS
        rw [if_neg (by rw [hc]; simp), if_neg (by omega), if_neg (by omega), if_pos (by omega)]
      show ((takeS s c).bind (runS t)).bind endS = _
      rw [ht, Option.bind_some]
      rw [powR_cons]
      unfold powC
      rw [if_neg he]
      simp only
      by_cases hsg : t.head? = some 43 ∨ t.head? = some 45
      · rw [if_pos hsg]
        obtain ⟨c', u, rfl⟩ : ∃ c' u, t = c' :: u := by
          cases t with
          | nil => simp at hsg
          | cons c' u => exact ⟨c', u, rfl⟩
        simp only [List.head?_cons, Option.some.injEq, List.tail_cons] at hsg ⊢
        have ht' : takeS { s with st := 5 } c' = some { s with npow := decide (c' = 45), st := 6 } := by
          rcases hsg with rfl | rfl <;> simp [takeS, isD]
        show ((takeS { s with st := 5 } c').bind (runS u)).bind endS = _
        rw [ht', Option.bind_some, run_digits (Or.inr rfl) (fun h => absurd h (by simp))]
        by_cases hb : u = [] ∨ ¬ (∀ c ∈ u, isD c = true)
        · rw [if_pos hb, if_pos hb]
        · rw [if_neg hb, if_neg hb]
          simp only [hp]
          have hpw := pow_two u 0 0 (Or.inl ⟨rfl, by omega⟩)
          have := rnd_same (neg := s.neg) (ng := decide (c' = 45)) h1 h2 hpw
          rw [this]
          by_cases h45 : c' = 45 <;> simp [h45]
      · rw [if_neg hsg, run_digits (Or.inl rfl) (fun _ => ⟨fun h => hsg (Or.inl h), fun h => hsg (Or.inr h)⟩)]
        by_cases hb : t = [] ∨ ¬ (∀ c ∈ t, isD c = true)
        · rw [if_pos hb, if_pos hb]
        · rw [if_neg hb, if_neg hb]
          simp only [hp, hn]
          have hpw := pow_two t 0 0 (Or.inl ⟨rfl, by omega⟩)
          have := rnd_same (neg := s.neg) (ng := false) h1 h2 hpw
          rw [this, if_neg (fun h => hsg (Or.inr h))]
          simp
def parR1 (ng : Bool) (l1 : List Nat) : Option (Int × Int) :=
  let A := l1.takeWhile isD
  let l2 := l1.dropWhile isD
  let B := if l2.head? = some 46 then l2.tail.takeWhile isD else []
  let l3 := if l2.head? = some 46 then l2.tail.dropWhile isD else l2
  if l2.head? = some 46 ∧ B = [] then none else
  match powR l3 with
  | none => none
  | some e => if A.length + B.length = 0 then none else rnd ng (val ((A ++ B).map (· - 48))) false (e - B.length)
theorem parR_one (l : List Nat) : parR l = parR1 (decide (l.head? = some 45)) (if l.head? = some 45 then l.tail else l) := rfl
theorem dig_len (a : List Nat) (h : ∀ c ∈ a, isD c = true) (hl : a.length ≤ 300) : nd (val (a.map (· - 48))) ≤ 300 := by
  have h1 : AllD (a.map (· - 48)) := by
    intro d hd
    obtain ⟨c, hc, rfl⟩ := List.mem_map.1 hd
    have := h c hc
    unfold isD at this
    have := of_decide_eq_true this
    omega
  have h2 := val_lt h1
  rw [List.length_map] at h2
  have := (nd_le_iff _ _).2 h2
  omega
theorem run_one {s : St} {l : List Nat} (hs : s.st = 0 ∧ l.head? ≠ some 45 ∨ s.st = 1) (hds : s.ds = []) (hbh : s.beh = 0) (hp : s.pow = 0) (hn : s.npow = false) (hl : l.length ≤ 300) :
    (runS l s).bind endS = parR1 s.neg l := by
  unfold parR1
  have hst : s.st ≤ 1 := by rcases hs with ⟨h, _⟩ | h <;> omega
  have h1 := split_d l
  have h2 := take_d l
  have h3 := fun c u => drop_d (l := l) (c := c) (t := u)
  generalize l.takeWhile isD = A at *
  generalize l.dropWhile isD = l2 at *
  subst h1
  simp only
  rw [runS_append, run_whole A h2 s (by omega), Option.bind_some, hds, List.nil_append]
  cases l2 with
  | nil =>
    simp only [List.head?_nil, if_neg (show ¬ (none : Option Nat) = some 46 by simp), false_and, if_false, reduceCtorEq]
    show endS _ = if A.length + 0 = 0 then none else _
    by_cases hA : A = []
    · subst hA
      show endS _ = none
      unfold endS
      exact if_neg (show ¬ (s.st = 2 ∨ s.st = 4 ∨ s.st = 7) by omega)
    · have hA0 : ¬ A.length + 0 = 0 := by cases A; exact absurd rfl hA; simp
      rw [if_neg hA0]
      unfold endS
      rw [if_pos (by simp [hA])]
      simp [hp, hn, hbh]
  | cons c t =>
    have hc := h3 c t rfl
    simp only [List.head?_cons, Option.some.injEq, List.tail_cons]
    by_cases h46 : c = 46
    · subst h46
      simp only [if_true, true_and]
      have ht : takeS { s with st := if A = [] then s.st else 2, ds := A.map (· - 48) } 46 = some { s with st := 3, ds := A.map (· - 48) } := by
        unfold takeS
        rw [if_neg (by unfold isD; simp), if_neg (by omega), if_pos]
        by_cases hA : A = [] <;> simp [hA]; omega
      show ((takeS _ 46).bind (runS t)).bind endS = _
      rw [ht, Option.bind_some]
      have k1 := split_d t
      have k2 := take_d t
      have k3 := fun c u => drop_d (l := t) (c := c) (t := u)
      generalize t.takeWhile isD = B at *
      generalize t.dropWhile isD = l3 at *
      subst k1
      rw [runS_append, run_part B k2 _ (Or.inl rfl), Option.bind_some]
      by_cases hB : B = []
      · subst hB
        rw [if_pos rfl]
        simp only [if_true]
        cases l3 with
        | nil => show endS _ = none; unfold endS; rw [if_neg (by simp)]
        | cons c u =>
          have hcd := k3 c u rfl
          have : takeS { s with st := 3, ds := A.map (· - 48) ++ [].map (· - 48), beh := s.beh + ([] : List Nat).length } c = none := by
            unfold takeS
            rw [if_neg (by rw [hcd]; simp), if_neg (by simp), if_neg (by simp), if_neg (by simp), if_neg (by simp)]
          show ((takeS _ c).bind (runS u)).bind endS = none
          rw [this]; rfl
      · rw [if_neg hB]
        simp only [if_neg hB]
        have hlen : A.length + (B.length + l3.length) + 1 ≤ 300 := by simp at hl; omega
        rw [run_tail (s := { s with st := 4, ds := A.map (· - 48) ++ B.map (· - 48), beh := s.beh + B.length }) (Or.inr rfl) hp hn k3 (by show nd (val (A.map (· - 48) ++ B.map (· - 48))) ≤ 300; rw [← List.map_append]; exact dig_len _ (fun c hc => (List.mem_append.1 hc).elim (h2 c) (k2 c)) (by simp; omega)) (by simp [hbh]; omega)]
        have hB0 : ¬ A.length + B.length = 0 := by cases B; exact absurd rfl hB; simp
        simp only [if_neg hB0, hbh, Nat.zero_add, List.map_append]
    · simp only [if_neg h46]
      rw [if_neg (show ¬ (c = 46 ∧ _) from fun h => h46 h.1)]
      by_cases hA : A = []
      · subst hA
        have : takeS { s with st := if ([] : List Nat) = [] then s.st else 2, ds := [].map (· - 48) } c = none := by
          unfold takeS
          simp only [if_true]
          simp at hs
          rw [if_neg (by rw [hc]; simp), if_neg (by omega), if_neg (by omega), if_neg (by omega), if_neg (by omega)]
        show ((takeS _ c).bind (runS t)).bind endS = _
        rw [this]
        cases powR (c :: t) <;> rfl
      · simp only [if_neg hA]
        have hlen : A.length + t.length + 1 ≤ 300 := by simp at hl; omega
        rw [run_tail (s := { s with st := 2, ds := A.map (· - 48) }) (Or.inl ⟨rfl, by simpa using h46⟩) hp hn (fun c' u hu => by cases hu; exact hc) (dig_len A h2 (by omega)) (by simp [hbh])]
        have hA0 : ¬ A.length + 0 = 0 := by cases A; exact absurd rfl hA; simp
        simp only [List.length_nil, if_neg hA0, hbh, List.append_nil]
/-- The reader and the document tell the same. -/
theorem parse_law (l : List Nat) (hl : l.length ≤ 300) : parM l = parR l := by
  rw [parR_one]
  unfold parM
  by_cases h : l.head? = some 45
  · cases l with
    | nil => simp at h
    | cons c t =>
      simp only [List.head?_cons, Option.some.injEq] at h
      subst h
      simp only [List.head?_cons, if_true, List.tail_cons, decide_true]
      show ((takeS st0 45).bind (runS t)).bind endS = _
      have : takeS st0 45 = some { st0 with neg := true, st := 1 } := by simp [takeS, isD, st0]
      rw [this, Option.bind_some]
      exact run_one (Or.inr rfl) rfl rfl rfl rfl (by simp at hl; omega)
  · rw [if_neg h, decide_eq_false h]
    exact run_one (Or.inl ⟨rfl, h⟩) rfl rfl rfl rfl hl
/-- The bytes that tell digits. -/
def chr (l : List Nat) : List Nat := l.map (48 + ·)
theorem chr_isD {l : List Nat} (h : AllD l) : ∀ c ∈ chr l, isD c = true := by
  intro c hc
  obtain ⟨d, hd, rfl⟩ := List.mem_map.1 hc
  have := h d hd
  unfold isD
  exact decide_eq_true (by omega)
theorem chr_back (l : List Nat) : (chr l).map (· - 48) = l := by
  unfold chr
  rw [List.map_map]
  conv => rhs; rw [← List.map_id l]
  apply List.map_congr_left
  intro d _
  show 48 + d - 48 = d
  omega
theorem chr_dec (n : Nat) : (Lib.decDigits n).map (·.toNat) = chr (dig0 n) := by
  rw [dec_dig, List.map_map]
  apply List.map_congr_left
  intro d hd
  have := dig0_all n d hd
  show (UInt8.ofNat (48 + d)).toNat = 48 + d
  rw [UInt8.toNat_ofNat']; omega
def sgnS (neg : Bool) : St := { st0 with neg := neg, st := if neg then 1 else 0 }
theorem run_sign (neg : Bool) (l : List Nat) : runS ((if neg then [45] else []) ++ l) st0 = runS l (sgnS neg) := by
  cases neg with
  | false => rfl
  | true =>
    show (takeS st0 45).bind (runS l) = _
    have : takeS st0 45 = some (sgnS true) := by simp [takeS, isD, st0, sgnS]
    rw [this]; rfl
theorem sgnS_st (neg : Bool) : (sgnS neg).st ≤ 2 := by cases neg <;> decide
theorem run_dot {s : St} (h : s.st = 2) : takeS s 46 = some { s with st := 3 } := by
  unfold takeS
  rw [if_neg (by decide), if_neg (by omega), if_pos (by omega)]
theorem text_back {m e : Int} (h : Rt m e) : parM ((textL m e).map (·.toNat)) = some (m, e) := by
  have hr := rnd_of_right false h
  obtain ⟨b1, b2, b3⟩ := Rt_bd h
  clear h
  have hD := dig0_all m.natAbs
  have hV := dig0_val m.natAbs
  have hlen : (Lib.decDigits m.natAbs).length = (dig0 m.natAbs).length := by rw [dec_dig, List.length_map]
  have hpos : 0 < (dig0 m.natAbs).length := by rw [dig0_length]; omega
  have hsg : (if m < 0 then [(45 : UInt8)] else []).map (·.toNat) = if decide (m < 0) then [45] else [] := by by_cases hm : m < 0 <;> simp [hm]
  unfold textL parM
  rw [List.map_append, hsg, run_sign, hlen]
  by_cases he : 0 ≤ e
  · rw [if_pos he, List.map_append, chr_dec, List.map_replicate]
    have hz : List.replicate e.toNat ((48 : UInt8).toNat) = chr (List.replicate e.toNat 0) := by unfold chr; rw [List.map_replicate]; rfl
    rw [hz]
    have ha : chr (dig0 m.natAbs) ++ chr (List.replicate e.toNat 0) = chr (dig0 m.natAbs ++ List.replicate e.toNat 0) := by unfold chr; rw [List.map_append]
    rw [ha, run_whole _ (chr_isD (hD.append (AllD.rep _ _ (by omega)))) _ (sgnS_st _), Option.bind_some, chr_back]
    unfold endS
    have hne : ¬ chr (dig0 m.natAbs ++ List.replicate e.toNat 0) = [] := by
      intro h0
      have := congrArg List.length h0
      simp only [chr, List.length_map, List.length_append, List.length_replicate, List.length_take, List.length_drop, List.length_nil] at this
      omega
    rw [if_pos (by simp [hne])]
    show rnd (decide (m < 0)) (val ([] ++ (dig0 m.natAbs ++ List.replicate e.toNat 0))) false (((0 : Nat) : Int) - ((0 : Nat) : Int)) = _
    rw [List.nil_append, val_append, val_rep0, List.length_replicate, hV, Nat.add_zero]
    have := rnd_scale (decide (m < 0)) m.natAbs e.toNat e
    rw [show e - (e.toNat : Int) = ((0 : Nat) : Int) - ((0 : Nat) : Int) by omega] at this
    rw [this, hr]
  · rw [if_neg he]
    by_cases hk : 0 < ((dig0 m.natAbs).length : Int) + e
    · rw [if_pos hk]
      obtain ⟨k, hk1⟩ : ∃ k : Nat, ((dig0 m.natAbs).length : Int) + e = k := ⟨(((dig0 m.natAbs).length : Int) + e).toNat, by omega⟩
      rw [hk1, Int.toNat_natCast, List.map_append, List.map_take, List.map_cons, List.map_drop, chr_dec]
      have e1 : (chr (dig0 m.natAbs)).take k = chr ((dig0 m.natAbs).take k) := by unfold chr; rw [List.map_take]
      have e2 : (chr (dig0 m.natAbs)).drop k = chr ((dig0 m.natAbs).drop k) := by unfold chr; rw [List.map_drop]
      rw [e1, e2, runS_append, run_whole _ (chr_isD (hD.take k)) _ (sgnS_st _), Option.bind_some, chr_back]
      have n1 : ¬ chr ((dig0 m.natAbs).take k) = [] := by
        intro h0
        have := congrArg List.length h0
        simp only [chr, List.length_map, List.length_append, List.length_replicate, List.length_take, List.length_drop, List.length_nil] at this
        omega
      have n2 : ¬ chr ((dig0 m.natAbs).drop k) = [] := by
        intro h0
        have := congrArg List.length h0
        simp only [chr, List.length_map, List.length_append, List.length_replicate, List.length_take, List.length_drop, List.length_nil] at this
        omega
      rw [if_neg n1]
      show ((takeS _ 46).bind (runS _)).bind endS = _
      rw [run_dot rfl, Option.bind_some, run_part _ (chr_isD (hD.drop k)) _ (Or.inl rfl), Option.bind_some, chr_back, if_neg n2]
      unfold endS
      rw [if_pos (by simp)]
      show rnd (decide (m < 0)) (val ([] ++ (dig0 m.natAbs).take k ++ (dig0 m.natAbs).drop k)) false (((0 : Nat) : Int) - ((0 + (chr ((dig0 m.natAbs).drop k)).length : Nat) : Int)) = _
      rw [List.nil_append, List.take_append_drop, hV]
      have : ((0 : Nat) : Int) - ((0 + (chr ((dig0 m.natAbs).drop k)).length : Nat) : Int) = e := by
        unfold chr; rw [List.length_map, List.length_drop]; omega
      rw [this, hr]
    · rw [if_neg hk]
      obtain ⟨k, hk1⟩ : ∃ k : Nat, -(((dig0 m.natAbs).length : Int) + e) = k := ⟨(-(((dig0 m.natAbs).length : Int) + e)).toNat, by omega⟩
      rw [hk1, Int.toNat_natCast, List.map_cons, List.map_cons, List.map_append, chr_dec, List.map_replicate]
      have hz : List.replicate k ((48 : UInt8).toNat) = chr (List.replicate k 0) := by unfold chr; rw [List.map_replicate]; rfl
      rw [hz]
      have ha : chr (List.replicate k 0) ++ chr (dig0 m.natAbs) = chr (List.replicate k 0 ++ dig0 m.natAbs) := by unfold chr; rw [List.map_append]
      rw [ha]
      have hAD : AllD (List.replicate k 0 ++ dig0 m.natAbs) := (AllD.rep _ _ (by omega)).append hD
      have n2 : ¬ chr (List.replicate k 0 ++ dig0 m.natAbs) = [] := by
        intro h0
        have := congrArg List.length h0
        simp only [chr, List.length_map, List.length_append, List.length_replicate, List.length_take, List.length_drop, List.length_nil] at this
        omega
      have h1 := run_whole [48] (by simp [isD]) (sgnS (decide (m < 0))) (sgnS_st _)
      show (runS ([48] ++ (46 :: chr (List.replicate k 0 ++ dig0 m.natAbs))) _).bind endS = _
      rw [runS_append, h1, Option.bind_some, if_neg (by simp)]
      show ((takeS _ 46).bind (runS _)).bind endS = _
      rw [run_dot rfl, Option.bind_some, run_part _ (chr_isD hAD) _ (Or.inl rfl), Option.bind_some, chr_back, if_neg n2]
      unfold endS
      rw [if_pos (by simp)]
      show rnd (decide (m < 0)) (val ([] ++ [0] ++ (List.replicate k 0 ++ dig0 m.natAbs))) false (((0 : Nat) : Int) - ((0 + (chr (List.replicate k 0 ++ dig0 m.natAbs)).length : Nat) : Int)) = _
      have hv : val ([] ++ [0] ++ (List.replicate k 0 ++ dig0 m.natAbs)) = m.natAbs := by
        rw [List.nil_append, val_append, val_append, val_rep0, hV]; simp [val]
      rw [hv]
      have : ((0 : Nat) : Int) - ((0 + (chr (List.replicate k 0 ++ dig0 m.natAbs)).length : Nat) : Int) = e := by
        unfold chr; rw [List.length_map, List.length_append, List.length_replicate]; omega
      rw [this, hr]
end Go.Proofs.YtihfiegopnjeiaaDoor
