/- What the rows' proofs lean on: the contracts of the functions that they reach, and plain facts (part O2). -/
import Derived.WalkKit
import Derived.WalkLawsBesides
import Derived.WalkSpells
import Derived.Outline
import Derived.Below
import Derived.Deep.RegionHeld3
import Derived.Deep.DeepCutAuto
import Derived.Deep.AppendLies
import Derived.Maps.AppendAt
import Derived.Lib.Hide
import Derived.OrdersHeld
import Derived.Test.YtkcoikelcmpceaaGreatDoorProg
import Derived.Shelf.Strings.Builder1
import Derived.Shelf.Strings.Builder2
import Derived.Shelf.Small.Bits
import Derived.Shelf.Small.Strs
import Derived.Shelf.Small.Wraps
import Derived.Shelf.Strings.BuilderF
import Derived.Shelf.Strconv.Itoa0
import Derived.Shelf.Strconv.Itoa1
import Derived.Shelf.LaysM
import Derived.Shelf.Strconv.Itoa2
import Derived.Shelf.Strings.Prefix
import Derived.Shelf.Bits.Mul64
import Derived.Shelf.Strings.Repeat
import Derived.Lib.ItoaMem
import Derived.Lib.OthersKept
import Derived.Deep.CutBlock
import Derived.Laws.Bits64b
import Derived.Lib.AppendZeros
import Derived.Lib.Bytealg
import Derived.Laws.RangeAny
import Derived.Maps.OwnSet
import Derived.Maps.Own
import Derived.Laws.EntriesVeiled
import Derived.Lib.ConvBytes
import Derived.Lib.SlBytesRow
import Derived.Lib.SmallJoins
import Derived.RegionTactic
import Derived.Test.YtkcoikelcmpceaaGreatDoorRows
import Derived.Test.YtkcoikelcmpceaaGreatDoorCards
import Derived.Test.YtkcoikelcmpceaaGreatDoorTie
import Derived.ProofKit
import Derived.LaidMore
import Derived.OpenShut
import Derived.ShutString
import Derived.ChangeOld
import Derived.Stop.Joined
import Derived.Deep.Slices
import Derived.SevenTiedAt
import Derived.Test.YtkcoikelcmpceaaGreatDoorO1
set_option linter.unusedSimpArgs false
set_option linter.unusedVariables false
set_option maxRecDepth 100000
namespace Go.Proofs.YtkcoikelcmpceaaGreatDoor
open Go.RowKit NM
theorem getD_at {l : List Nm} {k : Nat} (h : k < l.length) {d : Nm} : l.getD k d = l[k] := by rw [List.getD_eq_getElem?_getD, List.getElem?_eq_getElem h]; rfl
theorem getD_no {l : List Nm} {k : Nat} (h : l.length ≤ k) {d : Nm} : l.getD k d = d := by rw [List.getD_eq_getElem?_getD, List.getElem?_eq_none h]; rfl
/-- Where a number stands. -/
def scN (p : Nm) : Int := sc p.1 p.2
def leN (a b : Nm) : Bool := decide (scN a ≤ scN b)
def srtN (l : List Nm) : List Nm := l.mergeSort leN
def atN (l : List Nm) (k : Nat) : Nm := l.getD k (0, 0)
theorem srt_perm (l : List Nm) : (srtN l).Perm l := List.mergeSort_perm l leN
theorem srt_up (l : List Nm) : (srtN l).Pairwise (fun a b => scN a ≤ scN b) := by
  have h := List.pairwise_mergeSort (le := leN) (fun a b c h1 h2 => by simp only [leN, decide_eq_true_eq] at *; omega) (fun a b => by simp only [leN, Bool.or_eq_true, decide_eq_true_eq]; omega) l
  exact h.imp fun h => of_decide_eq_true h
theorem srt_len (l : List Nm) : (srtN l).length = l.length := (srt_perm l).length_eq
theorem srt_uniq {l l' : List Nm} (hr : NRt l) (hp : l'.Perm l) (hs : l'.Pairwise (fun a b => scN a ≤ scN b)) : l' = srtN l :=
  List.Perm.eq_of_pairwise (fun a b ha hb h1 h2 => by
    have ra := hr a (hp.mem_iff.1 ha)
    have rb := hr b ((srt_perm l).mem_iff.1 hb)
    obtain ⟨e1, e2⟩ := sc_uniq ra rb (Int.le_antisymm h1 h2)
    exact Prod.ext e1 e2) hs (srt_up l) (hp.trans (srt_perm l).symm)
theorem srt_same {l l' : List Nm} (hr : NRt l) (hp : l'.Perm l) : srtN l' = srtN l := srt_uniq hr ((srt_perm l').trans hp) (srt_up l')
theorem srt_down {l l' : List Nm} (hr : NRt l) (hp : l'.Perm l) (hs : l'.Pairwise (fun a b => scN b ≤ scN a)) : l' = (srtN l).reverse := by
  have h := srt_uniq hr ((List.reverse_perm l').trans hp) (List.pairwise_reverse.2 hs)
  rw [← h, List.reverse_reverse]
theorem nrt_perm {l l' : List Nm} (hr : NRt l) (hp : l'.Perm l) : NRt l' := fun p h => hr p (hp.mem_iff.1 h)
theorem atN_rt {l : List Nm} (hr : NRt l) (k : Nat) : Rt (atN l k).1 (atN l k).2 := by
  unfold atN
  by_cases h : k < l.length
  · rw [getD_at h]; exact hr _ (List.getElem_mem h)
  · rw [getD_no (by omega)]; exact Or.inl ⟨rfl, rfl⟩
theorem srt_rt {l : List Nm} (hr : NRt l) : NRt (srtN l) := nrt_perm hr (srt_perm l)
/-- What LARGE, SMALL tell. -/
def ordN (great : Bool) (l : List Nm) : List Nm := if great then (srtN l).reverse else srtN l
theorem ordN_rt {l : List Nm} (great : Bool) (hr : NRt l) : NRt (ordN great l) := by
  unfold ordN; split
  · exact nrt_perm (srt_rt hr) (List.reverse_perm _)
  · exact srt_rt hr
def rankO (great : Bool) (xs : List Ar) : NA :=
  if ffL (argN xs 0).l = 0 then
    (if (wholeO (argV xs 1)).2 = 0 then
      (if (wholeO (argV xs 1)).1 < 1 ∨ ((numsL (argN xs 0).l).length : Int) < (wholeO (argV xs 1)).1 then aloneO 5
      else oneA (nV (atN (ordN great (numsL (argN xs 0).l)) ((wholeO (argV xs 1)).1 - 1).toNat)))
    else aloneO (wholeO (argV xs 1)).2)
  else aloneO (ffL (argN xs 0).l)
/-- What MEDIAN tells. -/
def medV (l : List Nm) : Val :=
  if l.length = 0 then badV 5
  else if l.length % 2 = 1 then nV (atN (srtN l) (l.length / 2))
  else match addS (atN (srtN l) (l.length / 2 - 1)).1 (atN (srtN l) (l.length / 2 - 1)).2 (atN (srtN l) (l.length / 2)).1 (atN (srtN l) (l.length / 2)).2 with
    | none => badV 5
    | some t => numRes (divS t.1 t.2 2 0)
theorem medV_same {l l' : List Nm} (hr : NRt l) (hp : l'.Perm l) : medV l' = medV l := by
  unfold medV
  rw [hp.length_eq, srt_same hr hp]
/-- The least one. -/
theorem out_least : ∀ (l : List Nm) (f : Nm), Rt f.1 f.2 → NRt l → outO (-1) f l ∈ f :: l ∧ ∀ x ∈ f :: l, scN (outO (-1) f l) ≤ scN x
  | [], f, _, _ => ⟨List.mem_singleton.2 rfl, fun x hx => by rw [List.mem_singleton.1 hx]; exact Int.le_refl _⟩
  | n :: l, f, hf, hl => by
    have hn := hl n List.mem_cons_self
    have hl' : NRt l := fun p hp => hl p (List.mem_cons_of_mem _ hp)
    have hc := cmp_sc hn hf
    unfold outO
    by_cases h : cmpS n.1 n.2 f.1 f.2 = -1
    · rw [if_pos h]
      rw [hc] at h
      have h1 := Int.neg_of_sign_eq_neg_one h
      obtain ⟨m1, m2⟩ := out_least l n hn hl'
      refine ⟨List.mem_cons_of_mem _ m1, fun x hx => ?_⟩
      rcases List.mem_cons.1 hx with rfl | hx
      · have := m2 n List.mem_cons_self
        show _ ≤ sc x.1 x.2
        have e : scN n = sc n.1 n.2 := rfl
        omega
      · exact m2 x hx
    · rw [if_neg h]
      have h1 : ¬ (sc n.1 n.2 - sc f.1 f.2) < 0 := fun h2 => h (by rw [hc]; exact Int.sign_eq_neg_one_of_neg h2)
      obtain ⟨m1, m2⟩ := out_least l f hf hl'
      refine ⟨?_, fun x hx => ?_⟩
      · rcases List.mem_cons.1 m1 with e | m1
        · rw [e]; exact List.mem_cons_self
        · exact List.mem_cons_of_mem _ (List.mem_cons_of_mem _ m1)
      · rcases List.mem_cons.1 hx with rfl | hx
        · exact m2 x List.mem_cons_self
        · rcases List.mem_cons.1 hx with rfl | hx
          · have := m2 f List.mem_cons_self
            have e : scN f = sc f.1 f.2 := rfl
            show _ ≤ sc x.1 x.2
            omega
          · exact m2 x (List.mem_cons_of_mem _ hx)
/-- The greatest one. -/
theorem out_most : ∀ (l : List Nm) (f : Nm), Rt f.1 f.2 → NRt l → outO 1 f l ∈ f :: l ∧ ∀ x ∈ f :: l, scN x ≤ scN (outO 1 f l)
  | [], f, _, _ => ⟨List.mem_singleton.2 rfl, fun x hx => by rw [List.mem_singleton.1 hx]; exact Int.le_refl _⟩
  | n :: l, f, hf, hl => by
    have hn := hl n List.mem_cons_self
    have hl' : NRt l := fun p hp => hl p (List.mem_cons_of_mem _ hp)
    have hc := cmp_sc hn hf
    unfold outO
    by_cases h : cmpS n.1 n.2 f.1 f.2 = 1
    · rw [if_pos h]
      rw [hc] at h
      have h1 := Int.pos_of_sign_eq_one h
      obtain ⟨m1, m2⟩ := out_most l n hn hl'
      refine ⟨List.mem_cons_of_mem _ m1, fun x hx => ?_⟩
      rcases List.mem_cons.1 hx with rfl | hx
      · have := m2 n List.mem_cons_self
        show sc x.1 x.2 ≤ _
        have e : scN n = sc n.1 n.2 := rfl
        omega
      · exact m2 x hx
    · rw [if_neg h]
      have h1 : ¬ 0 < (sc n.1 n.2 - sc f.1 f.2) := fun h2 => h (by rw [hc]; exact Int.sign_eq_one_of_pos h2)
      obtain ⟨m1, m2⟩ := out_most l f hf hl'
      refine ⟨?_, fun x hx => ?_⟩
      · rcases List.mem_cons.1 m1 with e | m1
        · rw [e]; exact List.mem_cons_self
        · exact List.mem_cons_of_mem _ (List.mem_cons_of_mem _ m1)
      · rcases List.mem_cons.1 hx with rfl | hx
        · exact m2 x List.mem_cons_self
        · rcases List.mem_cons.1 hx with rfl | hx
          · have := m2 f List.mem_cons_self
            have e : scN f = sc f.1 f.2 := rfl
            show sc x.1 x.2 ≤ _
            omega
          · exact m2 x (List.mem_cons_of_mem _ hx)
theorem atN_mem {l : List Nm} {k : Nat} (h : k < l.length) : atN l k ∈ l := by unfold atN; rw [getD_at h]; exact List.getElem_mem h
theorem up_at {l : List Nm} (h : l.Pairwise (fun a b => scN a ≤ scN b)) {i j : Nat} (hij : i ≤ j) (hj : j < l.length) : scN (atN l i) ≤ scN (atN l j) := by
  unfold atN
  rw [getD_at hj, getD_at (by omega)]
  rcases Nat.lt_or_ge i j with h1 | h1
  · exact List.pairwise_iff_getElem.1 h i j (by omega) hj h1
  · obtain rfl : i = j := by omega
    exact Int.le_refl _
theorem sc_eq {a b : Nm} (ha : Rt a.1 a.2) (hb : Rt b.1 b.2) (h : scN a = scN b) : a = b := by
  obtain ⟨e1, e2⟩ := sc_uniq ha hb h
  exact Prod.ext e1 e2
theorem mem_at {l : List Nm} {x : Nm} (h : x ∈ l) : ∃ i, i < l.length ∧ atN l i = x := by
  obtain ⟨i, hi, rfl⟩ := List.mem_iff_getElem.1 h
  exact ⟨i, hi, by unfold atN; rw [getD_at hi]⟩
theorem outV_least {l : List Nm} (hr : NRt l) (h0 : 0 < l.length) : outV (-1) l = nV (atN (srtN l) 0) := by
  cases l with
  | nil => simp at h0
  | cons n l =>
    show nV (outO (-1) n (n :: l)) = _
    obtain ⟨m1, m2⟩ := out_least (n :: l) n (hr n List.mem_cons_self) hr
    have m3 : outO (-1) n (n :: l) ∈ n :: l := by
      rcases List.mem_cons.1 m1 with e | m1
      · rw [e]; exact List.mem_cons_self
      · exact m1
    have hz : atN (srtN (n :: l)) 0 ∈ n :: l := (srt_perm _).mem_iff.1 (atN_mem (by rw [srt_len]; exact h0))
    obtain ⟨i, hi, e⟩ := mem_at ((srt_perm (n :: l)).mem_iff.2 m3)
    have h1 := up_at (srt_up (n :: l)) (Nat.zero_le i) hi
    rw [e] at h1
    rw [sc_eq (hr _ m3) (hr _ hz) (Int.le_antisymm (m2 _ (List.mem_cons_of_mem _ hz)) h1)]
theorem outV_most {l : List Nm} (hr : NRt l) (h0 : 0 < l.length) : outV 1 l = nV (atN (srtN l) (l.length - 1)) := by
  cases l with
  | nil => simp at h0
  | cons n l =>
    show nV (outO 1 n (n :: l)) = _
    obtain ⟨m1, m2⟩ := out_most (n :: l) n (hr n List.mem_cons_self) hr
    have m3 : outO 1 n (n :: l) ∈ n :: l := by
      rcases List.mem_cons.1 m1 with e | m1
      · rw [e]; exact List.mem_cons_self
      · exact m1
    have hz : atN (srtN (n :: l)) ((n :: l).length - 1) ∈ n :: l := (srt_perm _).mem_iff.1 (atN_mem (by rw [srt_len]; omega))
    obtain ⟨i, hi, e⟩ := mem_at ((srt_perm (n :: l)).mem_iff.2 m3)
    rw [srt_len] at hi
    have h1 := up_at (srt_up (n :: l)) (i := i) (j := (n :: l).length - 1) (by omega) (by rw [srt_len]; omega)
    rw [e] at h1
    rw [sc_eq (hr _ m3) (hr _ hz) (Int.le_antisymm h1 (m2 _ (List.mem_cons_of_mem _ hz)))]
theorem rev_at {l : List Nm} {k : Nat} (h : k < l.length) : atN l.reverse k = atN l (l.length - 1 - k) := by
  unfold atN
  rw [getD_at (by rw [List.length_reverse]; exact h), getD_at (by omega), List.getElem_reverse]
/-- The order of places by a list of numbers. -/
def ltN (great : Bool) (l : List Nm) (i j : Nat) : Bool := if great then decide (scN (atN l j) < scN (atN l i)) else decide (scN (atN l i) < scN (atN l j))
theorem swo_ltN (great : Bool) (l : List Nm) : Swo (ltN great l) := by
  cases great <;> constructor <;> (intros; simp only [ltN, if_true, if_false, Bool.false_eq_true, decide_eq_true_eq, decide_eq_false_iff_not] at *; omega)
theorem atN_range (l : List Nm) : (List.range l.length).map (atN l) = l := by
  apply List.ext_getElem
  · simp
  · intro i h1 h2
    rw [List.getElem_map, List.getElem_range]
    unfold atN
    rw [getD_at h2]
theorem sort_ordN {great : Bool} {l : List Nm} (hr : NRt l) : (sortN (ltN great l) l.length).map (atN l) = ordN great l := by
  obtain ⟨hp, hs⟩ := sortN_spec (lt := ltN great l) (swo_ltN great l) l.length
  have hp2 : ((sortN (ltN great l) l.length).map (atN l)).Perm l := by
    have := hp.map (atN l)
    rwa [atN_range] at this
  cases great with
  | false =>
    refine srt_uniq hr hp2 (List.pairwise_map.2 (hs.imp fun {i j} h => ?_))
    have := Lx.le (swo_ltN false l) h
    simp only [ltN, Bool.false_eq_true, if_false, decide_eq_false_iff_not] at this
    omega
  | true =>
    refine srt_down hr hp2 (List.pairwise_map.2 (hs.imp fun {i j} h => ?_))
    have := Lx.le (swo_ltN true l) h
    simp only [ltN, if_true, decide_eq_false_iff_not] at this
    omega
/-- A list turned about. -/
def rotN (l : List Nm) (by_ : Nat) (k : Nat) : List Nm := (List.range k).map fun i => atN l ((i + by_) % l.length)
theorem rot_len (l : List Nm) (b k : Nat) : (rotN l b k).length = k := by unfold rotN; simp
theorem rot_succ (l : List Nm) (b k : Nat) : rotN l b (k + 1) = rotN l b k ++ [atN l ((k + b) % l.length)] := by
  unfold rotN; rw [List.range_succ, List.map_append]; rfl
theorem rot_eq (l : List Nm) (b : Nat) (h0 : 0 < l.length) : rotN l b l.length = l.drop (b % l.length) ++ l.take (b % l.length) := by
  have hr : b % l.length < l.length := Nat.mod_lt _ h0
  unfold rotN
  apply List.ext_getElem
  · rw [List.length_map, List.length_range, List.length_append, List.length_drop, List.length_take]; omega
  · intro i h9 h2
    have h1 := h9
    rw [List.length_map, List.length_range] at h1
    rw [List.getElem_map, List.getElem_range]
    have hm : (i + b) % l.length = (i + b % l.length) % l.length := by rw [Nat.add_mod, Nat.mod_eq_of_lt h1]
    rw [hm]
    generalize b % l.length = r at *
    unfold atN
    by_cases hi : i < l.length - r
    · rw [List.getElem_append_left (by rw [List.length_drop]; exact hi), List.getElem_drop, Nat.mod_eq_of_lt (by omega), getD_at (by omega)]
      congr 1; omega
    · rw [List.getElem_append_right (by rw [List.length_drop]; omega), List.getElem_take]
      have he : (i + r) % l.length = i + r - l.length := by rw [Nat.mod_eq_sub_mod (by omega), Nat.mod_eq_of_lt (by omega)]
      rw [he, getD_at (by omega)]
      congr 1
      rw [List.length_drop]; omega
theorem rot_perm (l : List Nm) (b : Nat) (h0 : 0 < l.length) : (rotN l b l.length).Perm l := by
  rw [rot_eq l b h0]
  exact List.perm_append_comm.trans (by rw [List.take_append_drop])
theorem numsL_nV : ∀ l : List Nm, numsL (l.map nV) = l
  | [] => rfl
  | a :: l => by
    show numsL (nV a :: l.map nV) = _
    unfold numsL
    rw [if_pos (show (nV a).kind = 1 from rfl), numsL_nV l]
    rfl
theorem ffL_nV : ∀ l : List Nm, ffL (l.map nV) = 0
  | [] => rfl
  | a :: l => by
    show ffL (nV a :: l.map nV) = 0
    unfold ffL
    rw [if_neg (by show ¬ (1 : Int) = 4; decide)]
    exact ffL_nV l
theorem ofNums_row (F : List Nm → Val) {xs : List Ar} {l : List Nm} (h : allV xs = l.map nV) : ofNumsO F xs = oneA (F l) := by
  unfold ofNumsO
  rw [h, ffL_nV, numsL_nV, if_pos rfl]
theorem isNum_nV : ∀ l : List Nm, (l.map nV).filter isNum = l.map nV
  | [] => rfl
  | a :: l => by rw [List.map_cons, List.filter_cons_of_pos (show isNum (nV a) = true from rfl), isNum_nV l]
theorem count_nV {xs : List Ar} {l : List Nm} (h : allV xs = l.map nV) : countedO isNum (allV xs) = oneA (nV (wholeN l.length)) := by
  unfold countedO
  rw [h, isNum_nV, List.length_map]
  rfl
theorem rank_row (great : Bool) (l : List Nm) (k : Nat) (h1 : 0 < k) (h2 : k ≤ l.length) (h3 : l.length ≤ 4096) (D D' : Option Addr) (n c m c' : Nat) : rankO great [kAr (l.map nV) D n c, arAt (rowA [nV (wholeN k)]) D' m c'] = oneA (nV (atN (ordN great l) (k - 1))) := by
  have e0 : (argN [kAr (l.map nV) D n c, arAt (rowA [nV (wholeN k)]) D' m c'] 0).l = l.map nV := rfl
  have e1 : argV [kAr (l.map nV) D n c, arAt (rowA [nV (wholeN k)]) D' m c'] 1 = nV (wholeN k) := rfl
  have e2 : wholeO (nV (wholeN k)) = ((k : Int), 0) := whole_cnt (by have : T 15 = 1000000000000000 := (by decide); omega)
  unfold rankO
  rw [e0, e1, e2, ffL_nV, numsL_nV, if_pos rfl, if_pos rfl, if_neg (by simp only; omega)]
  simp only
  rw [show ((k : Int) - 1).toNat = k - 1 by omega]
end Go.Proofs.YtkcoikelcmpceaaGreatDoor
namespace Go.Proofs.YtkcoikelcmpceaaGreatDoor
open Go.RowKit NM
set_option maxHeartbeats 2000000 in
theorem koutmost_any (side : Int) (A : Option Addr) (n cap : Nat) (l : List Nm) (w : World) (h : NmIn w A n cap l) :
    Calls Tryz.prog 42 #[.slice A n cap, .int .i64 side] w fun e w' => e = .returned (VV (outV side l).kind (outV side l).mant (outV side l).exp (outV side l).text (outV side l).truth (outV side l).fault) ∧ Ext w w' := by
  have hsm := h.small
  have hcap := h.cap
  have hlen := h.len
  by_cases h0 : n = 0
  · subst h0
    obtain rfl : l = [] := List.eq_nil_of_length_eq_zero hlen
    show Calls _ _ _ w fun e w' => e = .returned (VV 1 0 0 ⟨#[]⟩ false 0) ∧ Ext w w'
    clear h
    go_enter Tryz.func42, Tryz.ntmps42
    go_wp2_with (first | (go_at_call 99; (with_reducible refine (of_any _ _ _).mono ?_); rintro e w' ⟨rfl, hb⟩; obtain ⟨os, d, rfl⟩ := hb.more; clear hb))
    exact bodyPost_ret (v := VV 1 0 0 ⟨#[]⟩ false 0) (by simp [results, Tryz.results42, go_sem]) rfl ⟨rfl, by with_reducible repeat (first | exact Ext.refl _ | apply Ext.drew | apply Ext.alloc | apply Ext.more_)⟩
  · obtain ⟨p0, b, off, hp0, hr0, rfl, c0, c1⟩ := h.at (k := 0) (by omega)
    simp only [Nat.zero_mul, Nat.add_zero] at c0 c1
    obtain ⟨R, hR⟩ : ∃ R, outO side p0 l = R := ⟨_, rfl⟩
    have e0 : outV side l = nV R := by
      cases l with
      | nil => simp at hp0
      | cons q l =>
        obtain rfl : q = p0 := by simpa using hp0
        show nV (outO side q (q :: l)) = _
        rw [hR]
    rw [e0]
    obtain ⟨m0, x0⟩ := p0
    simp only at c0 c1 hr0
    have hbl := lt_of_cell c0
    have H := Lib.hid h
    have HL := Lib.hid hlen
    have HR := Lib.hid hR
    have HR0 := Lib.hid hr0
    have h0' : ((n : Int) == 0) = false := by simpa using h0
    clear h hlen hR hr0 hp0 e0
    show Calls _ _ _ w fun e w' => e = .returned (VV 1 R.1 R.2 ⟨#[]⟩ false 0) ∧ Ext w w'
    go_enter Tryz.func42, Tryz.ntmps42
    go_wp2_with fail
    go_loopw [18] (fun i wr => ∃ (k : Nat) (m ex : Int) (os : Array Obj) (d : Nat), k ≤ n ∧ i = .int .i64 (k : Int) ∧ wr = more ((w.alloc (Obj.cells #[.int .i64 0, .int .i64 0, .int .i64 0, .string ⟨#[]⟩, .bool false, .int .i64 0] 30)).alloc (Obj.cells #[.int .i64 m, .int .i64 ex] 26)) os d ∧ Hid (outO side (m, ex) (l.drop k) = R) ∧ Hid (Rt m ex)) (fun i _ => n - (intOf i).toNat)
    case atStart => exact ⟨0, _, _, #[], _, Nat.zero_le _, rfl, (more_none _).symm, HR.out, HR0.out⟩
    case round =>
      obtain ⟨k, m, ex, os, d, hk, rfl, rfl, HD, HI⟩ := hrel
      by_cases hlt : k < n
      · obtain ⟨p, b', off', hp, hpr, e, g0, g1⟩ := H.out.at hlt
        obtain ⟨rfl, rfl⟩ : b = b' ∧ off = off' := by simpa using e
        have hd := HD.out
        rw [drop_get hp] at hd
        unfold outO at hd
        simp only at hd
        obtain ⟨pm, pe⟩ := p
        simp only at g0 g1 hd hpr
        have hop := fun W => cmp_any pm pe m ex W (rt_i64 hpr) (rt_i64 HI.out)
        by_cases hq : cmpS pm pe m ex = side
        · rw [if_pos hq] at hd
          rw [hq] at hop
          have HD2 := Lib.hid hd
          have HQ := Lib.hid hpr
          clear hq hp hpr HD HI HR hd e HR0 c0 c1
          go_wp2_with (go_at_call 52; (with_reducible refine (hop _).mono ?_); rintro e w' ⟨rfl, hb⟩; obtain ⟨os, d, rfl⟩ := hb.more; clear hb)
          exact ⟨⟨k + 1, pm, pe, _, _, by omega, by go_num, (by (try simp only [more_alloc, more_more, drew_more, more_drew]); first | rfl | (simp [go_sem]; done)), HD2, HQ⟩, by simp [intOf]; omega⟩
        · rw [if_neg hq] at hd
          have hq' : (cmpS pm pe m ex == side) = false := by simpa using hq
          generalize cmpS pm pe m ex = z at hop hq'
          have HD2 := Lib.hid hd
          clear hq hp hpr HD HR hd e HR0 c0 c1
          go_wp2_with (go_at_call 52; (with_reducible refine (hop _).mono ?_); rintro e w' ⟨rfl, hb⟩; obtain ⟨os, d, rfl⟩ := hb.more; clear hb)
          exact ⟨⟨k + 1, m, ex, _, _, by omega, by go_num, (by (try simp only [more_alloc, more_more, drew_more, more_drew]); first | rfl | (simp [go_sem]; done)), HD2, HI⟩, by simp [intOf]; omega⟩
      · obtain rfl : k = n := by omega
        have hd := HD.out
        rw [List.drop_eq_nil_of_le (by rw [HL.out]; exact Nat.le_refl _)] at hd
        unfold outO at hd
        subst hd
        clear HD HI HR HR0
        go_wp2_with (first | (go_at_call 99; (with_reducible refine (of_any _ _ _).mono ?_); rintro e w' ⟨rfl, hb⟩; obtain ⟨os, d, rfl⟩ := hb.more; clear hb))
        exact bodyPost_ret (v := VV 1 m ex ⟨#[]⟩ false 0) (by simp [results, Tryz.results42, go_sem]) rfl ⟨rfl, by with_reducible repeat (first | exact Ext.refl _ | apply Ext.drew | apply Ext.alloc | apply Ext.more_)⟩
theorem tells_min (w : World) : TellsN w 41 #[] (outV (-1)) := by
  intro A n cap l W _ _ hN _
  have hc := fun W hN => koutmost_any (-1) A n cap l W hN
  have HN := Lib.hid hN
  clear hN
  generalize outV (-1) l = y at *
  show Calls _ _ #[.slice A n cap] W _
  go_enter Tryz.func41, Tryz.ntmps41
  go_wp2_with (first | (go_at_call 42; (with_reducible refine (hc _ (HN.out.ext (by with_reducible repeat (first | exact Ext.refl _ | apply Ext.drew | apply Ext.alloc | apply Ext.more_)))).mono ?_); rintro e w' ⟨rfl, hb⟩; obtain ⟨os, d, rfl⟩ := hb.more; clear hb))
  exact bodyPost_ret (v := VV y.kind y.mant y.exp y.text y.truth y.fault) (by simp [results, Tryz.results41, go_sem]) rfl ⟨rfl, by with_reducible repeat (first | exact Ext.refl _ | apply Ext.drew | apply Ext.alloc | apply Ext.more_)⟩
theorem tells_max (w : World) : TellsN w 43 #[] (outV 1) := by
  intro A n cap l W _ _ hN _
  have hc := fun W hN => koutmost_any 1 A n cap l W hN
  have HN := Lib.hid hN
  clear hN
  generalize outV 1 l = y at *
  show Calls _ _ #[.slice A n cap] W _
  go_enter Tryz.func43, Tryz.ntmps43
  go_wp2_with (first | (go_at_call 42; (with_reducible refine (hc _ (HN.out.ext (by with_reducible repeat (first | exact Ext.refl _ | apply Ext.drew | apply Ext.alloc | apply Ext.more_)))).mono ?_); rintro e w' ⟨rfl, hb⟩; obtain ⟨os, d, rfl⟩ := hb.more; clear hb))
  exact bodyPost_ret (v := VV y.kind y.mant y.exp y.text y.truth y.fault) (by simp [results, Tryz.results43, go_sem]) rfl ⟨rfl, by with_reducible repeat (first | exact Ext.refl _ | apply Ext.drew | apply Ext.alloc | apply Ext.more_)⟩
def ltC (great : Bool) (a b : Nm) : Bool := if great then decide (scN b < scN a) else decide (scN a < scN b)
/-- A function that compares numbers. -/
def TellsC (great : Bool) (fid : FuncId) : Prop :=
  ∀ (a b : Nm) (W : World), Rt a.1 a.2 → Rt b.1 b.2 → Calls Tryz.prog fid #[NV a.1 a.2, NV b.1 b.2] W fun e W' => ∃ c : Int, e = .returned (.int .i64 c) ∧ decide (c < 0) = ltC great a b ∧ Ext W W'
theorem lt_cmp {a b : Nm} (ha : Rt a.1 a.2) (hb : Rt b.1 b.2) : decide (cmpS a.1 a.2 b.1 b.2 < 0) = decide (scN a < scN b) := decide_eq_decide.2 (cmp_lt ha hb)
theorem cmp_great : TellsC true 51 := by
  intro a b W ha hb
  have hc := fun W => cmp_any b.1 b.2 a.1 a.2 W (rt_i64 hb) (rt_i64 ha)
  have HE : Hid (decide (cmpS b.1 b.2 a.1 a.2 < 0) = ltC true a b) := Lib.hid (lt_cmp hb ha)
  clear ha hb
  generalize cmpS b.1 b.2 a.1 a.2 = z at *
  generalize ltC true a b = y at *
  obtain ⟨am, ae⟩ := a
  obtain ⟨bm, be⟩ := b
  simp only at hc
  simp only
  go_enter Tryz.func51, Tryz.ntmps51
  go_wp2_with (first | (go_at_call 52; (with_reducible refine (hc _).mono ?_); rintro e w' ⟨rfl, hb⟩; obtain ⟨os, d, rfl⟩ := hb.more; clear hb))
  exact bodyPost_ret (v := .int .i64 z) (by simp [results, Tryz.results51, go_sem]) rfl ⟨z, rfl, HE.out, by with_reducible repeat (first | exact Ext.refl _ | apply Ext.drew | apply Ext.alloc | apply Ext.more_)⟩
theorem cmp_small : TellsC false 53 := by
  intro a b W ha hb
  have hc := fun W => cmp_any a.1 a.2 b.1 b.2 W (rt_i64 ha) (rt_i64 hb)
  have HE : Hid (decide (cmpS a.1 a.2 b.1 b.2 < 0) = ltC false a b) := Lib.hid (lt_cmp ha hb)
  clear ha hb
  generalize cmpS a.1 a.2 b.1 b.2 = z at *
  generalize ltC false a b = y at *
  obtain ⟨am, ae⟩ := a
  obtain ⟨bm, be⟩ := b
  simp only at hc
  simp only
  go_enter Tryz.func53, Tryz.ntmps53
  go_wp2_with (first | (go_at_call 52; (with_reducible refine (hc _).mono ?_); rintro e w' ⟨rfl, hb⟩; obtain ⟨os, d, rfl⟩ := hb.more; clear hb))
  exact bodyPost_ret (v := .int .i64 z) (by simp [results, Tryz.results53, go_sem]) rfl ⟨z, rfl, HE.out, by with_reducible repeat (first | exact Ext.refl _ | apply Ext.drew | apply Ext.alloc | apply Ext.more_)⟩
theorem cmp_median : TellsC false 105 := by
  intro a b W ha hb
  have hc := fun W => cmp_any a.1 a.2 b.1 b.2 W (rt_i64 ha) (rt_i64 hb)
  have HE : Hid (decide (cmpS a.1 a.2 b.1 b.2 < 0) = ltC false a b) := Lib.hid (lt_cmp ha hb)
  clear ha hb
  generalize cmpS a.1 a.2 b.1 b.2 = z at *
  generalize ltC false a b = y at *
  obtain ⟨am, ae⟩ := a
  obtain ⟨bm, be⟩ := b
  simp only at hc
  simp only
  go_enter Tryz.func105, Tryz.ntmps105
  go_wp2_with (first | (go_at_call 52; (with_reducible refine (hc _).mono ?_); rintro e w' ⟨rfl, hb⟩; obtain ⟨os, d, rfl⟩ := hb.more; clear hb))
  exact bodyPost_ret (v := .int .i64 z) (by simp [results, Tryz.results105, go_sem]) rfl ⟨z, rfl, HE.out, by with_reducible repeat (first | exact Ext.refl _ | apply Ext.drew | apply Ext.alloc | apply Ext.more_)⟩
theorem Wr.of_own {base : Nat} {w : World} {A : Option Addr} {n cap : Nat} {l : List Nm} (h : Nms base w (.slice A n cap) l) : Wr (atN l) base w A cap (List.range l.length) := by
  obtain ⟨_, h2⟩ := h
  rcases h2 with ⟨h3, h0⟩ | ⟨g, c, cur, h3, h4, h5, h6, h7, h8, h9⟩
  · have : l = [] := List.eq_nil_of_length_eq_zero h0
    subst this
    exact ⟨Nat.zero_le _, Or.inl rfl⟩
  · obtain ⟨rfl, rfl, rfl⟩ : A = some ⟨g, 0, none⟩ ∧ n = l.length ∧ cap = c := by simpa using h3
    refine ⟨by rw [List.length_range]; exact h6, Or.inr ⟨g, 0, cur, rfl, h4, h5, fun j d hd => ?_⟩⟩
    have hj : j < l.length := by
      rcases Nat.lt_or_ge j l.length with hl | hl
      · exact hl
      · rw [List.getElem?_eq_none (by rw [List.length_range]; exact hl)] at hd; cases hd
    rw [List.getElem?_range hj] at hd
    obtain rfl : j = d := by simpa using hd
    have ha : atN l j = l[j] := by unfold atN; rw [getD_at hj]
    obtain ⟨e0, e1⟩ := ncells_at l j _ (List.getElem?_eq_getElem hj)
    rw [← h9, List.getElem?_take_of_lt (by omega)] at e0 e1
    rw [ha, Nat.zero_add]
    exact ⟨by simpa using e0, by simpa using e1⟩
/-- Numbers that are sorted in their own memory. -/
theorem sort_nums (great : Bool) (cl : FuncId) (hent : ∀ (args : Array Value) (W : World), (callFunc cl args).run Tryz.prog W = .ok (.enter cl args) W) (hcl : TellsC great cl) (w0 W : World) (hx : Ext w0 W) (A : Option Addr) (n cap : Nat) (l : List Nm) (h : Nms w0.heap.size W (.slice A n cap) l) (hlen : l.length = n) (hr : NRt l) (hn : n ≤ 100000) :
    Calls Tryz.prog 104 #[.slice A n cap, .func (.func cl) #[] #[]] W fun e w' => e = .returned (.tuple #[]) ∧ (∀ k, k < n → ∃ b off, A = some ⟨b, off, none⟩ ∧ w'.cell? ⟨b, off + k * 2, none⟩ = some (.int .i64 (atN (ordN great l) k).1) ∧ w'.cell? ⟨b, off + k * 2 + 1, none⟩ = some (.int .i64 (atN (ordN great l) k).2)) ∧ Ext w0 w' ∧ Lib.OthersKept 26 none W w' := by
  subst hlen
  have hc : CmpS (atN l) cl #[] (ltN great l) l.length w0.heap.size W := ⟨hent, fun i j W' _ _ _ => by
    have := hcl (atN l i) (atN l j) W' (atN_rt hr i) (atN_rt hr j)
    rw [Array.append_empty]
    exact this⟩
  refine (sortStable_any (swo_ltN great l) cl #[] w0.heap.size A cap l.length W hc hx.size (Wr.of_own h) hn).mono ?_
  rintro e w' ⟨rfl, hW, hb⟩
  refine ⟨rfl, fun k hk => ?_, Below.trans hx hb.bel, hb.oth⟩
  have hl9 : (sortN (ltN great l) l.length).length = l.length := sortN_length _ _
  obtain ⟨d, hd⟩ : ∃ d, (sortN (ltN great l) l.length)[k]? = some d := ⟨_, List.getElem?_eq_getElem (by omega)⟩
  obtain ⟨b, off, hA, _, ⟨g0, g1⟩, _⟩ := Wr.at hW hd
  have e1 : atN (ordN great l) k = atN l d := by
    rw [← sort_ordN hr]
    have : ((sortN (ltN great l) l.length).map (atN l))[k]? = some (atN l d) := by rw [List.getElem?_map, hd]; rfl
    show ((sortN (ltN great l) l.length).map (atN l)).getD k (0, 0) = _
    rw [List.getD_eq_getElem?_getD, this]; rfl
  rw [e1]
  exact ⟨b, off, hA, g0, g1⟩
end Go.Proofs.YtkcoikelcmpceaaGreatDoor
namespace Go.Proofs.YtkcoikelcmpceaaGreatDoor
open Go.RowKit NM
theorem Nms.low {base base' : Nat} {w : World} {v : Value} {l : List Nm} (h : Nms base w v l) (hb : base' ≤ base) : Nms base' w v l := by
  refine ⟨h.1, ?_⟩
  rcases h.2 with h2 | ⟨g, c, cur, h3, h4, h5⟩
  · exact Or.inl h2
  · exact Or.inr ⟨g, c, cur, h3, Nat.le_trans hb h4, h5⟩
set_option maxHeartbeats 4000000 in
theorem kranked_any (great : Bool) (A : Option Addr) (cap : Nat) (xs : List Ar) (fid : FuncId) (p : Nat) (w : World) (h : ArgsIn w A 2 cap xs) (hp : w.cell? ⟨p, 0, none⟩ = some (.func (.func fid) #[] #[]))
    (hent : ∀ (args : Array Value) (W : World), (callFunc fid args).run Tryz.prog W = .ok (.enter fid args) W) (hcl : TellsC great fid) :
    Calls Tryz.prog 108 #[.slice A 2 cap, .pointer (some ⟨p, 0, none⟩)] w fun e w' => ResA w (rankO great xs) e w' := by
  have hcap := h.cap
  obtain ⟨R, C, l, b1, off1, n1, cap1, b, off, x0, ha0, rfl, ⟨v0, v1, v2⟩, hn1, hc1, _, _, _, hbl, hb1, _, _, harr, _⟩ := h.first (k := 0) (by omega)
  obtain ⟨R', C', l', b2, off2, n2, cap2, b', off', x, ha1, e1, ⟨w0, w1, w2⟩, hn2, hc2, ⟨y0, y1, y2, y3, y4, y5⟩, hgv, hxr, _, hb2, hav, _, _, _⟩ := h.first (k := 1) (by omega)
  obtain ⟨rfl, rfl⟩ : b = b' ∧ off = off' := by simpa using e1
  simp only [Nat.zero_mul, Nat.add_zero, Nat.one_mul] at v0 v1 v2 w0 w1 w2
  have hln := harr.len
  have hright := (h.all _ (List.mem_of_getElem? ha0)).right
  obtain ⟨r1, r2, r3, r4, r5⟩ := rightA_nat.1 hright
  simp only at r1 r2 r3 r4 r5
  have hN0 : argN xs 0 = ⟨R, C, l⟩ := by unfold argN; rw [ha0]
  have hwn := fun W => wholeNumber_any x W hxr _ rfl
  have hnr := numsL_rt r5
  have hlen9 := numsL_length l
  have hpl := lt_of_cell hp
  obtain ⟨X, hX⟩ : ∃ X, rankO great xs = X := ⟨_, rfl⟩
  rw [hX]
  unfold rankO at hX
  rw [hN0, hav] at hX
  simp only at hX
  have HA := Lib.hid harr
  have hn4 : n1 ≤ 4096 := by omega
  clear h ha0 ha1 e1 hgv hav harr hright hN0
  generalize wholeO x = y at *
  obtain ⟨k, f⟩ := y
  simp only at hX hwn
  by_cases h0 : ffL l = 0
  · rw [if_pos h0] at hX
    have hno := noF_of r5 h0
    by_cases hf : f = 0
    · subst hf
      rw [if_pos rfl] at hX
      by_cases hk : k < 1 ∨ ((numsL l).length : Int) < k
      · rw [if_pos hk] at hX
        have hfa := fun W => kfault_any 5 W
        rw [hX] at hfa
        have HNR := Lib.hid (And.intro hnr hlen9)
        have HK := Lib.hid hk
        clear hX r5 hnr hlen9 hk
        go_enter Tryz.func108, Tryz.ntmps108
        go_upto_region 4 with (go_at_call 95; (with_reducible refine (knumbers_any _ _ _ l _ (HA.out.ext (by with_reducible repeat (first | exact Ext.refl _ | apply Ext.drew | apply Ext.alloc | apply Ext.more_))) (by omega)).mono ?_); rw [h0]; rintro e w' ⟨v, rfl, hnm, hb⟩; obtain ⟨A2, c2, rfl, hin⟩ := (hnm hno).in (by have := HNR.out.2; omega) HNR.out.1; obtain ⟨os1, d1, rfl⟩ := hb.more; clear hb hnm)
        clear h0 hno hin
        have hk2 := HK.out
        generalize (numsL l).length = n9 at *
        by_cases hk3 : k < 1
        · have hk4 : decide (k < 1) = true := decide_eq_true hk3
          clear hk2 hk3
          go_wp2_with (first | (go_at_call 109; (with_reducible refine (hwn _).mono ?_); rintro e w' ⟨rfl, hb⟩; obtain ⟨os2, d2, rfl⟩ := hb.more; clear hb) | (go_at_call 22; (with_reducible refine (hfa _).mono ?_); rintro e w' ⟨D2, m2, cc2, rfl, hD, hb⟩; obtain ⟨os5, d5, rfl⟩ := hb.more; clear hb; have hDr := hD.rd))
          exact bodyPost_ret (v := AV X.R X.C (.slice D2 m2 cc2)) (by simp [results, Tryz.results108, go_sem]) rfl ⟨D2, m2, cc2, rfl, ⟨(by (try simp only [more_more] at hDr); (try simp only [drew_more] at hDr); (try simp only [more_drew] at hDr); (try simp only [Array.append_assoc] at hDr); exact Rd.swap hDr (by first | (simp; done) | (simp; omega) | omega) (by first | (simp; done) | (simp; omega) | omega) (by first | (simp; done) | (simp; omega) | omega)), hD.len, hD.cap, hD.small, hD.ok⟩, by with_reducible repeat (first | exact Ext.refl _ | apply Ext.drew | apply Ext.alloc | apply Ext.more_)⟩
        · have hk4 : decide (k < 1) = false := decide_eq_false hk3
          have hk5 : decide ((n9 : Int) < k) = true := decide_eq_true (by omega)
          clear hk2 hk3
          go_wp2_with (first | (go_at_call 109; (with_reducible refine (hwn _).mono ?_); rintro e w' ⟨rfl, hb⟩; obtain ⟨os2, d2, rfl⟩ := hb.more; clear hb) | (go_at_call 22; (with_reducible refine (hfa _).mono ?_); rintro e w' ⟨D2, m2, cc2, rfl, hD, hb⟩; obtain ⟨os5, d5, rfl⟩ := hb.more; clear hb; have hDr := hD.rd))
          exact bodyPost_ret (v := AV X.R X.C (.slice D2 m2 cc2)) (by simp [results, Tryz.results108, go_sem]) rfl ⟨D2, m2, cc2, rfl, ⟨(by (try simp only [more_more] at hDr); (try simp only [drew_more] at hDr); (try simp only [more_drew] at hDr); (try simp only [Array.append_assoc] at hDr); exact Rd.swap hDr (by first | (simp; done) | (simp; omega) | omega) (by first | (simp; done) | (simp; omega) | omega) (by first | (simp; done) | (simp; omega) | omega)), hD.len, hD.cap, hD.small, hD.ok⟩, by with_reducible repeat (first | exact Ext.refl _ | apply Ext.drew | apply Ext.alloc | apply Ext.more_)⟩
      · rw [if_neg hk] at hX
        obtain ⟨kk, rfl⟩ : ∃ kk : Nat, k = ((kk + 1 : Nat) : Int) := ⟨(k - 1).toNat, by omega⟩
        have hkl : kk < (numsL l).length := by omega
        rw [show (((kk + 1 : Nat) : Int) - 1).toNat = kk by omega] at hX
        have hor := atN_rt (ordN_rt great hnr) kk
        have hwk : IntKind.i64.wrap (((kk + 1 : Nat) : Int) - 1) = (kk : Int) := by rw [IntKind.wrap_i64]; omega
        have hk1 : ¬ ((kk + 1 : Nat) : Int) < 1 := by omega
        have hk2 : ¬ ((numsL l).length : Int) < ((kk + 1 : Nat) : Int) := by omega
        have HNR := Lib.hid (And.intro hnr hlen9)
        have hone : ∀ W, Calls Tryz.prog 64 #[VV 1 (atN (ordN great (numsL l)) kk).1 (atN (ordN great (numsL l)) kk).2 ⟨#[]⟩ false 0] W (ResA W X) := fun W => by rw [← hX]; exact one_res (nV (atN (ordN great (numsL l)) kk)) W (right_num hor).ok (right_num hor)
        have hsrt := fun A2 c2 W (hx : Ext w W) (hN : Nms w.heap.size W (.slice A2 (numsL l).length c2) (numsL l)) => sort_nums great fid hent hcl w W hx A2 (numsL l).length c2 (numsL l) hN rfl hnr (by omega)
        clear hX r5 hnr hk hcl hor
        go_enter Tryz.func108, Tryz.ntmps108
        go_upto_region 4 with (go_at_call 95; (with_reducible refine (knumbers_any _ _ _ l _ (HA.out.ext (by with_reducible repeat (first | exact Ext.refl _ | apply Ext.drew | apply Ext.alloc | apply Ext.more_))) (by omega)).mono ?_); rw [h0]; rintro e w' ⟨v, rfl, hnm, hb⟩; have hnm2 := (hnm hno).low (base' := w.heap.size) (by simp); obtain ⟨A2, c2, rfl, hin⟩ := (hnm hno).in (by have := HNR.out.2; omega) HNR.out.1; obtain ⟨os1, d1, rfl⟩ := hb.more; clear hb hnm)
        have hc2 := hin.cap
        clear h0 hno hin
        have HM := Lib.hid hnm2
        have HS := Lib.hid hsrt
        have HO := Lib.hid hone
        clear hnm2 hsrt hone
        generalize numsL l = L at *
        generalize hn9 : L.length = n9 at *
        go_upto_region 9 with (first | (go_at_call 109; (with_reducible refine (hwn _).mono ?_); rintro e w' ⟨rfl, hb⟩; obtain ⟨os2, d2, rfl⟩ := hb.more; clear hb))
        have hwk2 : IntKind.i64.wrap (kk : Int) = (kk : Int) := by rw [IntKind.wrap_i64]; omega
        refine wp_world fun U hU => ?_
        have hxU : Ext w U := by rw [hU]; exact (by repeat (first | (with_reducible (first | exact Ext.refl _ | exact ext_d _ _ _ _ | exact ext_app _ _ _ _ _ | exact ext_app2 _ _ _ _ _ _)) | ((with_reducible refine ext_suffix ⟨_, ?_⟩); (try simp only [Array.append_assoc]); rfl) | (with_reducible (first | apply Ext.drew | apply Ext.alloc | apply Ext.more_))))
        have hrow : U.heap[w.heap.size]? = some (.cells #[.int .i64 0, .int .i64 0, .slice none 0 0] 33 (0, 0)) := ((show Ext (w.alloc (Obj.cells #[.int .i64 0, .int .i64 0, .slice none 0 0] 33)) U by rw [hU]; exact (by repeat (first | (with_reducible (first | exact Ext.refl _ | exact ext_d _ _ _ _ | exact ext_app _ _ _ _ _ | exact ext_app2 _ _ _ _ _ _)) | ((with_reducible refine ext_suffix ⟨_, ?_⟩); (try simp only [Array.append_assoc]); rfl) | (with_reducible (first | apply Ext.drew | apply Ext.alloc | apply Ext.more_))))).block (by simp)).trans (kalloc_new _ _)
        replace hp := hxU.cell_some hp
        replace hpl := lt_of_cell hp
        have hcall := HS.out A2 c2 U hxU (own_ext HM.out (by rw [hU]; exact (by repeat (first | (with_reducible (first | exact Ext.refl _ | exact ext_d _ _ _ _ | exact ext_app _ _ _ _ _ | exact ext_app2 _ _ _ _ _ _)) | ((with_reducible refine ext_suffix ⟨_, ?_⟩); (try simp only [Array.append_assoc]); rfl) | (with_reducible (first | apply Ext.drew | apply Ext.alloc | apply Ext.more_))))))
        clear hU HM HS hwn
        go_upto_region 10 with (go_at_call 104; refine hcall.mono ?_; rintro e w3 ⟨rfl, hat, hx3, hoth⟩)
        have hr3 := hoth _ _ hrow (by simp) (by intro c fz h; injection h with _ h2; exact absurd h2 (by decide))
        have o0 := cell_of_row _ _ 0 _ _ _ hr3
        have o1 := cell_of_row _ _ 1 _ _ _ hr3
        have o2 := cell_of_row _ _ 2 _ _ _ hr3
        have u0 := frozen_of_row _ _ 0 _ _ hr3
        have u1 := frozen_of_row _ _ 1 _ _ hr3
        have u2 := frozen_of_row _ _ 2 _ _ hr3
        have lor := lt_of_block hr3
        obtain ⟨bq, oq, rfl, z0, z1⟩ := hat kk hkl
        have lz := lt_of_cell z0
        have hsz3 := hx3.size
        clear hat hoth hr3 hrow hcall hn9
        generalize atN (ordN great L) kk = q at *
        obtain ⟨qm, qe⟩ := q
        have HO2 := HO.out
        simp only at z0 z1 HO2
        clear HO
        go_wp2_with (first | (go_at_call 99; (with_reducible refine (of_any _ _ _).mono ?_); rintro e w' ⟨rfl, hb⟩; obtain ⟨os, d, rfl⟩ := hb.more; clear hb) | (go_at_call 64; (with_reducible refine (HO2 _).mono ?_); rintro e w' ⟨D2, m2, cc2, rfl, hD, hb⟩; obtain ⟨os5, d5, rfl⟩ := hb.more; clear hb; have hDr := hD.rd))
        exact bodyPost_ret (v := AV X.R X.C (.slice D2 m2 cc2)) (by simp [results, Tryz.results108, go_sem, o0, o1, o2, lor]) rfl ⟨D2, m2, cc2, rfl, ⟨(by (try simp only [more_more] at hDr); (try simp only [drew_more] at hDr); (try simp only [more_drew] at hDr); (try simp only [Array.append_assoc] at hDr); exact Rd.swap hDr (by first | (simp; done) | (simp; omega) | omega) (by first | (simp; done) | (simp; omega) | omega) (by first | (simp; done) | (simp; omega) | omega)), hD.len, hD.cap, hD.small, hD.ok⟩, Ext.more_ (Ext.set (Ext.set (Ext.set hx3 _ (Nat.le_refl _)) _ (Nat.le_refl _)) _ (Nat.le_refl _)) _ _⟩
    · rw [if_neg hf] at hX
      have hfa := fun W => kfault_any f W
      rw [hX] at hfa
      have HNR := Lib.hid (And.intro hnr hlen9)
      have hf' : (f != 0) = true := by simpa using hf
      clear hX r5 hnr hlen9 hf
      go_enter Tryz.func108, Tryz.ntmps108
      go_upto_region 4 with (go_at_call 95; (with_reducible refine (knumbers_any _ _ _ l _ (HA.out.ext (by with_reducible repeat (first | exact Ext.refl _ | apply Ext.drew | apply Ext.alloc | apply Ext.more_))) (by omega)).mono ?_); rw [h0]; rintro e w' ⟨v, rfl, hnm, hb⟩; obtain ⟨A2, c2, rfl, hin⟩ := (hnm hno).in (by have := HNR.out.2; omega) HNR.out.1; obtain ⟨os1, d1, rfl⟩ := hb.more; clear hb hnm)
      clear h0 hno hin
      go_wp2_with (first | (go_at_call 109; (with_reducible refine (hwn _).mono ?_); rintro e w' ⟨rfl, hb⟩; obtain ⟨os2, d2, rfl⟩ := hb.more; clear hb) | (go_at_call 22; (with_reducible refine (hfa _).mono ?_); rintro e w' ⟨D2, m2, cc2, rfl, hD, hb⟩; obtain ⟨os5, d5, rfl⟩ := hb.more; clear hb; have hDr := hD.rd))
      exact bodyPost_ret (v := AV X.R X.C (.slice D2 m2 cc2)) (by simp [results, Tryz.results108, go_sem]) rfl ⟨D2, m2, cc2, rfl, ⟨(by (try simp only [more_more] at hDr); (try simp only [drew_more] at hDr); (try simp only [more_drew] at hDr); (try simp only [Array.append_assoc] at hDr); exact Rd.swap hDr (by first | (simp; done) | (simp; omega) | omega) (by first | (simp; done) | (simp; omega) | omega) (by first | (simp; done) | (simp; omega) | omega)), hD.len, hD.cap, hD.small, hD.ok⟩, by with_reducible repeat (first | exact Ext.refl _ | apply Ext.drew | apply Ext.alloc | apply Ext.more_)⟩
  · rw [if_neg h0] at hX
    have hfa := fun W => kfault_any (ffL l) W
    rw [hX] at hfa
    clear hX r5 hnr hlen9
    generalize hff : ffL l = g at *
    have h0' : (g != 0) = true := by simpa using h0
    go_enter Tryz.func108, Tryz.ntmps108
    go_upto_region 2 with (go_at_call 95; (with_reducible refine (knumbers_any _ _ _ l _ (HA.out.ext (by with_reducible repeat (first | exact Ext.refl _ | apply Ext.drew | apply Ext.alloc | apply Ext.more_))) (by omega)).mono ?_); rw [hff]; rintro e w' ⟨v, rfl, hnm, hb⟩; obtain ⟨os1, d1, rfl⟩ := hb.more; clear hb hnm)
    clear hff
    go_wp2_with (go_at_call 22; (with_reducible refine (hfa _).mono ?_); rintro e w' ⟨D2, m2, cc2, rfl, hD, hb⟩; obtain ⟨os5, d5, rfl⟩ := hb.more; clear hb; have hDr := hD.rd)
    exact bodyPost_ret (v := AV X.R X.C (.slice D2 m2 cc2)) (by simp [results, Tryz.results108, go_sem]) rfl ⟨D2, m2, cc2, rfl, ⟨(by (try simp only [more_more] at hDr); (try simp only [drew_more] at hDr); (try simp only [more_drew] at hDr); (try simp only [Array.append_assoc] at hDr); exact Rd.swap hDr (by first | (simp; done) | (simp; omega) | omega) (by first | (simp; done) | (simp; omega) | omega) (by first | (simp; done) | (simp; omega) | omega)), hD.len, hD.cap, hD.small, hD.ok⟩, by with_reducible repeat (first | exact Ext.refl _ | apply Ext.drew | apply Ext.alloc | apply Ext.more_)⟩
end Go.Proofs.YtkcoikelcmpceaaGreatDoor
namespace Go.Proofs.YtkcoikelcmpceaaGreatDoor
open Go.RowKit NM
/-- A function of numbers that it may write. -/
def TellsM (fid : FuncId) (F : List Nm → Val) : Prop :=
  ∀ (w0 w : World) (A : Option Addr) (n cap : Nat) (l : List Nm), Ext w0 w → Tab w0 → Nms w0.heap.size w (.slice A n cap) l → l.length = n → n ≤ cap → NRt l → n ≤ 100000 → Calls Tryz.prog fid #[.slice A n cap] w fun e w' => e = .returned (VV (F l).kind (F l).mant (F l).exp (F l).text (F l).truth (F l).fault) ∧ Ext w0 w'
set_option maxHeartbeats 4000000 in
theorem kmedian_any : TellsM 48 medV := by
  intro w0 w A n cap l hx htab h hlen hcap hr hn
  have hble : w0.heap.size ≤ w.heap.size := hx.size
  by_cases h0 : n = 0
  · subst h0
    obtain rfl : l = [] := List.eq_nil_of_length_eq_zero hlen
    show Calls _ _ _ w fun e w' => e = .returned (VV 4 0 0 ⟨#[]⟩ false 5) ∧ Ext w0 w'
    have hb := fun W => bad_any 5 W
    simp only [show badF 5 = 5 by decide] at hb
    have HX := Lib.hid hx
    clear h hr hx
    go_enter Tryz.func48, Tryz.ntmps48
    go_wp2_with (first | (go_at_call 65; (with_reducible refine (hb _).mono ?_); rintro e w' ⟨rfl, hb⟩; obtain ⟨os, d, rfl⟩ := hb.more; clear hb))
    exact bodyPost_ret (v := VV 4 0 0 ⟨#[]⟩ false 5) (by simp [results, Tryz.results48, go_sem]) rfl ⟨rfl, HX.out.trans (by with_reducible repeat (first | exact Ext.refl _ | apply Ext.drew | apply Ext.alloc | apply Ext.more_))⟩
  · have h0' : ((n : Int) == 0) = false := by simpa using h0
    obtain ⟨m, hm⟩ : ∃ m, n / 2 = m := ⟨_, rfl⟩
    obtain ⟨d2, hd2⟩ : ∃ d2, n % 2 = d2 := ⟨_, rfl⟩
    have hq1 : (n : Int).tdiv 2 = (m : Int) := by rw [← hm]; rfl
    have hq2 : (n : Int).tmod 2 = (d2 : Int) := by rw [← hd2]; rfl
    have hw1 : IntKind.i64.wrap (m : Int) = (m : Int) := by rw [IntKind.wrap_i64]; omega
    have hw2 : IntKind.i64.wrap (d2 : Int) = (d2 : Int) := by rw [IntKind.wrap_i64]; omega
    have hmn : m < n := by omega
    have HM1 : Hid (¬ d2 = 1 → 0 < m) := Lib.hid (fun h => by omega)
    have hsrt := fun W (hx1 : Ext w0 W) (hN : Nms w0.heap.size W (.slice A n cap) l) => sort_nums false 105 (fun args W => by go_simp) cmp_median w0 W hx1 A n cap l hN hlen hr hn
    have HX := Lib.hid hx
    have H := Lib.hid h
    have HT := Lib.hid htab
    simp only [show ordN false l = srtN l from rfl] at hsrt
    obtain ⟨y, hy⟩ : ∃ y, medV l = y := ⟨_, rfl⟩
    rw [hy]
    unfold medV at hy
    rw [hlen, if_neg h0, hm, hd2] at hy
    have hs1 := atN_rt (srt_rt hr) m
    have hs2 := atN_rt (srt_rt hr) (m - 1)
    clear h hx htab hr hlen hm
    by_cases hod : d2 = 1
    · subst hod
      rw [if_pos rfl] at hy
      subst hy
      show Calls _ _ _ w fun e w' => e = .returned (VV 1 (atN (srtN l) m).1 (atN (srtN l) m).2 ⟨#[]⟩ false 0) ∧ Ext w0 w'
      obtain ⟨q, hq⟩ : ∃ q, atN (srtN l) m = q := ⟨_, rfl⟩
      have HQ := Lib.hid hq
      rw [hq]
      clear hd2 hq
      go_enter Tryz.func48, Tryz.ntmps48
      go_upto_region 4 with (go_at_call 104; (refine (hsrt _ ?_ ?_).mono ?_); (focus (exact HX.out.trans (by with_reducible repeat (first | exact Ext.refl _ | apply Ext.drew | apply Ext.alloc | apply Ext.more_)))); (focus (exact own_ext H.out (by with_reducible repeat (first | exact Ext.refl _ | apply Ext.drew | apply Ext.alloc | apply Ext.more_)))); rintro e w3 ⟨rfl, hat, hx3, hoth⟩)
      have hr3 : w3.heap[w.heap.size]? = some (.cells #[.int .i64 0, .int .i64 0, .int .i64 0, .string ⟨#[]⟩, .bool false, .int .i64 0] 30 (0, 0)) := hoth w.heap.size _ (by first | exact kalloc_new _ _ | (simp; done)) (by simp) (by intro c fz h; injection h with _ h2; exact absurd h2 (by decide))
      (have o0 := cell_of_row _ _ 0 _ _ _ hr3); (have o1 := cell_of_row _ _ 1 _ _ _ hr3); (have o2 := cell_of_row _ _ 2 _ _ _ hr3); (have o3 := cell_of_row _ _ 3 _ _ _ hr3); (have o4 := cell_of_row _ _ 4 _ _ _ hr3); (have o5 := cell_of_row _ _ 5 _ _ _ hr3); (have u0 := frozen_of_row _ _ 0 _ _ hr3); (have u1 := frozen_of_row _ _ 1 _ _ hr3); (have u2 := frozen_of_row _ _ 2 _ _ hr3); (have u3 := frozen_of_row _ _ 3 _ _ hr3); (have u4 := frozen_of_row _ _ 4 _ _ hr3); (have u5 := frozen_of_row _ _ 5 _ _ hr3); (have lor := lt_of_block hr3)
      obtain ⟨bq, oq, rfl, z0, z1⟩ := hat m hmn
      rw [HQ.out] at z0 z1
      have lz := lt_of_cell z0
      clear hsrt hoth hr3 hat HQ
      obtain ⟨qm, qe⟩ := q
      simp only at z0 z1
      go_wp2_with (first | (go_at_call 99; (with_reducible refine (of_any _ _ _).mono ?_); rintro e w' ⟨rfl, hb⟩; obtain ⟨os, d, rfl⟩ := hb.more; clear hb))
      exact bodyPost_ret (v := VV 1 qm qe ⟨#[]⟩ false 0) (by simp [results, Tryz.results48, go_sem, o0, o1, o2, o3, o4, o5, lor]) rfl ⟨rfl, by with_reducible repeat (first | exact hx3 | apply Ext.drew | apply Ext.alloc | apply Ext.more_ | refine Ext.set ?_ _ hble)⟩
    · rw [if_neg hod] at hy
      have hod' : ((d2 : Int) == 1) = false := by simp; omega
      obtain ⟨j, rfl⟩ : ∃ j, m = j + 1 := ⟨m - 1, by have := HM1.out hod; omega⟩
      rw [Nat.add_sub_cancel] at hy hs2
      have hw3 : IntKind.i64.wrap (j : Int) = (j : Int) := by rw [IntKind.wrap_i64]; omega
      have hadd := fun W h => add_any (atN (srtN l) j).1 (atN (srtN l) j).2 (atN (srtN l) (j + 1)).1 (atN (srtN l) (j + 1)).2 W h (rt_i64 hs2) (rt_i64 hs1)
      have hjn : j < n := by omega
      have hb1 : (j : Int) + 1 < (n : Int) := by omega
      have hb0 : (0 : Int) ≤ (j : Int) + 1 := by omega
      clear hd2 hod
      cases hs : addS (atN (srtN l) j).1 (atN (srtN l) j).2 (atN (srtN l) (j + 1)).1 (atN (srtN l) (j + 1)).2 with
      | none =>
        rw [hs] at hy hadd
        simp only at hy
        subst hy
        simp only [rnV, rm, re, Option.getD_none, Option.isSome_none] at hadd
        have hb := fun W => bad_any 5 W
        simp only [show badF 5 = 5 by decide] at hb
        clear hs
        show Calls _ _ _ w fun e w' => e = .returned (VV 4 0 0 ⟨#[]⟩ false 5) ∧ Ext w0 w'
        go_enter Tryz.func48, Tryz.ntmps48
        go_upto_region 4 with (go_at_call 104; (refine (hsrt _ ?_ ?_).mono ?_); (focus (exact HX.out.trans (by with_reducible repeat (first | exact Ext.refl _ | apply Ext.drew | apply Ext.alloc | apply Ext.more_)))); (focus (exact own_ext H.out (by with_reducible repeat (first | exact Ext.refl _ | apply Ext.drew | apply Ext.alloc | apply Ext.more_)))); rintro e w3 ⟨rfl, hat, hx3, hoth⟩)
        have hr3 : w3.heap[w.heap.size]? = some (.cells #[.int .i64 0, .int .i64 0, .int .i64 0, .string ⟨#[]⟩, .bool false, .int .i64 0] 30 (0, 0)) := hoth w.heap.size _ (by first | exact kalloc_new _ _ | (simp; done)) (by simp) (by intro c fz h; injection h with _ h2; exact absurd h2 (by decide))
        (have o0 := cell_of_row _ _ 0 _ _ _ hr3); (have o1 := cell_of_row _ _ 1 _ _ _ hr3); (have o2 := cell_of_row _ _ 2 _ _ _ hr3); (have o3 := cell_of_row _ _ 3 _ _ _ hr3); (have o4 := cell_of_row _ _ 4 _ _ _ hr3); (have o5 := cell_of_row _ _ 5 _ _ _ hr3); (have u0 := frozen_of_row _ _ 0 _ _ hr3); (have u1 := frozen_of_row _ _ 1 _ _ hr3); (have u2 := frozen_of_row _ _ 2 _ _ hr3); (have u3 := frozen_of_row _ _ 3 _ _ hr3); (have u4 := frozen_of_row _ _ 4 _ _ hr3); (have u5 := frozen_of_row _ _ 5 _ _ hr3); (have lor := lt_of_block hr3)
        have hT3 := Lib.hid (HT.out.ext hx3)
        obtain ⟨bq, oq, rfl, z0, z1⟩ := hat j hjn
        obtain ⟨bq', oq', e9, y0, y1⟩ := hat (j + 1) hmn
        obtain ⟨rfl, rfl⟩ : bq = bq' ∧ oq = oq' := by simpa using e9
        have lz := lt_of_cell z0
        clear hsrt hoth hr3 hat e9 hs1 hs2
        generalize atN (srtN l) j = q at *
        generalize atN (srtN l) (j + 1) = r at *
        obtain ⟨qm, qe⟩ := q
        obtain ⟨rm', re'⟩ := r
        simp only at z0 z1 y0 y1 hadd
        go_upto_region 7 with fail
        refine wp_float [(13, 4, (.cells #[.int .i64 0, .int .i64 0] 26))] [(0, 0), (1, 0), (2, 0), (3, 0), (4, 0), (5, 0), (6, 0), (7, 0), (8, 0), (9, 1), (10, 0), (11, 0), (12, 2)] [14, 15] [14, 15] [12] (by kernel_rfl) (by kernel_rfl) (by kernel_rfl) (fun _ _ d _ _ h => by cases d <;> exact h) (fun _ _ d _ _ h => by cases d <;> exact h) (fun x hx o ho a w => by (obtain rfl := List.mem_singleton.1 hx); (obtain rfl := Option.some.inj ho); (first | rfl | (simp [go_sem, ptrB]; done) | (go_simp; rfl))) ?_
        iterate 9 ((refine wpFp_read (v := ?_) rfl ?_ (fun w1 h1 => ?_) ?_; rotate_left 1; rfl; (obtain ⟨os1, d1, rfl⟩ := h1.more; go_simp; first | done | rfl)); try simp only [Act.put, zqA, zqB, zqC])
        (refine wpFp_eff rfl ?_ (fun wf hXf hE K hK => ?_); rfl; obtain ⟨osf, df, rfl⟩ := hXf.more; go_simp; refine (hadd _ (hT3.out.ext (by repeat (first | (with_reducible (first | exact Ext.refl _ | exact ext_d _ _ _ _ | exact ext_app _ _ _ _ _ | exact ext_app2 _ _ _ _ _ _)) | ((with_reducible refine ext_suffix ⟨_, ?_⟩); (try simp only [Array.append_assoc]); rfl) | (with_reducible (first | apply Ext.drew | apply Ext.alloc | apply Ext.more_)))))).mono ?_; rintro e w' ⟨rfl, hb9⟩; refine hK _ _ (fun _ => True) (by (try simp only [more_drew, more_more, Array.append_assoc]); exact hb9) (fun _ _ _ _ => trivial) trivial ?_)
        try simp only [Act.put, zqA, zqB, zqC]
        iterate 2 ((refine wpFp_read (v := ?_) rfl ?_ (fun w1 h1 => ?_) ?_; rotate_left 1; rfl; (obtain ⟨os1, d1, rfl⟩ := h1.more; go_simp; first | done | rfl)); try simp only [Act.put, zqA, zqB, zqC])
        (refine wpFp_pure (v := ?_) rfl ?_ (fun w1 => ?_) ?_; rotate_left 1; rfl; (go_simp; first | done | rfl))
        try simp only [Act.put, zqA, zqB, zqC]
        refine wpFp_one fun osa da osb db hE => ?_
        try simp only [Act.put, zqA, zqB, zqC]
        iterate 2 ((refine wpTl_op rfl ?_ (fun K hK => ?_); rfl; go_simp; refine hK _ _ ?_); try simp only [Act.put, zqA, zqB, zqC])
        refine wpTl_nil ?_
        go_wp2_with (first | (go_at_call 65; (with_reducible refine (hb _).mono ?_); rintro e w' ⟨rfl, hb⟩; obtain ⟨os, d, rfl⟩ := hb.more; clear hb))
        exact bodyPost_ret (v := VV 4 0 0 ⟨#[]⟩ false 5) (by simp [results, Tryz.results48, go_sem, o0, o1, o2, o3, o4, o5, lor]) rfl ⟨rfl, by with_reducible repeat (first | exact hx3 | apply Ext.drew | apply Ext.alloc | apply Ext.more_ | refine Ext.set ?_ _ hble)⟩
      | some t =>
        rw [hs] at hy hadd
        simp only at hy
        have hti := rt_i64 (addS_rt hs)
        simp only [rnV, rm, re, Option.getD_some, Option.isSome_some] at hadd
        have hdv := fun W h => div_any t.1 t.2 2 0 W h hti (by unfold I64; omega)
        have htd := fun W => ktold_any (divS t.1 t.2 2 0) W
        have hwh := fun W h => kwhole_any 2 W h (by decide)
        rw [whole_k (k := 2) (by decide) (by decide) (by decide)] at hwh
        rw [hy] at htd
        clear hs hy hti
        generalize divS t.1 t.2 2 0 = dv at *
        simp only [rnV] at hdv
        obtain ⟨tm, te⟩ := t
        simp only at hadd hdv
        generalize dv.isSome = dB at *
        generalize rm dv = dm at *
        generalize re dv = de at *
        go_enter Tryz.func48, Tryz.ntmps48
        go_upto_region 4 with (go_at_call 104; (refine (hsrt _ ?_ ?_).mono ?_); (focus (exact HX.out.trans (by with_reducible repeat (first | exact Ext.refl _ | apply Ext.drew | apply Ext.alloc | apply Ext.more_)))); (focus (exact own_ext H.out (by with_reducible repeat (first | exact Ext.refl _ | apply Ext.drew | apply Ext.alloc | apply Ext.more_)))); rintro e w3 ⟨rfl, hat, hx3, hoth⟩)
        have hr3 : w3.heap[w.heap.size]? = some (.cells #[.int .i64 0, .int .i64 0, .int .i64 0, .string ⟨#[]⟩, .bool false, .int .i64 0] 30 (0, 0)) := hoth w.heap.size _ (by first | exact kalloc_new _ _ | (simp; done)) (by simp) (by intro c fz h; injection h with _ h2; exact absurd h2 (by decide))
        (have o0 := cell_of_row _ _ 0 _ _ _ hr3); (have o1 := cell_of_row _ _ 1 _ _ _ hr3); (have o2 := cell_of_row _ _ 2 _ _ _ hr3); (have o3 := cell_of_row _ _ 3 _ _ _ hr3); (have o4 := cell_of_row _ _ 4 _ _ _ hr3); (have o5 := cell_of_row _ _ 5 _ _ _ hr3); (have u0 := frozen_of_row _ _ 0 _ _ hr3); (have u1 := frozen_of_row _ _ 1 _ _ hr3); (have u2 := frozen_of_row _ _ 2 _ _ hr3); (have u3 := frozen_of_row _ _ 3 _ _ hr3); (have u4 := frozen_of_row _ _ 4 _ _ hr3); (have u5 := frozen_of_row _ _ 5 _ _ hr3); (have lor := lt_of_block hr3)
        have hT3 := Lib.hid (HT.out.ext hx3)
        obtain ⟨bq, oq, rfl, z0, z1⟩ := hat j hjn
        obtain ⟨bq', oq', e9, y0, y1⟩ := hat (j + 1) hmn
        obtain ⟨rfl, rfl⟩ : bq = bq' ∧ oq = oq' := by simpa using e9
        have lz := lt_of_cell z0
        clear hsrt hoth hr3 hat e9 hs1 hs2
        generalize atN (srtN l) j = q at *
        generalize atN (srtN l) (j + 1) = r at *
        obtain ⟨qm, qe⟩ := q
        obtain ⟨rm', re'⟩ := r
        simp only at z0 z1 y0 y1 hadd
        go_upto_region 7 with fail
        refine wp_float [(13, 4, (.cells #[.int .i64 0, .int .i64 0] 26))] [(0, 0), (1, 0), (2, 0), (3, 0), (4, 0), (5, 0), (6, 0), (7, 0), (8, 0), (9, 1), (10, 0), (11, 0), (12, 2)] [14, 15] [14, 15] [12] (by kernel_rfl) (by kernel_rfl) (by kernel_rfl) (fun _ _ d _ _ h => by cases d <;> exact h) (fun _ _ d _ _ h => by cases d <;> exact h) (fun x hx o ho a w => by (obtain rfl := List.mem_singleton.1 hx); (obtain rfl := Option.some.inj ho); (first | rfl | (simp [go_sem, ptrB]; done) | (go_simp; rfl))) ?_
        iterate 9 ((refine wpFp_read (v := ?_) rfl ?_ (fun w1 h1 => ?_) ?_; rotate_left 1; rfl; (obtain ⟨os1, d1, rfl⟩ := h1.more; go_simp; first | done | rfl)); try simp only [Act.put, zqA, zqB, zqC])
        (refine wpFp_eff rfl ?_ (fun wf hXf hE K hK => ?_); rfl; obtain ⟨osf, df, rfl⟩ := hXf.more; go_simp; refine (hadd _ (hT3.out.ext (by repeat (first | (with_reducible (first | exact Ext.refl _ | exact ext_d _ _ _ _ | exact ext_app _ _ _ _ _ | exact ext_app2 _ _ _ _ _ _)) | ((with_reducible refine ext_suffix ⟨_, ?_⟩); (try simp only [Array.append_assoc]); rfl) | (with_reducible (first | apply Ext.drew | apply Ext.alloc | apply Ext.more_)))))).mono ?_; rintro e w' ⟨rfl, hb9⟩; refine hK _ _ (fun _ => True) (by (try simp only [more_drew, more_more, Array.append_assoc]); exact hb9) (fun _ _ _ _ => trivial) trivial ?_)
        try simp only [Act.put, zqA, zqB, zqC]
        iterate 2 ((refine wpFp_read (v := ?_) rfl ?_ (fun w1 h1 => ?_) ?_; rotate_left 1; rfl; (obtain ⟨os1, d1, rfl⟩ := h1.more; go_simp; first | done | rfl)); try simp only [Act.put, zqA, zqB, zqC])
        (refine wpFp_pure (v := ?_) rfl ?_ (fun w1 => ?_) ?_; rotate_left 1; rfl; (go_simp; first | done | rfl))
        try simp only [Act.put, zqA, zqB, zqC]
        refine wpFp_one fun osa da osb db hE => ?_
        try simp only [Act.put, zqA, zqB, zqC]
        iterate 2 ((refine wpTl_op rfl ?_ (fun K hK => ?_); rfl; go_simp; refine hK _ _ ?_); try simp only [Act.put, zqA, zqB, zqC])
        refine wpTl_nil ?_
        go_upto_region 10 with fail
        refine wp_plan (S := Ext _) [(0, 0), (1, 1), (2, 1), (3, 0), (4, 0), (5, 1), (6, 2)] [6] (by kernel_rfl) (by kernel_rfl) (by kernel_rfl) (fun _ _ d _ _ h => by cases d <;> exact h) (Ext.drew (Ext.refl _)) ?_
        (refine wpPl_read (v := ?_) rfl ?_ (fun _ h => ?_) ?_; rotate_left 1; rfl; (obtain ⟨_, _, rfl⟩ := h.more; go_simp; try rfl))
        try simp only [Act.put, zqA, zqB, zqC]
        (refine wpPl_eff rfl ?_ (fun K hK => ?_); rfl; go_simp; refine (hwh _ (hT3.out.ext (by repeat (first | (with_reducible (first | exact Ext.refl _ | exact ext_d _ _ _ _ | exact ext_app _ _ _ _ _ | exact ext_app2 _ _ _ _ _ _)) | ((with_reducible refine ext_suffix ⟨_, ?_⟩); (try simp only [Array.append_assoc]); rfl) | (with_reducible (first | apply Ext.drew | apply Ext.alloc | apply Ext.more_)))))).mono ?_; rintro e w' ⟨rfl, hb⟩; obtain ⟨os1, d1, rfl⟩ := hb.more; clear hb; refine hK _ _ ?_ ?_; (repeat (first | (with_reducible (first | exact Ext.refl _ | exact ext_d _ _ _ _ | exact ext_app _ _ _ _ _ | exact ext_app2 _ _ _ _ _ _ | exact ext_app3 _ _ _ _ _ _ _ | exact ext_app4 _ _ _ _ _ _ _ _ | exact ext_app5 _ _ _ _ _ _ _ _ _)) | ((with_reducible refine ext_suffix ⟨_, ?_⟩); (try simp only [Array.append_assoc]); rfl) | (with_reducible (first | apply Ext.drew | apply Ext.alloc | apply Ext.more_)) | apply Ext.drew | apply Ext.alloc | apply Ext.more_)))
        try simp only [Act.put, zqA, zqB, zqC]
        (refine wpPl_eff rfl ?_ (fun K hK => ?_); rfl; go_simp; refine (hdv _ (hT3.out.ext (by repeat (first | (with_reducible (first | exact Ext.refl _ | exact ext_d _ _ _ _ | exact ext_app _ _ _ _ _ | exact ext_app2 _ _ _ _ _ _)) | ((with_reducible refine ext_suffix ⟨_, ?_⟩); (try simp only [Array.append_assoc]); rfl) | (with_reducible (first | apply Ext.drew | apply Ext.alloc | apply Ext.more_)))))).mono ?_; rintro e w' ⟨rfl, hb⟩; obtain ⟨os2, d2, rfl⟩ := hb.more; clear hb; refine hK _ _ ?_ ?_; (repeat (first | (with_reducible (first | exact Ext.refl _ | exact ext_d _ _ _ _ | exact ext_app _ _ _ _ _ | exact ext_app2 _ _ _ _ _ _ | exact ext_app3 _ _ _ _ _ _ _ | exact ext_app4 _ _ _ _ _ _ _ _ | exact ext_app5 _ _ _ _ _ _ _ _ _)) | ((with_reducible refine ext_suffix ⟨_, ?_⟩); (try simp only [Array.append_assoc]); rfl) | (with_reducible (first | apply Ext.drew | apply Ext.alloc | apply Ext.more_)) | apply Ext.drew | apply Ext.alloc | apply Ext.more_)))
        try simp only [Act.put, zqA, zqB, zqC]
        iterate 2 ((refine wpPl_read (v := ?_) rfl ?_ (fun _ h => ?_) ?_; rotate_left 1; rfl; (obtain ⟨_, _, rfl⟩ := h.more; go_simp; try rfl)); try simp only [Act.put, zqA, zqB, zqC])
        (refine wpPl_eff rfl ?_ (fun K hK => ?_); rfl; go_simp; refine (htd _).mono ?_; rintro e w' ⟨rfl, hb⟩; obtain ⟨os3, d3, rfl⟩ := hb.more; clear hb; refine hK _ _ ?_ ?_; (repeat (first | (with_reducible (first | exact Ext.refl _ | exact ext_d _ _ _ _ | exact ext_app _ _ _ _ _ | exact ext_app2 _ _ _ _ _ _ | exact ext_app3 _ _ _ _ _ _ _ | exact ext_app4 _ _ _ _ _ _ _ _ | exact ext_app5 _ _ _ _ _ _ _ _ _)) | ((with_reducible refine ext_suffix ⟨_, ?_⟩); (try simp only [Array.append_assoc]); rfl) | (with_reducible (first | apply Ext.drew | apply Ext.alloc | apply Ext.more_)) | apply Ext.drew | apply Ext.alloc | apply Ext.more_)))
        try simp only [Act.put, zqA, zqB, zqC]
        (refine wpPl_tail rfl ?_ (fun K hK => ?_); rfl; go_simp; refine hK _ _ ?_)
        try simp only [Act.put]
        refine wpPl_nil ?_
        go_wp2_with fail
        exact bodyPost_ret (v := VV y.kind y.mant y.exp y.text y.truth y.fault) (by simp [results, Tryz.results48, go_sem, o0, o1, o2, o3, o4, o5, lor]) rfl ⟨rfl, by with_reducible repeat (first | exact hx3 | apply Ext.drew | apply Ext.alloc | apply Ext.more_ | refine Ext.set ?_ _ hble)⟩
set_option maxHeartbeats 4000000 in
theorem kofNumbersM_any (A : Option Addr) (n cap : Nat) (xs : List Ar) (fid : FuncId) (F : List Nm → Val) (p : Nat) (w : World) (htab : Tab w) (h : ArgsIn w A n cap xs) (hn : n ≤ 100) (hN : (allV xs).length ≤ 100000)
    (hp : w.cell? ⟨p, 0, none⟩ = some (.func (.func fid) #[] #[])) (hq : TellsM fid F) (hF : ∀ l, NRt l → (F l).right) (hent : ∀ (args : Array Value) (W : World), (callFunc fid args).run Tryz.prog W = .ok (.enter fid args) W) :
    Calls Tryz.prog 94 #[.slice A n cap, .pointer (some ⟨p, 0, none⟩)] w fun e w' => ResA w (ofNumsO F xs) e w' := by
  have hR := Lib.hid (allV_right h)
  have HT := Lib.hid htab
  have H := Lib.hid h
  have HQ := Lib.hid hq
  have hpl := lt_of_cell hp
  have hall := fun W (hW : ArgsIn W A n cap xs) => kall_any A n cap xs W hW hn
  have hfa := fun W => kfault_any (ffL (allV xs)) W
  obtain ⟨X, hX⟩ : ∃ X, ofNumsO F xs = X := ⟨_, rfl⟩
  rw [hX]
  have HX := Lib.hid hX
  clear htab h hq hX
  by_cases h0 : ffL (allV xs) = 0
  · have hno := noF_of hR.out h0
    have hXo := HX.out
    unfold ofNumsO at hXo
    rw [if_pos h0] at hXo
    have hnr := numsL_rt hR.out
    have hlen9 := numsL_length (allV xs)
    have hone : ∀ W, Calls Tryz.prog 64 #[VV (F (numsL (allV xs))).kind (F (numsL (allV xs))).mant (F (numsL (allV xs))).exp (F (numsL (allV xs))).text (F (numsL (allV xs))).truth (F (numsL (allV xs))).fault] W (ResA W X) := fun W => by rw [← hXo]; exact one_res _ W (hF _ hnr).ok (hF _ hnr)
    have HNR := Lib.hid (And.intro hnr hlen9)
    have HO := Lib.hid hone
    clear hXo HX hfa hnr hlen9 hone
    go_enter Tryz.func94, Tryz.ntmps94
    go_upto_region 2 with (first | (go_at_call 96; (with_reducible refine (hall _ (H.out.ext (by with_reducible repeat (first | exact Ext.refl _ | apply Ext.drew | apply Ext.alloc | apply Ext.more_)))).mono ?_); rintro e w' ⟨D, m, c, rfl, hNN, hm, hb⟩; have harr := hNN.arr; obtain ⟨os1, d1, rfl⟩ := hb.more; clear hb hNN) | (go_at_call 95; (with_reducible refine (knumbers_any _ _ _ (allV xs) _ harr (by omega)).mono ?_); rw [h0]; rintro e w' ⟨v, rfl, hnm, hb⟩; have HM := Lib.hid (hnm hno); obtain ⟨A2, c2, rfl, hin⟩ := (hnm hno).in (by have := HNR.out.2; have := harr.len; omega) HNR.out.1; obtain ⟨os2, d2, rfl⟩ := hb.more; clear hb hnm))
    have hcap2 := hin.cap
    clear harr hall hno hin h0
    generalize hL : numsL (allV xs) = L at *
    have hLl : L.length ≤ 100000 := by have := HNR.out.2; omega
    have HLR := Lib.hid HNR.out.1
    clear HNR hL
    generalize hn2 : L.length = n2 at *
    have HL2 := Lib.hid hn2
    clear hn2
    obtain ⟨y, hy⟩ : ∃ y, F L = y := ⟨_, rfl⟩
    have HY := Lib.hid hy
    have HO2 := HO.out
    rw [hy] at HO2
    clear hy HO
    obtain ⟨W1, hW1⟩ : ∃ W1, more (w.alloc (Obj.cells #[.int .i64 0, .int .i64 0, .slice none 0 0] 33)) os1 d1 = W1 := ⟨_, rfl⟩
    have hx1 : Ext w W1 := by rw [← hW1]; exact (by repeat (first | (with_reducible (first | exact Ext.refl _ | exact ext_d _ _ _ _ | exact ext_app _ _ _ _ _ | exact ext_app2 _ _ _ _ _ _)) | ((with_reducible refine ext_suffix ⟨_, ?_⟩); (try simp only [Array.append_assoc]); rfl) | (with_reducible (first | apply Ext.drew | apply Ext.alloc | apply Ext.more_))))
    have hrow : W1.heap[w.heap.size]? = some (.cells #[.int .i64 0, .int .i64 0, .slice none 0 0] 33 (0, 0)) := ((show Ext (w.alloc (Obj.cells #[.int .i64 0, .int .i64 0, .slice none 0 0] 33)) W1 by rw [← hW1]; exact (by repeat (first | (with_reducible (first | exact Ext.refl _ | exact ext_d _ _ _ _ | exact ext_app _ _ _ _ _ | exact ext_app2 _ _ _ _ _ _)) | ((with_reducible refine ext_suffix ⟨_, ?_⟩); (try simp only [Array.append_assoc]); rfl) | (with_reducible (first | apply Ext.drew | apply Ext.alloc | apply Ext.more_))))).block (by simp)).trans (kalloc_new _ _)
    refine wp_world fun U hU => ?_
    have hU2 : U = more W1 os2 d2 := by rw [hU, ← hW1, more_more]
    have hxU : Ext W1 U := by rw [hU2]; exact ext_more _ _ _
    have HN : Hid (Nms W1.heap.size U (.slice A2 n2 c2) L) := Lib.hid (by have h := HM.out; rw [hW1] at h; rw [hU2]; exact h)
    have hcall := fun W (hW : Ext U W) => HQ.out W1 W A2 n2 c2 L (hxU.trans hW) (HT.out.ext hx1) (own_ext HN.out hW) HL2.out hcap2 HLR.out (by omega)
    rw [HY.out] at hcall
    replace hp := (hx1.trans hxU).cell_some hp
    replace hpl := lt_of_cell hp
    have hsz1 := hx1.size
    have HX1 := Lib.hid hx1
    have HRW := Lib.hid hrow
    clear hU hU2 HM HN HQ HT hW1 HY hrow hx1 hxU
    go_wp2_with (first | (go_at_call 64; (with_reducible refine (HO2 _).mono ?_); rintro e w' ⟨D2, m2, cc2, rfl, hD, hb⟩; obtain ⟨os5, d5, rfl⟩ := hb.more; clear hb; have hDr := hD.rd) | ((refine (hcall _ ?_).mono ?_); (focus (exact (by with_reducible repeat (first | exact Ext.refl _ | apply Ext.drew | apply Ext.alloc | apply Ext.more_)))); rintro e w3 ⟨rfl, hx3⟩; have hr3 := (hx3.block (lt_of_block HRW.out)).trans HRW.out; have o0 := cell_of_row _ _ 0 _ _ _ hr3; have o1 := cell_of_row _ _ 1 _ _ _ hr3; have o2 := cell_of_row _ _ 2 _ _ _ hr3; have u0 := frozen_of_row _ _ 0 _ _ hr3; have u1 := frozen_of_row _ _ 1 _ _ hr3; have u2 := frozen_of_row _ _ 2 _ _ hr3; have lor := lt_of_block hr3; clear hr3))
    have hxw : Ext w w3 := HX1.out.trans hx3
    have hsz3 := hxw.size
    exact bodyPost_ret (v := AV X.R X.C (.slice D2 m2 cc2)) (by simp [results, Tryz.results94, go_sem, o0, o1, o2, lor]) rfl ⟨D2, m2, cc2, rfl, ⟨(by (try simp only [more_more] at hDr); (try simp only [drew_more] at hDr); (try simp only [more_drew] at hDr); (try simp only [Array.append_assoc] at hDr); exact Rd.swap hDr (by first | (simp; done) | (simp; omega) | omega) (by first | (simp; done) | (simp; omega) | omega) (by first | (simp; done) | (simp; omega) | omega)), hD.len, hD.cap, hD.small, hD.ok⟩, Ext.more_ (Ext.set (Ext.set (Ext.set hxw _ (Nat.le_refl _)) _ (Nat.le_refl _)) _ (Nat.le_refl _)) _ _⟩
  · have hXo := HX.out
    unfold ofNumsO at hXo
    rw [if_neg h0] at hXo
    rw [hXo] at hfa
    clear hXo HX
    generalize hff : ffL (allV xs) = f at *
    have h0' : (f == 0) = false := by simpa using h0
    go_enter Tryz.func94, Tryz.ntmps94
    go_upto_region 2 with (first | (go_at_call 96; (with_reducible refine (hall _ (H.out.ext (by with_reducible repeat (first | exact Ext.refl _ | apply Ext.drew | apply Ext.alloc | apply Ext.more_)))).mono ?_); rintro e w' ⟨D, m, c, rfl, hN, hm, hb⟩; have harr := hN.arr; obtain ⟨os1, d1, rfl⟩ := hb.more; clear hb hN) | (go_at_call 95; (with_reducible refine (knumbers_any _ _ _ (allV xs) _ harr (by omega)).mono ?_); rw [hff]; rintro e w' ⟨v, rfl, hnm, hb⟩; obtain ⟨os2, d2, rfl⟩ := hb.more; clear hb hnm))
    clear harr hall hff
    go_wp2_with (go_at_call 22; (with_reducible refine (hfa _).mono ?_); rintro e w' ⟨D2, m2, cc2, rfl, hD, hb⟩; obtain ⟨os5, d5, rfl⟩ := hb.more; clear hb; have hDr := hD.rd)
    exact bodyPost_ret (v := AV X.R X.C (.slice D2 m2 cc2)) (by simp [results, Tryz.results94, go_sem]) rfl ⟨D2, m2, cc2, rfl, ⟨(by (try simp only [more_more] at hDr); (try simp only [drew_more] at hDr); (try simp only [more_drew] at hDr); (try simp only [Array.append_assoc] at hDr); exact Rd.swap hDr (by first | (simp; done) | (simp; omega) | omega) (by first | (simp; done) | (simp; omega) | omega) (by first | (simp; done) | (simp; omega) | omega)), hD.len, hD.cap, hD.small, hD.ok⟩, by with_reducible repeat (first | exact Ext.refl _ | apply Ext.drew | apply Ext.alloc | apply Ext.more_)⟩
theorem right_outV {side : Int} {l : List Nm} (h : NRt l) : (outV side l).right := by
  cases l with
  | nil => exact right_num rt_zero
  | cons n l =>
    have hs : ∀ (l : List Nm) (f : Nm), Rt f.1 f.2 → NRt l → Rt (outO side f l).1 (outO side f l).2 := by
      intro l
      induction l with
      | nil => exact fun f hf _ => hf
      | cons a l ih =>
        intro f hf hl
        unfold outO
        refine ih _ ?_ fun p hp => hl p (List.mem_cons_of_mem _ hp)
        split
        · exact hl a List.mem_cons_self
        · exact hf
    exact right_num (hs (n :: l) n (h n List.mem_cons_self) h)
theorem right_medV {l : List Nm} (h : NRt l) : (medV l).right := by
  unfold medV
  split
  · exact right_badV ⟨by decide, by decide⟩
  · split
    · exact right_num (atN_rt (srt_rt h) _)
    · split
      · exact right_badV ⟨by decide, by decide⟩
      · rename_i t _
        exact right_res fun p hp => divS_rt hp
theorem mcall_min (A : Option Addr) (n cap : Nat) (gs : List GA) (w : World) (htab : Tab w) (h : ArgsG w A n cap gs) : Calls Tryz.prog 14 #[.string ⟨#[77, 73, 78]⟩, .slice A n cap] w (CallG w (callX 1 32 gs (ofNumsO (outV (-1)) (arsOf gs)))) :=
  kcall_any ⟨#[77, 73, 78]⟩ 1 32 94 (fun p => #[.pointer (some ⟨p 2, 0, none⟩)]) (by decide) (fun _ => rfl) (fun args W => by go_simp) (by decide) (by decide) A n cap gs w h _ (fun hr h1 h2 p W hW hB =>
    kofNumbers_any A n cap (arsOf gs) 41 #[] (outV (-1)) (p 2) W (htab.ext hW) ((arsOf_in h hr).ext hW) (by omega) (box_cell (t := 78) hB (by simp [fmathB])) (tells_min W) (fun _ hl => right_outV hl) (fun args W => by go_simp))
theorem mcall_max (A : Option Addr) (n cap : Nat) (gs : List GA) (w : World) (htab : Tab w) (h : ArgsG w A n cap gs) : Calls Tryz.prog 14 #[.string ⟨#[77, 65, 88]⟩, .slice A n cap] w (CallG w (callX 1 32 gs (ofNumsO (outV 1) (arsOf gs)))) :=
  kcall_any ⟨#[77, 65, 88]⟩ 1 32 94 (fun p => #[.pointer (some ⟨p 3, 0, none⟩)]) (by decide) (fun _ => rfl) (fun args W => by go_simp) (by decide) (by decide) A n cap gs w h _ (fun hr h1 h2 p W hW hB =>
    kofNumbers_any A n cap (arsOf gs) 43 #[] (outV 1) (p 3) W (htab.ext hW) ((arsOf_in h hr).ext hW) (by omega) (box_cell (t := 78) hB (by simp [fmathB])) (tells_max W) (fun _ hl => right_outV hl) (fun args W => by go_simp))
theorem mcall_median (A : Option Addr) (n cap : Nat) (gs : List GA) (w : World) (htab : Tab w) (h : ArgsG w A n cap gs) (hN : (allV (arsOf gs)).length ≤ 100000) : Calls Tryz.prog 14 #[.string ⟨#[77, 69, 68, 73, 65, 78]⟩, .slice A n cap] w (CallG w (callX 1 32 gs (ofNumsO medV (arsOf gs)))) :=
  kcall_any ⟨#[77, 69, 68, 73, 65, 78]⟩ 1 32 94 (fun p => #[.pointer (some ⟨p 7, 0, none⟩)]) (by decide) (fun _ => rfl) (fun args W => by go_simp) (by decide) (by decide) A n cap gs w h _ (fun hr h1 h2 p W hW hB =>
    kofNumbersM_any A n cap (arsOf gs) 48 medV (p 7) W (htab.ext hW) ((arsOf_in h hr).ext hW) (by omega) hN (box_cell (t := 78) hB (by simp [fmathB])) kmedian_any (fun _ hl => right_medV hl) (fun args W => by go_simp))
theorem mcall_large (A : Option Addr) (n cap : Nat) (gs : List GA) (w : World) (h : ArgsG w A n cap gs) : Calls Tryz.prog 14 #[.string ⟨#[76, 65, 82, 71, 69]⟩, .slice A n cap] w (CallG w (callX 2 2 gs (rankO true (arsOf gs)))) :=
  kcall_any ⟨#[76, 65, 82, 71, 69]⟩ 2 2 108 (fun p => #[.pointer (some ⟨p 8, 0, none⟩)]) (by decide) (fun _ => rfl) (fun args W => by go_simp) (by decide) (by decide) A n cap gs w h _ (fun hr h1 h2 p W hW hB => by
    obtain rfl : n = 2 := by omega
    exact kranked_any true A cap (arsOf gs) 51 (p 8) W ((arsOf_in h hr).ext hW) (box_cell (t := 84) hB (by simp [fmathB])) (fun args W => by go_simp) cmp_great)
theorem mcall_small (A : Option Addr) (n cap : Nat) (gs : List GA) (w : World) (h : ArgsG w A n cap gs) : Calls Tryz.prog 14 #[.string ⟨#[83, 77, 65, 76, 76]⟩, .slice A n cap] w (CallG w (callX 2 2 gs (rankO false (arsOf gs)))) :=
  kcall_any ⟨#[83, 77, 65, 76, 76]⟩ 2 2 108 (fun p => #[.pointer (some ⟨p 9, 0, none⟩)]) (by decide) (fun _ => rfl) (fun args W => by go_simp) (by decide) (by decide) A n cap gs w h _ (fun hr h1 h2 p W hW hB => by
    obtain rfl : n = 2 := by omega
    exact kranked_any false A cap (arsOf gs) 53 (p 9) W ((arsOf_in h hr).ext hW) (box_cell (t := 84) hB (by simp [fmathB])) (fun args W => by go_simp) cmp_small)
end Go.Proofs.YtkcoikelcmpceaaGreatDoor
namespace Go.Proofs.YtkcoikelcmpceaaGreatDoor
open Go.RowKit NM
abbrev set3k (w : World) (b : Nat) (r c : Int) (v : Value) : World := ((w.setCell ⟨b, 0, none⟩ (.int .i64 r)).setCell ⟨b, 1, none⟩ (.int .i64 c)).setCell ⟨b, 2, none⟩ v
theorem set3k_heap {w : World} {b : Nat} {t : TypeId} {r c : Int} {v c0 c1 c2 : Value} (h : w.heap[b]? = some (.cells #[c0, c1, c2] t)) : (set3k w b r c v).heap[b]? = some (.cells #[.int .i64 r, .int .i64 c, v] t) := by
  have h0 := heap_setCell_same _ b 0 _ _ (.int .i64 r) h
  have h1 := heap_setCell_same _ b 1 _ _ (.int .i64 c) h0
  have h2 := heap_setCell_same _ b 2 _ _ v h1
  simpa using h2
theorem set3k_other {w : World} {b q : Nat} {r c : Int} {v : Value} (h : q ≠ b) : (set3k w b r c v).heap[q]? = w.heap[q]? := by
  unfold set3k
  rw [Below.heap_setCell _ _ _ _ h, Below.heap_setCell _ _ _ _ h, Below.heap_setCell _ _ _ _ h]
theorem set3k_ext {W0 w : World} {b : Nat} {r c : Int} {v : Value} (h : Ext W0 w) (hb : W0.heap.size ≤ b) : Ext W0 (set3k w b r c v) := ((Below.setCell h hb _).setCell hb _).setCell hb _
end Go.Proofs.YtkcoikelcmpceaaGreatDoor
namespace Go.Proofs.YtkcoikelcmpceaaGreatDoor
open Go.ChangeShapes Go.WideShapes Go.ChangeAt Go.RowKit Go.Deep
theorem own : ownKnob Tryz.prog.godebug = none := by kernel_rfl
theorem laidOut : laidOutB Tryz.prog = true := by kernel_rfl
theorem pow10_data : (Rows.laid_internal_strconv_uint64pow10 : DataW Unit) = Lib.tabData .u64 Lib.pow10Tab := by
  unfold Rows.laid_internal_strconv_uint64pow10 Lib.tabData Lib.pow10Tab
  simp [List.range_succ]
theorem gPow : Tryz.prog.globalNamed "internal/strconv.uint64pow10" = some 3 := by kernel_rfl
theorem tPow : (Tryz.prog.globals[3]?).map (·.type) = some 197 := by kernel_rfl
set_option maxRecDepth 100000
section
variable {H : Type} {enc : TypeId × Value → H} {w : World} {base : Nat} {spare : Nat → Bool} {held : Bool}
theorem trod_blocks_ {t : TypeId} {v : Value} {d : DataW H} {p : List MemPlace} (h : DataW.Trod enc Tryz.prog w base spare held t v d p) : ∀ x ∈ p, x.block < w.heap.size := by
  obtain ⟨m, hm⟩ := h
  exact DataW.trod_lt m _ _ _ hm
end
end Go.Proofs.YtkcoikelcmpceaaGreatDoor
namespace Go.Proofs.YtkcoikelcmpceaaGreatDoor
open Go.ChangeShapes Go.WideShapes Go.ChangeAt Go.RowKit Go.Deep
set_option maxRecDepth 100000
section
variable {H : Type} {enc : TypeId × Value → H} {w : World} {base : Nat} {spare : Nat → Bool} {held : Bool}
theorem open_byte {r : Reach} {b0 : Nat} {v : Value} {d : DataW H} {p : List MemPlace} (hv : Value.okWide Tryz.prog w r b0 5 v) (h : DataW.Trod enc Tryz.prog w base spare held 5 v d p) :
    ∃ b : Int, v = .int .u8 b ∧ 0 ≤ b ∧ b ≤ 255 := by
  obtain ⟨b, rfl⟩ := okWide_int Tryz.underlying5 hv
  obtain ⟨fuel, hf⟩ := h
  obtain ⟨m, e0, _, w0⟩ := DataW.trod_int Tryz.underlying5 hf
  have e1 : b = m := by simpa [Value.cells] using e0
  subst e1
  have : 0 ≤ b ∧ b ≤ 255 := by simpa [Lit.wf, IntKind.min, IntKind.max, IntKind.signed, IntKind.bits] using w0
  exact ⟨b, rfl, this⟩
end
end Go.Proofs.YtkcoikelcmpceaaGreatDoor
namespace Go.Proofs.YtkcoikelcmpceaaGreatDoor
open Go.ChangeShapes Go.WideShapes Go.ChangeAt Go.RowKit
theorem joined_parts {P : Program} {f : FuncId} {fn : Func} {s : ChangeSpec} {c : OpenClaim} (h1 : laidOutB P = true) (h2 : mapsRowed P = true)
    (h3 : (c.inPlace == P.inPlace f) = true) (h4 : (c.unfollowed == P.unfollowed f) = true) (h5 : (c.recurses == P.recurses f) = true) (h6 : (c.named == P.varsNamed f) = true)
    (h7 : (c.plainKeys == P.plainKeys) = true) (h8 : P.stopsHeard = true) (h9 : P.mayEnter = true) (h10 : (c.lifted == P.liftsFinal) = true) (h11 : (P.make == some c.make) = true)
    (hr : (c.wf (OpenSpec.ofChange s) && fn.params.all (P.readableRec ·) && namedTie P c.named s.vars &&
      (c.stops == []) && (P.stops == []) && (c.knobs == []) && (P.stopKnobs == []) &&
      (c.maps == (fn.params.toList ++ s.plain.varTypes P).any (P.mapsRec ·)) && (c.ifaces == (fn.params.toList ++ s.plain.varTypes P).any (P.ifacesRec ·)) && (c.mapsOut == P.mapsAmong fn.resultTypes.toList) &&
      (c.loops == (fn.params.toList ++ s.plain.varTypes P).any (P.loopsFrom ·)) && (c.wideKeys == (fn.params.toList ++ s.plain.varTypes P ++ fn.resultTypes.toList).any (P.wideKeysFrom ·)) &&
      s.vars.all (P.varReadable ·) && fn.resultTypes.all (fun t => P.readableRec t && decide (t < P.types.size)) && (c.ifacesOut == fn.resultTypes.toList.any (P.ifacesRec ·)) && (c.loopsOut == fn.resultTypes.toList.any (P.loopsFrom ·)) && c.shortTexts.isNone && (c.kinds == (if c.domain.isEmpty then [] else fn.params.toList.map fun t => match P.underlying t with | some (.int k) => some k | _ => none)) && (c.pinned == c.pinnedBy) &&
      (c.veiled == (fn.params.toList ++ s.plain.varTypes P ++ fn.resultTypes.toList).any (P.veiledRec ·)) && c.veiledFits P fn.params.toList (fn.params.toList ++ s.plain.varTypes P ++ fn.resultTypes.toList)) = true) :
    joinedFacts P f fn s c = true := by
  simp only [joinedFacts, h1, h2, h3, h4, h5, h6, h7, h8, h9, h10, h11, Bool.and_true]
  exact hr
theorem seat_maps : mapsRowed Tryz.prog = true := by kernel_rfl
theorem seat_heard : Program.stopsHeard Tryz.prog = true := by kernel_rfl
theorem seat_may : Program.mayEnter Tryz.prog = true := by kernel_rfl
end Go.Proofs.YtkcoikelcmpceaaGreatDoor
namespace Go.Proofs.YtkcoikelcmpceaaGreatDoor
open Go.ChangeShapes Go.WideShapes Go.ChangeAt Go.RowKit Go.Deep
def laid4 : List (String × DataW Unit) := [("math/bits.deBruijn32tab", Rows.laid_math_bits_deBruijn32tab), ("math/bits.deBruijn64tab", Rows.laid_math_bits_deBruijn64tab), ("internal/strconv.uint64pow10", Rows.laid_internal_strconv_uint64pow10), ("counterpane/value.faultTexts", Rows.laid_counterpane_value_faultTexts)]
def strData {H : Type} (ss : List (List UInt8)) : DataW H := .agg (ss.map fun s => .lit (.string s))
theorem cells_of_strs {H : Type} {enc : TypeId × Value → H} {P : Program} {w : World} {base : Nat} {sp : Nat → Bool} {held : Bool} {fuel : Nat} {t e : TypeId} {n : Nat} {cs : List Value} {ss : List (List UInt8)} {p : List MemPlace}
    (ht : P.underlying t = some (.array n e)) (he : P.underlying e = some .string) (hce : P.cellsOf e = 1) (hct : P.cellsOf t = n)
    (h : DataW.trod enc P w base sp held fuel t cs = some (strData ss, p)) : cs = ss.map fun s => Value.string ⟨s.toArray⟩ := by
  cases fuel with
  | zero => simp [DataW.trod] at h
  | succ fuel =>
    simp only [DataW.trod, ht, hce, hct, Nat.mul_one] at h
    split at h
    · rename_i hl
      obtain ⟨xs, hm, hx⟩ := Option.map_eq_some_iff.1 h
      have hxs : xs.map (·.1) = ss.map fun s => (DataW.lit (.string s) : DataW H) := by
        have := congrArg Prod.fst hx
        simpa [strData] using this
      have hxl : xs.length = n := by simpa using Lib.mapM_length hm
      have hzl : ss.length = n := by
        have := congrArg List.length hxs
        simp at this
        omega
      apply List.ext_getElem?
      intro i
      by_cases hi : i < n
      · obtain ⟨b, hb, hf⟩ := Lib.mapM_at hm i i (by simp [hi])
        obtain ⟨z, hc, rfl, _⟩ := DataW.trod_string he hf
        have h1 : cs[i]? = some (.string z) := by
          have := congrArg (·[0]?) hc
          simpa [List.getElem?_take, List.getElem?_drop] using this
        have h2 : (xs.map (·.1))[i]? = some (DataW.lit (.string z.data.toList) : DataW H) := by simp [hb]
        rw [hxs] at h2
        simp only [List.getElem?_map, Option.map_eq_some_iff, DataW.lit.injEq, Lit.string.injEq] at h2
        obtain ⟨z', hz', e⟩ := h2
        have e2 : z = ⟨z'.toArray⟩ := by cases z with | mk d => simp only at e; rw [e]
        simp [h1, hz', e2]
      · rw [List.getElem?_eq_none (by omega), List.getElem?_eq_none (by simp; omega)]
    · cases h
theorem faults_data : (Rows.laid_counterpane_value_faultTexts : DataW Unit) = strData (faultTs.map fun s => s.data.toList) := by
  unfold Rows.laid_counterpane_value_faultTexts strData faultTs
  rfl
theorem tFaults : (Tryz.prog.globals[2]?).map (·.type) = some 182 := by kernel_rfl
theorem tabs_of_laid4 {W : World} (h : laidMetH Tryz.prog laid4 W) : Tab W ∧ FTab W := by
  rw [MakeChecks.laidMetH_plain _ _ _ (by kernel_rfl)] at h
  obtain ⟨ps, ⟨g0, t0, cs0, f0, p0, q0, hg0, ht0, hv0, hd0, ⟨g1, t1, cs1, f1, p1, q1, hg1, ht1, hv1, hd1, ⟨g2, t2, cs2, f2, p2, q2, hg2, ht2, hv2, hd2, ⟨g3, t3, cs3, f3, p3, q3, hg3, ht3, hv3, hd3, _, _⟩, _⟩, _⟩, _⟩, _, _⟩ := h
  obtain rfl := Option.some.inj (gPow.symm.trans hg2)
  obtain rfl := Option.some.inj (tPow.symm.trans ht2)
  obtain rfl := Option.some.inj (gFaults.symm.trans hg3)
  obtain rfl := Option.some.inj (tFaults.symm.trans ht3)
  constructor
  · rw [pow10_data] at hd2
    unfold Tab Lib.TabIs
    rw [hv2, ← Lib.cells_of_tab Tryz.underlying197 Tryz.underlying117 (by kernel_rfl) (by kernel_rfl) hd2]
  · rw [faults_data] at hd3
    unfold FTab
    rw [hv3, show faultTs.map Value.string = cs3.toList from ?_]
    have := cells_of_strs Tryz.underlying182 Tryz.underlying9 (by kernel_rfl) (by kernel_rfl) hd3
    rw [this]
    rfl
theorem door_met4 (os : Os) (args : Array Value) : laidMetH Tryz.prog laid4 ((World.doorLaid Tryz.prog 400 os).forCall (fun _ _ => 0) ⟨#[], args, []⟩).memory :=
  laidMetH_of_parts3 (fuel := 8) (laidMet_of_run' 8 (by kernel_rfl) (by kernel_rfl)) (by kernel_rfl) (by kernel_rfl)
set_option maxRecDepth 100000
section
variable {H : Type} {enc : TypeId × Value → H} {w : World} {base : Nat} {spare : Nat → Bool} {held : Bool}
/-- A slice of integers of a small kind. -/
structure IntsIn (w : World) (k : IntKind) (lo hi : Int) (A : Option Addr) (n cap : Nat) (l : List Int) : Prop where
  rd : Rd 0 w A (l.map (Value.int k))
  len : l.length = n
  cap : n ≤ cap
  small : n ≤ 9223372036854775807
  bd : ∀ x ∈ l, lo ≤ x ∧ x ≤ hi
theorem cells_i32 : Tryz.prog.cellsOf 21 = 1 := by kernel_rfl
theorem open_i32s {r : Reach} {b0 : Nat} {v : Value} {d : DataW H} {p : List MemPlace} (hv : Value.okWide Tryz.prog w r b0 22 v) (h : DataW.Trod enc Tryz.prog w base spare held 22 v d p) :
    ∃ (A : Option Addr) (n cap : Nat) (l : List Int), v = .slice A n cap ∧ IntsIn w .i32 (-2147483648) 2147483647 A n cap l := by
  obtain ⟨A, len, cap, rfl⟩ := okWide_slice Tryz.underlying22 hv
  obtain ⟨fuel, hf⟩ := h
  have hf' : DataW.trod enc Tryz.prog w base spare held fuel 22 [.slice A len cap] = some (d, p) := by simpa [Value.cells] using hf
  rcases open_slice Tryz.underlying22 hf' with ⟨hcs, _⟩ | ⟨ad, len', cap', m, n, D, Pl, hcs, hb, hl, hm, hmm, _, hi⟩
  · simp only [List.cons.injEq, Value.slice.injEq, and_true] at hcs
    obtain ⟨rfl, rfl, rfl⟩ := hcs
    exact ⟨_, _, _, [], rfl, Rd.nil _ _ _, rfl, Nat.le_refl _, by omega, by simp⟩
  · simp only [List.cons.injEq, Value.slice.injEq, and_true] at hcs
    obtain ⟨rfl, rfl, rfl⟩ := hcs
    have hlm : len ≤ m := by rw [hmm]; split <;> omega
    obtain ⟨X, hX⟩ := choose_lt (α := Int) (n := len) (p := fun i y => w.cells? base (ad.add (i * 1)) 1 = some [.int .i32 y] ∧ (-2147483648 ≤ y ∧ y ≤ 2147483647)) (fun i hil => by
      obtain ⟨cs', h1, h2⟩ := hi i (by omega)
      rw [cells_i32] at h1
      obtain ⟨y, e0, _, w0⟩ := DataW.trod_int Tryz.underlying21 h2
      subst e0
      exact ⟨y, h1, by simpa [Lit.wf, IntKind.min, IntKind.max, IntKind.signed, IntKind.bits] using w0⟩)
    refine ⟨_, _, _, (List.range len).map X, rfl, ?_, by simp, hl, by simp only [maxLen] at hm; omega, ?_⟩
    · intro j u hu
      have hj : j < len := by have := (List.getElem?_eq_some_iff.1 hu).1; simpa using this
      obtain rfl : Value.int .i32 (X j) = u := by simpa [hj] using hu
      obtain ⟨_, _, hc⟩ := World.cells?_some (hX j hj).1
      have h6 := hc 0 (by omega)
      rw [Go.Deep.add_add, Nat.mul_one, Nat.add_zero] at h6
      obtain ⟨b, off, spot⟩ := ad
      have hsp : spot = none := by
        obtain ⟨_, _, hc0⟩ := World.cells?_some (hX 0 (by omega)).1
        have h0 := hc0 0 (by omega)
        simp [Addr.add] at h0
        exact World.cell?_spot h0
      subst hsp
      rw [Addr.add_mid] at h6
      exact ⟨b, off, rfl, Nat.zero_le _, by simpa using h6⟩
    · intro y hy
      simp only [List.mem_map, List.mem_range] at hy
      obtain ⟨i, hi', rfl⟩ := hy
      exact (hX i hi').2
end
end Go.Proofs.YtkcoikelcmpceaaGreatDoor
namespace Go.Proofs.YtkcoikelcmpceaaGreatDoor
open Go.RowKit NM
theorem knew_row {w : World} {o : Obj} {p : Nat} (hp : p = w.heap.size) : (w.alloc o).heap[p]? = some o := by subst hp; exact heap_alloc_new _ _
/-- What the law asks of numbers and of the same numbers turned. -/
structure OrdF (L M : List Nm) (k : Nat) (lo hi : Nm) (md : Val) : Prop where
  mina : outV (-1) L = nV lo
  maxa : outV 1 L = nV hi
  minb : outV (-1) M = nV lo
  maxb : outV 1 M = nV hi
  sm1 : atN (ordN false M) 0 = lo
  la1 : atN (ordN true M) 0 = hi
  lan : atN (ordN true M) (k - 1) = lo
  smn : atN (ordN false M) (k - 1) = hi
  meda : medV L = md
  medb : medV M = md
theorem ordF_of {L M : List Nm} {k : Nat} (hL : L.length = k) (hr : NRt L) (hp : M.Perm L) (h0 : 0 < k) : OrdF L M k (atN (srtN L) 0) (atN (srtN L) (k - 1)) (medV L) := by
  have hM : M.length = k := hp.length_eq.trans hL
  have hMr := nrt_perm hr hp
  have hs := srt_same hr hp
  have e1 : ordN false M = srtN L := hs
  have e2 : ordN true M = (srtN L).reverse := by show (srtN M).reverse = _; rw [hs]
  have hl : (srtN L).length = k := (srt_len L).trans hL
  refine ⟨outV_least hr (by omega), ?_, ?_, ?_, by rw [e1], ?_, ?_, by rw [e1], rfl, medV_same hr hp⟩
  · rw [outV_most hr (by omega), hL]
  · rw [outV_least hMr (by omega), hs]
  · rw [outV_most hMr (by omega), hs, hM]
  · rw [e2, rev_at (by omega), hl]; congr 1
  · rw [e2, rev_at (by omega), hl]; congr 1; omega
theorem rt_cN (i : Int) : Rt (rm (rnd (decide (i < 0)) i.natAbs false (-2))) (re (rnd (decide (i < 0)) i.natAbs false (-2))) := rt_of_rnd
/-- A hundredth. -/
def cN (i : Int) : Nm := (rm (rnd (decide (i < 0)) i.natAbs false (-2)), re (rnd (decide (i < 0)) i.natAbs false (-2)))
theorem cN_all (l : List Int) : NRt (l.map cN) := fun p hp => by
  obtain ⟨i, _, rfl⟩ := List.mem_map.1 hp
  exact rt_cN i
theorem nV_right {l : List Nm} (h : NRt l) : ∀ x ∈ l.map nV, x.right := fun x hx => by
  obtain ⟨p, hp, rfl⟩ := List.mem_map.1 hx
  exact right_num (h p hp)
set_option maxHeartbeats 4000000 in
theorem fmathOrder_any (A : Option Addr) (n cap : Nat) (l : List Int) (by_ : Nat) (w : World) (htab : Tab w) (hft : FTab w) (h : IntsIn w .i32 (-2147483648) 2147483647 A n cap l) (hby : by_ ≤ 255) :
    Calls Tryz.prog 5 #[.slice A n cap, .int .u8 (by_ : Int)] w fun e w' => e = .returned (.bool true) ∧ Ext w w' := by
  obtain ⟨i0, hi0, hz0, hz1, hz2⟩ := info_parts info_val
  have HT := Lib.hid htab
  have HF := Lib.hid hft
  have hsm := h.small
  have H := Lib.hid h
  clear htab hft h
  by_cases h1 : n < 1
  · have h1' : decide ((n : Int) < 1) = true := decide_eq_true (by omega)
    go_enter Tryz.func5, Tryz.ntmps5
    go_wp2_with (first | (go_at_call 7; (with_reducible refine (awake11_any _ (HT.out.ext (by with_reducible repeat (first | exact Ext.refl _ | apply Ext.drew | apply Ext.alloc | apply Ext.more_))) (HF.out.ext (by with_reducible repeat (first | exact Ext.refl _ | apply Ext.drew | apply Ext.alloc | apply Ext.more_)))).mono ?_); rintro e w' ⟨rfl, hb⟩; obtain ⟨osw1, dw1, rfl⟩ := hb.more; clear hb))
    go_ret
    exact ⟨rfl, by with_reducible repeat (first | exact Ext.refl _ | apply Ext.drew | apply Ext.alloc | apply Ext.more_)⟩
  by_cases h2 : 40 < n
  · have h1' : decide ((n : Int) < 1) = false := decide_eq_false (by omega)
    have h2' : decide ((40 : Int) < n) = true := decide_eq_true (by omega)
    go_enter Tryz.func5, Tryz.ntmps5
    go_wp2_with (first | (go_at_call 7; (with_reducible refine (awake11_any _ (HT.out.ext (by with_reducible repeat (first | exact Ext.refl _ | apply Ext.drew | apply Ext.alloc | apply Ext.more_))) (HF.out.ext (by with_reducible repeat (first | exact Ext.refl _ | apply Ext.drew | apply Ext.alloc | apply Ext.more_)))).mono ?_); rintro e w' ⟨rfl, hb⟩; obtain ⟨osw1, dw1, rfl⟩ := hb.more; clear hb))
    go_ret
    exact ⟨rfl, by with_reducible repeat (first | exact Ext.refl _ | apply Ext.drew | apply Ext.alloc | apply Ext.more_)⟩
  have h1' : decide ((n : Int) < 1) = false := decide_eq_false (by omega)
  have h2' : decide ((40 : Int) < n) = false := decide_eq_false (by omega)
  go_enter Tryz.func5, Tryz.ntmps5
  go_upto_region 5 with (first | (go_at_call 7; (with_reducible refine (awake11_any _ (HT.out.ext (by with_reducible repeat (first | exact Ext.refl _ | apply Ext.drew | apply Ext.alloc | apply Ext.more_))) (HF.out.ext (by with_reducible repeat (first | exact Ext.refl _ | apply Ext.drew | apply Ext.alloc | apply Ext.more_)))).mono ?_); rintro e w' ⟨rfl, hb⟩; obtain ⟨osw1, dw1, rfl⟩ := hb.more; clear hb))
  have cmk : ∀ x W, -2147483648 ≤ x ∧ x ≤ 2147483647 → Calls Tryz.prog 8 #[.int .i64 x, .int .i64 (-2)] W fun e w' => e = .returned (.tuple #[NV (cN x).1 (cN x).2, .bool (rnd (decide (x < 0)) x.natAbs false (-2)).isSome]) ∧ Ext W w' := fun x W hx => rmake_any x (-2) W (by unfold I64; omega)
  have HM := Lib.hid cmk
  have hln := H.out.len
  have hcp := H.out.cap
  have HL := Lib.hid hln
  clear cmk hln h1' h2'
  go_loopw [5, 7] (fun v i wr => ∃ k : Nat, k ≤ n ∧ i = .int .i64 (k : Int) ∧ Hid (wr.ownsRow w.heap.size 30 6 v k (vcells ((l.take k).map fun i => nV (cN i)))) ∧ Ext w wr) (fun _ i _ => n - (intOf i).toNat)
  case atStart => exact ⟨0, Nat.zero_le _, rfl, World.ownsRow_nil _ _ _ _, by with_reducible repeat (first | exact Ext.refl _ | apply Ext.drew | apply Ext.alloc | apply Ext.more_)⟩
  case round =>
    obtain ⟨k, hk, rfl, HW, hxr⟩ := hrel
    have hsz := hxr.size
    by_cases hlt : k < n
    · obtain ⟨x, hx⟩ : ∃ x, l[k]? = some x := ⟨_, List.getElem?_eq_getElem (by have := HL.out; omega)⟩
      have hxb := H.out.bd x (List.mem_of_getElem? hx)
      have HS : Hid ((l.take (k + 1)).map (fun i => nV (cN i)) = (l.take k).map (fun i => nV (cN i)) ++ [nV (cN x)]) := Lib.hid (by rw [List.take_add_one, hx]; simp)
      obtain ⟨b, off, rfl, _, hcell⟩ := H.out.rd k (.int .i32 x) (by rw [List.getElem?_map, hx]; rfl)
      replace hcell := hxr.cell_some hcell
      have hbl := lt_of_cell hcell
      have hmk := fun W => HM.out x W hxb
      have hwx : IntKind.i64.wrap x = x := by rw [IntKind.wrap_i64]; omega
      clear hx
      have HP : Hid (nV (cN x) = ⟨1, (cN x).1, (cN x).2, ⟨#[]⟩, false, 0⟩) := Lib.hid rfl
      generalize nV (cN x) = X at *
      generalize cN x = p at *
      generalize (rnd (decide (x < 0)) x.natAbs false (-2)).isSome = gx at *
      generalize (l.take k).map (fun i => nV (cN i)) = O at *
      go_wp2_with (first | (go_at_call 8; (with_reducible refine (hmk _).mono ?_); rintro e w' ⟨rfl, hb⟩; obtain ⟨osm, dm, rfl⟩ := hb.more; clear hb) | (at_builtin; refine wpList_append_own _ rfl _ _ _ rfl w.heap.size 30 i0 (VV 0 0 0 ⟨#[]⟩ false 0) 6 56 Tryz.underlying24 hi0 hz0 hz1 hz2 rfl (by decide) _ k (vcells O) rfl (own_ext HW.out (by with_reducible repeat (first | exact Ext.refl _ | apply Ext.drew | apply Ext.alloc | apply Ext.more_))) _ 1 1 [.int .i64 1, .int .i64 p.1, .int .i64 p.2, .string ⟨#[]⟩, .bool false, .int .i64 0] rfl rfl (new_cells_at _ _ _ (by first | rfl | (simp; done)) rfl _) (vcells_one (l := [⟨1, p.1, p.2, ⟨#[]⟩, false, 0⟩])) (by simp only [maxLen]; omega) (by omega) (by simp; omega) ?_; intro v4 w4 ho4 hg4 _))
      have hx4 := ext_grownN (hxr.trans (by with_reducible repeat (first | exact Ext.refl _ | apply Ext.drew | apply Ext.alloc | apply Ext.more_))) (own_ext HW.out (by with_reducible repeat (first | exact Ext.refl _ | apply Ext.drew | apply Ext.alloc | apply Ext.more_))) hg4
      refine ⟨⟨k + 1, by omega, by go_num, ?_, hx4⟩, by simp [intOf]; omega⟩
      show World.ownsRow _ _ _ _ _ _ _
      rw [HS.out, vcells_append, HP.out]
      exact ho4
    · obtain rfl : k = n := by omega
      have htk : l.take k = l := by rw [← HL.out]; exact List.take_length
      rw [htk] at HW
      obtain ⟨D, c9, rfl, hrd, hcD⟩ := Rd.of_own HW.out
      obtain ⟨L, hL⟩ : ∃ L, l.map cN = L := ⟨_, rfl⟩
      have hmm : l.map (fun i => nV (cN i)) = L.map nV := by rw [← hL, List.map_map]; rfl
      rw [hmm] at hrd
      have hLl : L.length = k := by rw [← hL, List.length_map]; exact HL.out
      have hLr : NRt L := by rw [← hL]; exact cN_all l
      have hA : ArrIn wr D k c9 (L.map nV) := ⟨hrd.mono (Nat.zero_le _), by rw [List.length_map]; exact hLl, hcD, by omega, fun y hy => (nV_right hLr y hy).ok⟩
      have HA := Lib.hid hA
      have HLR := Lib.hid (And.intro hLl hLr)
      have hwb : IntKind.i64.wrap (by_ : Int) = (by_ : Int) := by rw [IntKind.wrap_i64]; omega
      have HTR := Lib.hid (HT.out.ext hxr)
      have HFR := Lib.hid (HF.out.ext hxr)
      have HXR := Lib.hid hxr
      clear htk hmm hrd hL hLl hLr hA HM HW hsz hxr hlt HT HF H HL
      go_upto_region 10 with fail
      obtain ⟨V, rfl⟩ : ∃ V : World, V = wr := ⟨_, rfl⟩
      go_loopw [6, 10] (fun v i wr => ∃ j : Nat, j ≤ k ∧ i = .int .i64 (j : Int) ∧ Hid (wr.ownsRow V.heap.size 30 6 v j (vcells ((rotN L by_ j).map nV))) ∧ Ext V wr) (fun _ i _ => k - (intOf i).toNat)
      case atStart => exact ⟨0, Nat.zero_le _, rfl, World.ownsRow_nil _ _ _ _, Ext.refl _⟩
      case round =>
        obtain ⟨j, hj, rfl, HW, hxr⟩ := hrel
        have hsz := hxr.size
        by_cases hlt : j < k
        · obtain ⟨q, hq⟩ : ∃ q, (j + by_) % k = q := ⟨_, rfl⟩
          have hqk : q < k := by rw [← hq]; exact Nat.mod_lt _ (by omega)
          have e1 : IntKind.i64.wrap ((j : Int) + (by_ : Int)) = ((j + by_ : Nat) : Int) := by rw [IntKind.wrap_i64]; omega
          have e2 : ((j + by_ : Nat) : Int).tmod (k : Int) = (q : Int) := by rw [← hq]; rfl
          have e2' : ((j : Int) + (by_ : Int)).tmod (k : Int) = (q : Int) := by rw [← hq]; rfl
          have e3 : IntKind.i64.wrap (q : Int) = (q : Int) := by rw [IntKind.wrap_i64]; omega
          have e4 : ((k : Int) == 0) = false := by simp; omega
          obtain ⟨x, b, off, hx, _, rfl, hat⟩ := HA.out.at hqk
          obtain ⟨z0, z1, z2, z3, z4, z5⟩ := hat.ext hxr
          have lz := lt_of_cell z0
          have hX : x = nV (atN L q) := by
            have : (L.map nV)[q]? = some (nV (atN L q)) := by
              rw [List.getElem?_map, List.getElem?_eq_getElem (by have := HLR.out.1; omega)]
              unfold atN
              rw [getD_at (by have := HLR.out.1; omega)]; rfl
            rw [this] at hx; exact (Option.some.inj hx).symm
          subst hX
          have HS : Hid ((rotN L by_ (j + 1)).map nV = (rotN L by_ j).map nV ++ [nV (atN L q)]) := Lib.hid (by rw [rot_succ, HLR.out.1, hq, List.map_append]; rfl)
          have hcc : k ≤ c9 := HA.out.cap
          clear hx hat hq
          generalize nV (atN L q) = X at *
          generalize (rotN L by_ j).map nV = O at *
          go_wp2_with (first | (at_builtin; refine wpList_append_own _ rfl _ _ _ rfl V.heap.size 30 i0 (VV 0 0 0 ⟨#[]⟩ false 0) 6 56 Tryz.underlying24 hi0 hz0 hz1 hz2 rfl (by decide) _ j (vcells O) rfl (own_ext HW.out (by with_reducible repeat (first | exact Ext.refl _ | apply Ext.drew | apply Ext.alloc | apply Ext.more_))) _ 1 1 [.int .i64 X.kind, .int .i64 X.mant, .int .i64 X.exp, .string X.text, .bool X.truth, .int .i64 X.fault] rfl rfl (new_cells_at _ _ _ (by first | rfl | (simp; done)) rfl _) (vcells_one (l := [X])) (by simp only [maxLen]; omega) (by omega) (by simp; omega) ?_; intro v4 w4 ho4 hg4 _))
          have hx4 := ext_grownN (hxr.trans (by with_reducible repeat (first | exact Ext.refl _ | apply Ext.drew | apply Ext.alloc | apply Ext.more_))) (own_ext HW.out (by with_reducible repeat (first | exact Ext.refl _ | apply Ext.drew | apply Ext.alloc | apply Ext.more_))) hg4
          refine ⟨⟨j + 1, by omega, by go_num, ?_, hx4⟩, by simp [intOf]; omega⟩
          show World.ownsRow _ _ _ _ _ _ _
          rw [HS.out, vcells_append]
          exact ho4
        · obtain rfl : k = j := by omega
          obtain ⟨E, c8, rfl, hrd, hcE⟩ := Rd.of_own HW.out
          have hlr := rot_len L by_ k
          have hLr := HLR.out.2
          have hLl := HLR.out.1
          have hpm : (rotN L by_ k).Perm L := by rw [← hLl]; exact rot_perm L by_ (by omega)
          obtain ⟨M, hM⟩ : ∃ M, rotN L by_ k = M := ⟨_, rfl⟩
          rw [hM] at hrd hlr hpm
          have hMr : NRt M := nrt_perm hLr hpm
          have hB : ArrIn wr E k c8 (M.map nV) := ⟨hrd.mono (Nat.zero_le _), by rw [List.length_map]; exact hlr, hcE, by omega, fun y hy => (nV_right hMr y hy).ok⟩
          have hA2 := HA.out.ext hxr
          have HA1 : Hid (ArrIn wr D k c9 (L.map nV) ∧ NA.right ⟨1, k, L.map nV⟩) := Lib.hid ⟨hA2, (kAr_ok hA2 (by omega) (by omega) (nV_right hLr)).right⟩
          have HB1 : Hid (ArrIn wr E k c8 (M.map nV) ∧ NA.right ⟨1, k, M.map nV⟩) := Lib.hid ⟨hB, (kAr_ok hB (by omega) (by omega) (nV_right hMr)).right⟩
          have HTW := Lib.hid (HTR.out.ext hxr)
          have HFW := Lib.hid (HFR.out.ext hxr)
          have HXW := Lib.hid (HXR.out.trans hxr)
          have hcE2 : k ≤ c8 := hcE
          have HPL := Lib.hid (And.intro hLl (And.intro hLr (And.intro hlr (And.intro hpm hMr))))
          clear hLl hLr hlr hpm hM hMr hB hA2 hrd HA HTR HFR HXR HLR HW hlt hcE hwb
          have hOF := ordF_of HPL.out.1 HPL.out.2.1 HPL.out.2.2.2.1 (by omega)
          have rlo := atN_rt (srt_rt HPL.out.2.1) 0
          have rhi := atN_rt (srt_rt HPL.out.2.1) (k - 1)
          have rmd := right_medV HPL.out.2.1
          generalize atN (srtN L) 0 = lo at *
          generalize atN (srtN L) (k - 1) = hi at *
          generalize medV L = md at *
          have hT15 : T 15 = 1000000000000000 := by decide
          have h1N : wholeN 1 = (1, 0) := whole_one
          have fk : countedO isNum (allV [kAr (L.map nV) D k c9]) = oneA (nV (wholeN k)) := by
            have h := count_nV (xs := [kAr (L.map nV) D k c9]) (l := L) (by simp [allV]); rw [HPL.out.1] at h; exact h
          have f1 : ofNumsO (outV (-1)) [kAr (L.map nV) D k c9] = oneA (nV lo) := by rw [← hOF.mina]; exact ofNums_row _ (by simp [allV])
          have f2 : ofNumsO (outV 1) [kAr (L.map nV) D k c9] = oneA (nV hi) := by rw [← hOF.maxa]; exact ofNums_row _ (by simp [allV])
          have f3 : ofNumsO (outV (-1)) [kAr (M.map nV) E k c8] = oneA (nV lo) := by rw [← hOF.minb]; exact ofNums_row _ (by simp [allV])
          have f4 : ofNumsO (outV 1) [kAr (M.map nV) E k c8] = oneA (nV hi) := by rw [← hOF.maxb]; exact ofNums_row _ (by simp [allV])
          have f5 : ofNumsO medV [kAr (L.map nV) D k c9] = oneA md := by rw [← hOF.meda]; exact ofNums_row _ (by simp [allV])
          have f6 : ofNumsO medV [kAr (M.map nV) E k c8] = oneA md := by rw [← hOF.medb]; exact ofNums_row _ (by simp [allV])
          have g1 : ∀ q, rankO false [kAr (M.map nV) E k c8, kOne (nV (1, 0)) q] = oneA (nV lo) := fun q => by
            have h := rank_row false M 1 (by omega) (by have := HPL.out.2.2.1; omega) (by have := HPL.out.2.2.1; omega) E (some ⟨q, 0, none⟩) k c8 1 1
            rw [show ((1 : Nat) : Int) = 1 from rfl, h1N, hOF.sm1] at h; exact h
          have g2 : ∀ q, rankO true [kAr (M.map nV) E k c8, kOne (nV (1, 0)) q] = oneA (nV hi) := fun q => by
            have h := rank_row true M 1 (by omega) (by have := HPL.out.2.2.1; omega) (by have := HPL.out.2.2.1; omega) E (some ⟨q, 0, none⟩) k c8 1 1
            rw [show ((1 : Nat) : Int) = 1 from rfl, h1N, hOF.la1] at h; exact h
          have g3 : ∀ q, rankO true [kAr (M.map nV) E k c8, kOne (nV (wholeN k)) q] = oneA (nV lo) := fun q => by
            have h := rank_row true M k (by omega) (by have := HPL.out.2.2.1; omega) (by have := HPL.out.2.2.1; omega) E (some ⟨q, 0, none⟩) k c8 1 1
            rw [hOF.lan] at h; exact h
          have g4 : ∀ q, rankO false [kAr (M.map nV) E k c8, kOne (nV (wholeN k)) q] = oneA (nV hi) := fun q => by
            have h := rank_row false M k (by omega) (by have := HPL.out.2.2.1; omega) (by have := HPL.out.2.2.1; omega) E (some ⟨q, 0, none⟩) k c8 1 1
            rw [hOF.smn] at h; exact h
          have z1 : (allV [kAr (L.map nV) D k c9]).length ≤ 100000 := by have := HPL.out.1; simp [allV]; omega
          have z2 : (allV [kAr (M.map nV) E k c8]).length ≤ 100000 := by have := HPL.out.2.2.1; simp [allV]; omega
          have hr1 : (nV (1, 0)).right := right_num rt_one
          have hrc : (nV (wholeN k)).right := nW_right (by omega)
          have hrl : (nV lo).right := right_num rlo
          have hrh : (nV hi).right := right_num rhi
          have hes := eql_same
          have HS1 := Lib.hid (And.intro fk (And.intro f1 f2))
          have HS2 := Lib.hid (And.intro g1 (And.intro g2 (And.intro g3 g4)))
          have HS3 := Lib.hid (And.intro f5 (And.intro f6 (And.intro f3 f4)))
          have HSZ := Lib.hid (And.intro z1 z2)
          clear fk f1 f2 f3 f4 f5 f6 g1 g2 g3 g4 z1 z2 rlo rhi rmd hOF HPL hT15 h1N
          generalize wholeN (k : Int) = cn at *
          go_upto_region 14 with (first | (go_at_call 10; (with_reducible refine (krow_any D k c9 _ (by omega)).mono ?_); rintro e w' ⟨rfl, hb⟩; obtain ⟨osr, dr, rfl⟩ := hb.more; clear hb) | (go_at_call 10; (with_reducible refine (krow_any E k c8 _ (by omega)).mono ?_); rintro e w' ⟨rfl, hb⟩; obtain ⟨osq, dq, rfl⟩ := hb.more; clear hb))
          refine wp_world fun U hU => ?_
          have hxU : Ext wr U := by rw [hU]; exact (by repeat (first | (with_reducible (first | exact Ext.refl _ | exact ext_d _ _ _ _ | exact ext_app _ _ _ _ _ | exact ext_app2 _ _ _ _ _ _)) | ((with_reducible refine ext_suffix ⟨_, ?_⟩); (try simp only [Array.append_assoc]); rfl) | (with_reducible (first | apply Ext.drew | apply Ext.alloc | apply Ext.more_))))
          have a0 : U.cell? ⟨wr.heap.size + (osr.size + osq.size), 0, none⟩ = some (.int .i64 1) := by rw [hU]; go_simp
          have a1 : U.cell? ⟨wr.heap.size + (osr.size + osq.size), 1, none⟩ = some (.int .i64 (k : Int)) := by rw [hU]; go_simp
          have a2 : U.cell? ⟨wr.heap.size + (osr.size + osq.size), 2, none⟩ = some (.slice D k c9) := by rw [hU]; go_simp
          have b0 : U.cell? ⟨wr.heap.size + (osr.size + osq.size) + 1, 0, none⟩ = some (.int .i64 1) := by rw [hU]; go_simp
          have b1 : U.cell? ⟨wr.heap.size + (osr.size + osq.size) + 1, 1, none⟩ = some (.int .i64 (k : Int)) := by rw [hU]; go_simp
          have b2 : U.cell? ⟨wr.heap.size + (osr.size + osq.size) + 1, 2, none⟩ = some (.slice E k c8) := by rw [hU]; go_simp
          have la := lt_of_cell a0
          have lb := lt_of_cell b0
          replace HA1 : Hid (ArrIn U D k c9 (L.map nV) ∧ NA.right ⟨1, k, L.map nV⟩) := Lib.hid ⟨HA1.out.1.ext hxU, HA1.out.2⟩
          replace HB1 : Hid (ArrIn U E k c8 (M.map nV) ∧ NA.right ⟨1, k, M.map nV⟩) := Lib.hid ⟨HB1.out.1.ext hxU, HB1.out.2⟩
          replace HTW := Lib.hid (HTW.out.ext hxU)
          replace HFW := Lib.hid (HFW.out.ext hxU)
          replace HXW := Lib.hid (HXW.out.trans hxU)
          clear hU hxU
          generalize wr.heap.size + (osr.size + osq.size) + 1 = p12 at *
          generalize wr.heap.size + (osr.size + osq.size) = p11 at *
          refine wp_floatG [(3, 0), (6, 4), (7, 4), (4, 4), (0, 1), (1, 1), (2, 1), (4, 3), (5, 1), (7, 3), (6, 3), (8, 5)] [9] [9] [] (by kernel_rfl) (by kernel_rfl) (by kernel_rfl) (fun _ _ d _ _ h => by cases d <;> exact h) (fun _ _ d _ _ h => by cases d <;> exact h) ?_
          (refine wpFg_read (v := ?_) rfl ?_ (fun w1 h1 => ?_) ?_; rotate_left 1; rfl; (obtain ⟨os1, d1, rfl⟩ := h1.more; go_simp; first | done | rfl))
          try simp only [Act.put, zqA, zqB, zqC]
          (refine wpFg_launch (t := 13) (.cells #[.int .i64 0, .int .i64 0, .slice none 0 0] 33) ptrB rfl rfl rfl (fun w1 => ?_) ?_; (first | rfl | (simp [go_sem, ptrB]; done) | (go_simp; rfl)))
          (refine wpFg_launch (t := 14) (Obj.cells #[.int .i64 0, .int .i64 0, .int .i64 0, .string ⟨#[]⟩, .bool false, .int .i64 0] 30) ptrB rfl rfl rfl (fun w1 => ?_) ?_; (first | rfl | (simp [go_sem, ptrB]; done) | (go_simp; rfl)))
          (refine wpFg_launch (t := 77) ?_ (fun b => .slice (some ⟨b, 0, none⟩) 1 1) rfl rfl rfl (fun w1 => ?_) ?_; rotate_left 1; (go_simp; first | done | rfl))
          (refine wpFg_eff rfl ?_ (fun wf hXf hE K hK => ?_); rfl; obtain ⟨osf, df, rfl⟩ := hXf.more; go_simp; refine (knumber_any 1 _).mono ?_; rintro e w' ⟨rfl, hb⟩; refine hK _ _ (fun _ => True) (by (try simp only [more_drew, more_more, Array.append_assoc]); exact hb) (fun _ _ _ _ => trivial) trivial ?_)
          try simp only [Act.put, zqA, zqB, zqC]
          (refine wpFg_eff rfl ?_ (fun wf hXf hE K hK => ?_); rfl; obtain ⟨osf, df, rfl⟩ := hXf.more; go_simp; generalize hq1 : U.heap.size + osf.size = q1; refine hK _ _ (fun W => W.heap[q1]? = some (kvB (nV (1, 0)))) (by (try simp only [drew_more]); exact (Ext.refl _).alloc _) (fun w1 w2 hx h => (hx.block (lt_of_block h)).trans h) (knew_row (by rw [← hq1]; simp)) ?_)
          try simp only [Act.put, zqA, zqB, zqC]
          (refine wpFg_eff rfl ?_ (fun wf hXf hE K hK => ?_); rfl; obtain ⟨osf, df, rfl⟩ := hXf.more; go_simp; refine (krow_any _ _ _ _ (by decide)).mono ?_; rintro e w' ⟨rfl, hb⟩; refine hK _ _ (fun W => W.heap[q1]? = some (kvB (nV (1, 0)))) (by (try simp only [more_drew, more_more, Array.append_assoc]); exact hb) (fun w1 w2 hx h => (hx.block (lt_of_block h)).trans h) ((Ext.block (by (try simp only [more_drew, more_more, Array.append_assoc]); exact hb) (lt_of_block hE)).trans hE) ?_)
          try simp only [Act.put, zqA, zqB, zqC]
          refine wpFg_wait fun q2 _ _ _ => ?_; refine ⟨fun W => W.heap[q1]? = some (kvB (nV (1, 0))) ∧ ArgsIn W (some ⟨q2, 0, none⟩) 1 1 [kAr (L.map nV) D k c9], fun w1 w2 hx h => ⟨(hx.block (lt_of_block h.1)).trans h.1, h.2.ext hx⟩, fun W hXW hE hw => ⟨hE, kargs_block (n := 1) [kAr (L.map nV) D k c9] hw rfl rfl (by decide) (by intro a ha; simp only [List.mem_cons, List.not_mem_nil, or_false] at ha; rcases ha with rfl; exact ⟨HA1.out.1.ext ((Ext.refl _).drew.trans hXW), HA1.out.2⟩)⟩, ?_⟩
          try simp only [Act.put, zqA, zqB, zqC]
          (refine wpFg_eff rfl ?_ (fun wf hXf hE K hK => ?_); rfl; obtain ⟨osf, df, rfl⟩ := hXf.more; go_simp; refine (kone_in (F := fun xs => countedO isNum (allV xs)) hE.2 (by decide) (by decide) HS1.out.1 (fun W hW g => mcall_count _ _ _ _ _ ((HTW.out.ext (by with_reducible repeat (first | exact Ext.refl _ | apply Ext.drew | apply Ext.alloc | apply Ext.more_))).ext hW) g)).mono ?_; rintro e w' ⟨rfl, hb⟩; refine hK _ _ (fun W => W.heap[q1]? = some (kvB (nV (1, 0)))) (by (try simp only [more_drew, more_more, Array.append_assoc]); exact hb) (fun w1 w2 hx h => (hx.block (lt_of_block h)).trans h) ((Ext.block (by (try simp only [more_drew, more_more, Array.append_assoc]); exact hb) (lt_of_block hE.1)).trans hE.1) ?_)
          try simp only [Act.put, zqA, zqB, zqC]
          refine wpFg_wait fun r2 g2 n2 _ => ?_; refine ⟨fun W => W.heap[q1]? = some (kvB (nV (1, 0))) ∧ q1 ≠ r2 ∧ W.heap[r2]? = some (Obj.cells #[.int .i64 0, .int .i64 0, .int .i64 0, .string ⟨#[]⟩, .bool false, .int .i64 0] 30), fun w1 w2 hx h => ⟨(hx.block (lt_of_block h.1)).trans h.1, h.2.1, (hx.block (lt_of_block h.2.2)).trans h.2.2⟩, fun W _ hE h1 => ⟨hE, fun e => by (have h8 : W.heap[r2]? = some (Obj.cells #[.int .i64 0, .int .i64 0, .int .i64 0, .string ⟨#[]⟩, .bool false, .int .i64 0] 30) := h1); (rw [e, h8] at hE); simp [nV] at hE, h1⟩, ?_⟩
          try simp only [Act.put, zqA, zqB, zqC]
          refine wpFg_wait fun r1 g1 n1 _ => ?_; refine ⟨fun W => W.heap[q1]? = some (kvB (nV (1, 0))) ∧ q1 ≠ r2 ∧ W.heap[r2]? = some (Obj.cells #[.int .i64 0, .int .i64 0, .int .i64 0, .string ⟨#[]⟩, .bool false, .int .i64 0] 30) ∧ q1 ≠ r1 ∧ W.heap[r1]? = some (.cells #[.int .i64 0, .int .i64 0, .slice none 0 0] 33), fun w1 w2 hx h => ⟨(hx.block (lt_of_block h.1)).trans h.1, h.2.1, (hx.block (lt_of_block h.2.2.1)).trans h.2.2.1, h.2.2.2.1, (hx.block (lt_of_block h.2.2.2.2)).trans h.2.2.2.2⟩, fun W _ hE h1 => ⟨hE.1, hE.2.1, hE.2.2, fun e => by (have h8 : W.heap[r1]? = some (.cells #[.int .i64 0, .int .i64 0, .slice none 0 0] 33) := h1); (have h9 := hE.1); (rw [e, h8] at h9); simp [nV] at h9, h1⟩, ?_⟩
          try simp only [Act.put, zqA, zqB, zqC]
          (refine wpFg_store rfl ?_ (fun wf hXf hE K hK => ?_); rfl; obtain ⟨e0, m2, e2, m1, e1⟩ := hE; (have u0 := cell_of_row _ _ 0 _ _ _ e1); (have u1 := cell_of_row _ _ 1 _ _ _ e1); (have u2 := cell_of_row _ _ 2 _ _ _ e1); (have v0 := frozen_of_row _ _ 0 _ _ e1); (have v1 := frozen_of_row _ _ 1 _ _ e1); (have v2 := frozen_of_row _ _ 2 _ _ e1); (try simp only [ptrB]); go_simp; refine hK _ _ (fun W => W.heap[q1]? = some (kvB (nV (1, 0))) ∧ q1 ≠ r2 ∧ W.heap[r2]? = some (Obj.cells #[.int .i64 0, .int .i64 0, .int .i64 0, .string ⟨#[]⟩, .bool false, .int .i64 0] 30) ∧ W.heap[r1]? = some (.cells #[.int .i64 1, .int .i64 1, .slice (some ⟨q1, 0, none⟩) 1 1] 33)) (set3k_ext hXf g1) (by simp) (fun w1 w2 hx h => ⟨(hx.block (lt_of_block h.1)).trans h.1, h.2.1, (hx.block (lt_of_block h.2.2.1)).trans h.2.2.1, (hx.block (lt_of_block h.2.2.2)).trans h.2.2.2⟩) ⟨(set3k_other m1).trans e0, m2, (set3k_other (fun e => n1 (by simp [e]))).trans e2, set3k_heap e1⟩ ?_)
          try simp only [Act.put, zqA, zqB, zqC]
          refine wpFg_done fun wz hXz hE => ?_
          obtain ⟨e0, m2, e2, e1⟩ := hE; (have u0 := cell_of_row _ _ 0 _ _ _ e2); (have u1 := cell_of_row _ _ 1 _ _ _ e2); (have u2 := cell_of_row _ _ 2 _ _ _ e2); (have u3 := cell_of_row _ _ 3 _ _ _ e2); (have u4 := cell_of_row _ _ 4 _ _ _ e2); (have u5 := cell_of_row _ _ 5 _ _ _ e2); (have v0 := frozen_of_row _ _ 0 _ _ e2); (have v1 := frozen_of_row _ _ 1 _ _ e2); (have v2 := frozen_of_row _ _ 2 _ _ e2); (have v3 := frozen_of_row _ _ 3 _ _ e2); (have v4 := frozen_of_row _ _ 4 _ _ e2); (have v5 := frozen_of_row _ _ 5 _ _ e2); (have f2 := kset_heap (x := nV cn) e2); (have f1 := (kset_other (x := nV cn) (fun e => n1 (by simp [e]) : r1 ≠ r2)).trans e1); (have f0 := (kset_other (x := nV cn) m2).trans e0); (have f4 : Ext U _ := Ext.trans (by with_reducible repeat (first | exact Ext.refl _ | apply Ext.drew | apply Ext.alloc | apply Ext.more_) : Ext U U.drew) (kset_ext (x := nV cn) hXz g2)); (try simp only [ptrB])
          (refine wpTl_op rfl ?_ (fun K hK => ?_); rfl; go_simp; refine hK _ _ ?_)
          try simp only [Act.put, zqA, zqB, zqC]
          refine wpTl_nil ?_
          go_upto_region 15 with fail
          refine wp_world fun Z hZ => ?_
          have hxZ : Ext U Z := by rw [hZ]; exact f4
          have F0 : Z.heap[q1]? = some (kvB (nV (1, 0))) := by rw [hZ]; exact f0
          have F1 : Z.heap[r1]? = some (.cells #[.int .i64 1, .int .i64 1, .slice (some ⟨q1, 0, none⟩) 1 1] 33) := by rw [hZ]; exact f1
          have F2 : Z.heap[r2]? = some (kvB (nV cn)) := by rw [hZ]; exact f2
          have c0 := cell_of_row _ _ 0 _ _ _ F1
          have c1 := cell_of_row _ _ 1 _ _ _ F1
          have c2 := cell_of_row _ _ 2 _ _ _ F1
          obtain ⟨d0, d1, d2, d3, d4, d5⟩ := kvB_at F2
          have HFI : Hid (ArrIn Z (some ⟨q1, 0, none⟩) 1 1 [nV (1, 0)]) := Lib.hid (karr1 (kvB_at F0) hr1.ok)
          replace a0 := hxZ.cell_some a0
          replace a1 := hxZ.cell_some a1
          replace a2 := hxZ.cell_some a2
          replace b0 := hxZ.cell_some b0
          replace b1 := hxZ.cell_some b1
          replace b2 := hxZ.cell_some b2
          replace la := lt_of_cell a0
          replace lb := lt_of_cell b0
          have lc := lt_of_cell c0
          have ld := lt_of_cell d0
          replace HA1 : Hid (ArrIn Z D k c9 (L.map nV) ∧ NA.right ⟨1, k, L.map nV⟩) := Lib.hid ⟨HA1.out.1.ext hxZ, HA1.out.2⟩
          replace HB1 : Hid (ArrIn Z E k c8 (M.map nV) ∧ NA.right ⟨1, k, M.map nV⟩) := Lib.hid ⟨HB1.out.1.ext hxZ, HB1.out.2⟩
          replace HTW := Lib.hid (HTW.out.ext hxZ)
          replace HFW := Lib.hid (HFW.out.ext hxZ)
          replace HXW := Lib.hid (HXW.out.trans hxZ)
          clear hZ f0 f1 f2 f4 F0 F1 F2 e0 e1 e2 m2 hxZ u0 u1 u2 u3 u4 u5 v0 v1 v2 v3 v4 v5
          refine wp_floatG [(0, 0), (3, 0), (6, 4), (7, 4), (4, 4), (1, 4), (1, 3), (2, 1), (4, 3), (5, 1), (7, 3), (6, 3), (8, 5)] [9] [9] [] (by kernel_rfl) (by kernel_rfl) (by kernel_rfl) (fun _ _ d _ _ h => by cases d <;> exact h) (fun _ _ d _ _ h => by cases d <;> exact h) ?_
          iterate 2 ((refine wpFg_read (v := ?_) rfl ?_ (fun w1 h1 => ?_) ?_; rotate_left 1; rfl; (obtain ⟨os1, d1, rfl⟩ := h1.more; go_simp; first | done | rfl)); try simp only [Act.put, zqA, zqB, zqC])
          (refine wpFg_launch (t := 15) (Obj.cells #[.int .i64 0, .int .i64 0, .int .i64 0, .string ⟨#[]⟩, .bool false, .int .i64 0] 30) ptrB rfl rfl rfl (fun w1 => ?_) ?_; (first | rfl | (simp [go_sem, ptrB]; done) | (go_simp; rfl)))
          (refine wpFg_launch (t := 16) (Obj.cells #[.int .i64 0, .int .i64 0, .int .i64 0, .string ⟨#[]⟩, .bool false, .int .i64 0] 30) ptrB rfl rfl rfl (fun w1 => ?_) ?_; (first | rfl | (simp [go_sem, ptrB]; done) | (go_simp; rfl)))
          (refine wpFg_launch (t := 83) ?_ (fun b => .slice (some ⟨b, 0, none⟩) 1 1) rfl rfl rfl (fun w1 => ?_) ?_; rotate_left 1; (go_simp; first | done | rfl))
          (refine wpFg_launch (t := 80) ?_ (fun b => .slice (some ⟨b, 0, none⟩) 1 1) rfl rfl rfl (fun w1 => ?_) ?_; rotate_left 1; (go_simp; first | done | rfl))
          refine wpFg_wait fun q41 _ _ _ => ?_; refine ⟨fun W => ArgsIn W (some ⟨q41, 0, none⟩) 1 1 [kAr (L.map nV) D k c9], fun _ _ hx h => h.ext hx, fun W hXW _ hw => kargs_block (n := 1) [kAr (L.map nV) D k c9] hw rfl rfl (by decide) (by (intro a ha; simp only [List.mem_cons, List.not_mem_nil, or_false] at ha; rcases ha with rfl; exact ⟨HA1.out.1.ext ((Ext.refl _).drew.trans hXW), HA1.out.2⟩)), ?_⟩
          try simp only [Act.put, zqA, zqB, zqC]
          (refine wpFg_eff rfl ?_ (fun wf hXf hE K hK => ?_); rfl; obtain ⟨osf, df, rfl⟩ := hXf.more; go_simp; refine (kone_in hE (by decide) (by decide) (by rw [HS1.out.2.1]) (fun W hW g => mcall_min _ _ _ _ _ ((HTW.out.ext (by with_reducible repeat (first | exact Ext.refl _ | apply Ext.drew | apply Ext.alloc | apply Ext.more_))).ext hW) g)).mono ?_; rintro e w' ⟨rfl, hb⟩; refine hK _ _ (fun _ => True) (by (try simp only [more_drew, more_more, Array.append_assoc]); exact hb) (fun _ _ _ _ => trivial) trivial ?_)
          try simp only [Act.put, zqA, zqB, zqC]
          refine wpFg_wait fun q42 _ _ _ => ?_; refine ⟨fun W => ArgsIn W (some ⟨q42, 0, none⟩) 1 1 [kAr (L.map nV) D k c9], fun _ _ hx h => h.ext hx, fun W hXW _ hw => kargs_block (n := 1) [kAr (L.map nV) D k c9] hw rfl rfl (by decide) (by (intro a ha; simp only [List.mem_cons, List.not_mem_nil, or_false] at ha; rcases ha with rfl; exact ⟨HA1.out.1.ext ((Ext.refl _).drew.trans hXW), HA1.out.2⟩)), ?_⟩
          try simp only [Act.put, zqA, zqB, zqC]
          (refine wpFg_eff rfl ?_ (fun wf hXf hE K hK => ?_); rfl; obtain ⟨osf, df, rfl⟩ := hXf.more; go_simp; refine (kone_in hE (by decide) (by decide) (by rw [HS1.out.2.2]) (fun W hW g => mcall_max _ _ _ _ _ ((HTW.out.ext (by with_reducible repeat (first | exact Ext.refl _ | apply Ext.drew | apply Ext.alloc | apply Ext.more_))).ext hW) g)).mono ?_; rintro e w' ⟨rfl, hb⟩; refine hK _ _ (fun _ => True) (by (try simp only [more_drew, more_more, Array.append_assoc]); exact hb) (fun _ _ _ _ => trivial) trivial ?_)
          try simp only [Act.put, zqA, zqB, zqC]
          refine wpFg_wait fun t2 g2 n2 _ => ?_; refine ⟨fun W => W.heap[t2]? = some (Obj.cells #[.int .i64 0, .int .i64 0, .int .i64 0, .string ⟨#[]⟩, .bool false, .int .i64 0] 30), fun w1 w2 hx h => (hx.block (lt_of_block h)).trans h, fun W _ hE h1 => h1, ?_⟩
          try simp only [Act.put, zqA, zqB, zqC]
          refine wpFg_wait fun t1 g1 n1 _ => ?_; refine ⟨fun W => W.heap[t2]? = some (Obj.cells #[.int .i64 0, .int .i64 0, .int .i64 0, .string ⟨#[]⟩, .bool false, .int .i64 0] 30) ∧ W.heap[t1]? = some (Obj.cells #[.int .i64 0, .int .i64 0, .int .i64 0, .string ⟨#[]⟩, .bool false, .int .i64 0] 30), fun w1 w2 hx h => ⟨(hx.block (lt_of_block h.1)).trans h.1, (hx.block (lt_of_block h.2)).trans h.2⟩, fun W _ hE h1 => ⟨hE, h1⟩, ?_⟩
          try simp only [Act.put, zqA, zqB, zqC]
          (refine wpFg_store rfl ?_ (fun wf hXf hE K hK => ?_); rfl; obtain ⟨e2, e1⟩ := hE; (have u0 := cell_of_row _ _ 0 _ _ _ e1); (have u1 := cell_of_row _ _ 1 _ _ _ e1); (have u2 := cell_of_row _ _ 2 _ _ _ e1); (have u3 := cell_of_row _ _ 3 _ _ _ e1); (have u4 := cell_of_row _ _ 4 _ _ _ e1); (have u5 := cell_of_row _ _ 5 _ _ _ e1); (have v0 := frozen_of_row _ _ 0 _ _ e1); (have v1 := frozen_of_row _ _ 1 _ _ e1); (have v2 := frozen_of_row _ _ 2 _ _ e1); (have v3 := frozen_of_row _ _ 3 _ _ e1); (have v4 := frozen_of_row _ _ 4 _ _ e1); (have v5 := frozen_of_row _ _ 5 _ _ e1); (try simp only [ptrB]); go_simp; refine hK _ _ (fun W => W.heap[t2]? = some (Obj.cells #[.int .i64 0, .int .i64 0, .int .i64 0, .string ⟨#[]⟩, .bool false, .int .i64 0] 30) ∧ W.heap[t1]? = some (kvB (nV lo))) (kset_ext (x := nV lo) hXf g1) (by simp) (fun w1 w2 hx h => ⟨(hx.block (lt_of_block h.1)).trans h.1, (hx.block (lt_of_block h.2)).trans h.2⟩) ⟨(kset_other (x := nV lo) (fun e => n1 (by simp [e]))).trans e2, kset_heap (x := nV lo) e1⟩ ?_)
          try simp only [Act.put, zqA, zqB, zqC]
          refine wpFg_done fun wz hXz hE => ?_
          obtain ⟨e2, e1⟩ := hE; (have u0 := cell_of_row _ _ 0 _ _ _ e2); (have u1 := cell_of_row _ _ 1 _ _ _ e2); (have u2 := cell_of_row _ _ 2 _ _ _ e2); (have u3 := cell_of_row _ _ 3 _ _ _ e2); (have u4 := cell_of_row _ _ 4 _ _ _ e2); (have u5 := cell_of_row _ _ 5 _ _ _ e2); (have v0 := frozen_of_row _ _ 0 _ _ e2); (have v1 := frozen_of_row _ _ 1 _ _ e2); (have v2 := frozen_of_row _ _ 2 _ _ e2); (have v3 := frozen_of_row _ _ 3 _ _ e2); (have v4 := frozen_of_row _ _ 4 _ _ e2); (have v5 := frozen_of_row _ _ 5 _ _ e2); (have f2 := kset_heap (x := nV hi) e2); (have f1 := (kset_other (x := nV hi) (fun e => n1 (by simp [e]) : t1 ≠ t2)).trans e1); (have f4 : Ext Z _ := Ext.trans (by with_reducible repeat (first | exact Ext.refl _ | apply Ext.drew | apply Ext.alloc | apply Ext.more_) : Ext Z Z.drew) (kset_ext (x := nV hi) hXz g2)); (try simp only [ptrB])
          (refine wpTl_op rfl ?_ (fun K hK => ?_); rfl; go_simp; refine hK _ _ ?_)
          try simp only [Act.put, zqA, zqB, zqC]
          refine wpTl_nil ?_
          go_upto_region 16 with fail
          refine wp_world fun Y hY => ?_
          have hxY : Ext Z Y := by rw [hY]; exact f4
          have F1 : Y.heap[t1]? = some (kvB (nV lo)) := by rw [hY]; exact f1
          have F2 : Y.heap[t2]? = some (kvB (nV hi)) := by rw [hY]; exact f2
          obtain ⟨x0, x1, x2, x3, x4, x5⟩ := kvB_at F1
          obtain ⟨y0, y1, y2, y3, y4, y5⟩ := kvB_at F2
          replace a0 := hxY.cell_some a0
          replace a1 := hxY.cell_some a1
          replace a2 := hxY.cell_some a2
          replace b0 := hxY.cell_some b0
          replace b1 := hxY.cell_some b1
          replace b2 := hxY.cell_some b2
          replace c0 := hxY.cell_some c0
          replace c1 := hxY.cell_some c1
          replace c2 := hxY.cell_some c2
          replace d0 := hxY.cell_some d0
          replace d1 := hxY.cell_some d1
          replace d2 := hxY.cell_some d2
          replace d3 := hxY.cell_some d3
          replace d4 := hxY.cell_some d4
          replace d5 := hxY.cell_some d5
          replace la := lt_of_cell a0
          replace lb := lt_of_cell b0
          replace lc := lt_of_cell c0
          replace ld := lt_of_cell d0
          have lx := lt_of_cell x0
          have ly := lt_of_cell y0
          replace HA1 : Hid (ArrIn Y D k c9 (L.map nV) ∧ NA.right ⟨1, k, L.map nV⟩) := Lib.hid ⟨HA1.out.1.ext hxY, HA1.out.2⟩
          replace HB1 : Hid (ArrIn Y E k c8 (M.map nV) ∧ NA.right ⟨1, k, M.map nV⟩) := Lib.hid ⟨HB1.out.1.ext hxY, HB1.out.2⟩
          replace HFI := Lib.hid (HFI.out.ext hxY)
          replace HTW := Lib.hid (HTW.out.ext hxY)
          replace HXW := Lib.hid (HXW.out.trans hxY)
          clear hY f1 f2 f4 F1 F2 e1 e2 hxY u0 u1 u2 u3 u4 u5 v0 v1 v2 v3 v4 v5
          refine wp_floatG [(0, 0), (1, 0), (2, 0), (3, 1), (4, 1), (5, 0), (6, 0), (7, 0), (8, 0), (9, 0), (10, 1), (11, 1), (12, 0), (13, 0), (14, 0), (15, 0), (16, 0), (17, 0), (18, 1), (19, 1), (20, 1), (21, 1), (22, 0), (23, 0), (24, 0), (25, 0), (26, 0), (27, 0), (28, 1), (29, 1), (30, 1), (31, 1), (32, 0), (33, 0)] [] [] [] (by kernel_rfl) (by kernel_rfl) (by kernel_rfl) (fun _ _ d _ _ h => by cases d <;> exact h) (fun _ _ d _ _ h => by cases d <;> exact h) ?_
          iterate 3 ((refine wpFg_read (v := ?_) rfl ?_ (fun w1 h1 => ?_) ?_; rotate_left 1; rfl; (obtain ⟨os1, d1, rfl⟩ := h1.more; go_simp; first | done | rfl)); try simp only [Act.put, zqA, zqB, zqC])
          (refine wpFg_eff rfl ?_ (fun wf hXf hE K hK => ?_); rfl; obtain ⟨osf, df, rfl⟩ := hXf.more; go_simp; generalize hq51 : Y.heap.size + osf.size = q51; refine hK _ _ (fun W => ArgsIn W (some ⟨q51, 0, none⟩) 2 2 [kAr (M.map nV) E k c8, kOne (nV (1, 0)) q1]) (by (try simp only [drew_more]); exact (Ext.refl _).alloc _) (fun _ _ hx h => h.ext hx) (kargs_new (n := 2) [kAr (M.map nV) E k c8, kOne (nV (1, 0)) q1] (by rw [← hq51]; simp) rfl rfl (by decide) (by (intro a ha; simp only [List.mem_cons, List.not_mem_nil, or_false] at ha; rcases ha with rfl | rfl; exact ⟨HB1.out.1.ext (by with_reducible repeat (first | exact Ext.refl _ | apply Ext.drew | apply Ext.alloc | apply Ext.more_)), HB1.out.2⟩; exact kOne_ok (HFI.out.ext (by with_reducible repeat (first | exact Ext.refl _ | apply Ext.drew | apply Ext.alloc | apply Ext.more_))) hr1))) ?_)
          try simp only [Act.put, zqA, zqB, zqC]
          (refine wpFg_eff rfl ?_ (fun wf hXf hE K hK => ?_); rfl; obtain ⟨osf, df, rfl⟩ := hXf.more; go_simp; refine (kone_in hE (by decide) (by decide) (by rw [HS2.out.1]) (fun W hW g => mcall_small _ _ _ _ _ g)).mono ?_; rintro e w' ⟨rfl, hb⟩; refine hK _ _ (fun _ => True) (by (try simp only [more_drew, more_more, Array.append_assoc]); exact hb) (fun _ _ _ _ => trivial) trivial ?_)
          try simp only [Act.put, zqA, zqB, zqC]
          iterate 5 ((refine wpFg_read (v := ?_) rfl ?_ (fun w1 h1 => ?_) ?_; rotate_left 1; rfl; (obtain ⟨os1, d1, rfl⟩ := h1.more; go_simp; first | done | rfl)); try simp only [Act.put, zqA, zqB, zqC])
          (refine wpFg_eff rfl ?_ (fun wf hXf hE K hK => ?_); rfl; obtain ⟨osf, df, rfl⟩ := hXf.more; go_simp; generalize hq52 : Y.heap.size + osf.size = q52; refine hK _ _ (fun W => ArgsIn W (some ⟨q52, 0, none⟩) 2 2 [kAr (M.map nV) E k c8, kOne (nV (1, 0)) q1]) (by (try simp only [drew_more]); exact (Ext.refl _).alloc _) (fun _ _ hx h => h.ext hx) (kargs_new (n := 2) [kAr (M.map nV) E k c8, kOne (nV (1, 0)) q1] (by rw [← hq52]; simp) rfl rfl (by decide) (by (intro a ha; simp only [List.mem_cons, List.not_mem_nil, or_false] at ha; rcases ha with rfl | rfl; exact ⟨HB1.out.1.ext (by with_reducible repeat (first | exact Ext.refl _ | apply Ext.drew | apply Ext.alloc | apply Ext.more_)), HB1.out.2⟩; exact kOne_ok (HFI.out.ext (by with_reducible repeat (first | exact Ext.refl _ | apply Ext.drew | apply Ext.alloc | apply Ext.more_))) hr1))) ?_)
          try simp only [Act.put, zqA, zqB, zqC]
          (refine wpFg_eff rfl ?_ (fun wf hXf hE K hK => ?_); rfl; obtain ⟨osf, df, rfl⟩ := hXf.more; go_simp; refine (kone_in hE (by decide) (by decide) (by rw [HS2.out.2.1]) (fun W hW g => mcall_large _ _ _ _ _ g)).mono ?_; rintro e w' ⟨rfl, hb⟩; refine hK _ _ (fun _ => True) (by (try simp only [more_drew, more_more, Array.append_assoc]); exact hb) (fun _ _ _ _ => trivial) trivial ?_)
          try simp only [Act.put, zqA, zqB, zqC]
          iterate 6 ((refine wpFg_read (v := ?_) rfl ?_ (fun w1 h1 => ?_) ?_; rotate_left 1; rfl; (obtain ⟨os1, d1, rfl⟩ := h1.more; go_simp; first | done | rfl)); try simp only [Act.put, zqA, zqB, zqC])
          (refine wpFg_eff rfl ?_ (fun wf hXf hE K hK => ?_); rfl; obtain ⟨osf, df, rfl⟩ := hXf.more; go_simp; generalize hq53 : Y.heap.size + osf.size = q53; refine hK _ _ (fun W => ArrIn W (some ⟨q53, 0, none⟩) 1 1 [nV cn]) (by (try simp only [drew_more]); exact (Ext.refl _).alloc _) (fun _ _ hx h => h.ext hx) (karr_new [nV cn] (by rw [← hq53]; simp) rfl rfl (by decide) (by simpa using hrc.ok)) ?_)
          try simp only [Act.put, zqA, zqB, zqC]
          (refine wpFg_eff rfl ?_ (fun wf hXf hE K hK => ?_); rfl; obtain ⟨osf, df, rfl⟩ := hXf.more; go_simp; refine (krow_any _ _ _ _ (by decide)).mono ?_; rintro e w' ⟨rfl, hb⟩; refine hK _ _ (fun W => ArrIn W (some ⟨q53, 0, none⟩) 1 1 [nV cn]) (by (try simp only [more_drew, more_more, Array.append_assoc]); exact hb) (fun _ _ hx h => h.ext hx) (hE.ext (by (try simp only [more_drew, more_more, Array.append_assoc]); exact hb)) ?_)
          try simp only [Act.put, zqA, zqB, zqC]
          (refine wpFg_eff rfl ?_ (fun wf hXf hE K hK => ?_); rfl; obtain ⟨osf, df, rfl⟩ := hXf.more; go_simp; generalize hq54 : Y.heap.size + osf.size = q54; refine hK _ _ (fun W => ArgsIn W (some ⟨q54, 0, none⟩) 2 2 [kAr (M.map nV) E k c8, kOne (nV cn) q53]) (by (try simp only [drew_more]); exact (Ext.refl _).alloc _) (fun _ _ hx h => h.ext hx) (kargs_new (n := 2) [kAr (M.map nV) E k c8, kOne (nV cn) q53] (by rw [← hq54]; simp) rfl rfl (by decide) (by (intro a ha; simp only [List.mem_cons, List.not_mem_nil, or_false] at ha; rcases ha with rfl | rfl; exact ⟨HB1.out.1.ext (by with_reducible repeat (first | exact Ext.refl _ | apply Ext.drew | apply Ext.alloc | apply Ext.more_)), HB1.out.2⟩; exact kOne_ok hE hrc))) ?_)
          try simp only [Act.put, zqA, zqB, zqC]
          (refine wpFg_eff rfl ?_ (fun wf hXf hE K hK => ?_); rfl; obtain ⟨osf, df, rfl⟩ := hXf.more; go_simp; refine (kone_in hE (by decide) (by decide) (by rw [HS2.out.2.2.1]) (fun W hW g => mcall_large _ _ _ _ _ g)).mono ?_; rintro e w' ⟨rfl, hb⟩; refine hK _ _ (fun _ => True) (by (try simp only [more_drew, more_more, Array.append_assoc]); exact hb) (fun _ _ _ _ => trivial) trivial ?_)
          try simp only [Act.put, zqA, zqB, zqC]
          iterate 6 ((refine wpFg_read (v := ?_) rfl ?_ (fun w1 h1 => ?_) ?_; rotate_left 1; rfl; (obtain ⟨os1, d1, rfl⟩ := h1.more; go_simp; first | done | rfl)); try simp only [Act.put, zqA, zqB, zqC])
          (refine wpFg_eff rfl ?_ (fun wf hXf hE K hK => ?_); rfl; obtain ⟨osf, df, rfl⟩ := hXf.more; go_simp; generalize hq55 : Y.heap.size + osf.size = q55; refine hK _ _ (fun W => ArrIn W (some ⟨q55, 0, none⟩) 1 1 [nV cn]) (by (try simp only [drew_more]); exact (Ext.refl _).alloc _) (fun _ _ hx h => h.ext hx) (karr_new [nV cn] (by rw [← hq55]; simp) rfl rfl (by decide) (by simpa using hrc.ok)) ?_)
          try simp only [Act.put, zqA, zqB, zqC]
          (refine wpFg_eff rfl ?_ (fun wf hXf hE K hK => ?_); rfl; obtain ⟨osf, df, rfl⟩ := hXf.more; go_simp; refine (krow_any _ _ _ _ (by decide)).mono ?_; rintro e w' ⟨rfl, hb⟩; refine hK _ _ (fun W => ArrIn W (some ⟨q55, 0, none⟩) 1 1 [nV cn]) (by (try simp only [more_drew, more_more, Array.append_assoc]); exact hb) (fun _ _ hx h => h.ext hx) (hE.ext (by (try simp only [more_drew, more_more, Array.append_assoc]); exact hb)) ?_)
          try simp only [Act.put, zqA, zqB, zqC]
          (refine wpFg_eff rfl ?_ (fun wf hXf hE K hK => ?_); rfl; obtain ⟨osf, df, rfl⟩ := hXf.more; go_simp; generalize hq56 : Y.heap.size + osf.size = q56; refine hK _ _ (fun W => ArgsIn W (some ⟨q56, 0, none⟩) 2 2 [kAr (M.map nV) E k c8, kOne (nV cn) q55]) (by (try simp only [drew_more]); exact (Ext.refl _).alloc _) (fun _ _ hx h => h.ext hx) (kargs_new (n := 2) [kAr (M.map nV) E k c8, kOne (nV cn) q55] (by rw [← hq56]; simp) rfl rfl (by decide) (by (intro a ha; simp only [List.mem_cons, List.not_mem_nil, or_false] at ha; rcases ha with rfl | rfl; exact ⟨HB1.out.1.ext (by with_reducible repeat (first | exact Ext.refl _ | apply Ext.drew | apply Ext.alloc | apply Ext.more_)), HB1.out.2⟩; exact kOne_ok hE hrc))) ?_)
          try simp only [Act.put, zqA, zqB, zqC]
          (refine wpFg_eff rfl ?_ (fun wf hXf hE K hK => ?_); rfl; obtain ⟨osf, df, rfl⟩ := hXf.more; go_simp; refine (kone_in hE (by decide) (by decide) (by rw [HS2.out.2.2.2]) (fun W hW g => mcall_small _ _ _ _ _ g)).mono ?_; rintro e w' ⟨rfl, hb⟩; refine hK _ _ (fun _ => True) (by (try simp only [more_drew, more_more, Array.append_assoc]); exact hb) (fun _ _ _ _ => trivial) trivial ?_)
          try simp only [Act.put, zqA, zqB, zqC]
          iterate 2 ((refine wpFg_read (v := ?_) rfl ?_ (fun w1 h1 => ?_) ?_; rotate_left 1; rfl; (obtain ⟨os1, d1, rfl⟩ := h1.more; go_simp; first | done | rfl)); try simp only [Act.put, zqA, zqB, zqC])
          (refine wpFg_done fun wz hXz hE => ?_; obtain ⟨osz, dz, rfl⟩ := hXz.more)
          refine wpTl_nil ?_
          go_upto_region 18 with fail
          refine wp_world fun X hX => ?_
          have hxX : Ext Y X := by rw [hX]; exact (by repeat (first | (with_reducible (first | exact Ext.refl _ | exact ext_d _ _ _ _ | exact ext_app _ _ _ _ _ | exact ext_app2 _ _ _ _ _ _)) | ((with_reducible refine ext_suffix ⟨_, ?_⟩); (try simp only [Array.append_assoc]); rfl) | (with_reducible (first | apply Ext.drew | apply Ext.alloc | apply Ext.more_))))
          clear hX
          replace a0 := hxX.cell_some a0
          replace a1 := hxX.cell_some a1
          replace a2 := hxX.cell_some a2
          replace b0 := hxX.cell_some b0
          replace b1 := hxX.cell_some b1
          replace b2 := hxX.cell_some b2
          replace x0 := hxX.cell_some x0
          replace x1 := hxX.cell_some x1
          replace x2 := hxX.cell_some x2
          replace x3 := hxX.cell_some x3
          replace x4 := hxX.cell_some x4
          replace x5 := hxX.cell_some x5
          replace y0 := hxX.cell_some y0
          replace y1 := hxX.cell_some y1
          replace y2 := hxX.cell_some y2
          replace y3 := hxX.cell_some y3
          replace y4 := hxX.cell_some y4
          replace y5 := hxX.cell_some y5
          replace la := lt_of_cell a0
          replace lb := lt_of_cell b0
          replace lx := lt_of_cell x0
          replace ly := lt_of_cell y0
          clear c0 c1 c2 d0 d1 d2 d3 d4 d5 lc ld HFI HS1 HS2
          replace HA1 : Hid (ArrIn X D k c9 (L.map nV) ∧ NA.right ⟨1, k, L.map nV⟩) := Lib.hid ⟨HA1.out.1.ext hxX, HA1.out.2⟩
          replace HB1 : Hid (ArrIn X E k c8 (M.map nV) ∧ NA.right ⟨1, k, M.map nV⟩) := Lib.hid ⟨HB1.out.1.ext hxX, HB1.out.2⟩
          replace HTW := Lib.hid (HTW.out.ext hxX)
          replace HXW := Lib.hid (HXW.out.trans hxX)
          clear hxX
          refine wp_floatG [(0, 0), (3, 0), (4, 4), (1, 4), (1, 3), (2, 1), (4, 3), (5, 1), (6, 0), (7, 0), (8, 0), (9, 0), (10, 1), (11, 1), (12, 0), (13, 0), (14, 0), (15, 0), (16, 0), (17, 1), (18, 1), (19, 0), (20, 0), (21, 0), (22, 0), (23, 0), (24, 0), (25, 0), (26, 0)] [] [] [] (by kernel_rfl) (by kernel_rfl) (by kernel_rfl) (fun _ _ d _ _ h => by cases d <;> exact h) (fun _ _ d _ _ h => by cases d <;> exact h) ?_
          iterate 2 ((refine wpFg_read (v := ?_) rfl ?_ (fun w1 h1 => ?_) ?_; rotate_left 1; rfl; (obtain ⟨os1, d1, rfl⟩ := h1.more; go_simp; first | done | rfl)); try simp only [Act.put, zqA, zqB, zqC])
          (refine wpFg_launch (t := 123) ?_ (fun b => .slice (some ⟨b, 0, none⟩) 1 1) rfl rfl rfl (fun w1 => ?_) ?_; rotate_left 1; (go_simp; first | done | rfl))
          (refine wpFg_launch (t := 120) ?_ (fun b => .slice (some ⟨b, 0, none⟩) 1 1) rfl rfl rfl (fun w1 => ?_) ?_; rotate_left 1; (go_simp; first | done | rfl))
          refine wpFg_wait fun q61 _ _ _ => ?_; refine ⟨fun W => ArgsIn W (some ⟨q61, 0, none⟩) 1 1 [kAr (L.map nV) D k c9], fun _ _ hx h => h.ext hx, fun W hXW _ hw => kargs_block (n := 1) [kAr (L.map nV) D k c9] hw rfl rfl (by decide) (by (intro a ha; simp only [List.mem_cons, List.not_mem_nil, or_false] at ha; rcases ha with rfl; exact ⟨HA1.out.1.ext ((Ext.refl _).drew.trans hXW), HA1.out.2⟩)), ?_⟩
          try simp only [Act.put, zqA, zqB, zqC]
          (refine wpFg_eff rfl ?_ (fun wf hXf hE K hK => ?_); rfl; obtain ⟨osf, df, rfl⟩ := hXf.more; go_simp; refine (kone_in hE (by decide) (by decide) (by rw [HS3.out.1]) (fun W hW g => mcall_median _ _ _ _ _ ((HTW.out.ext (by with_reducible repeat (first | exact Ext.refl _ | apply Ext.drew | apply Ext.alloc | apply Ext.more_))).ext hW) g (by rw [arsOf_toG]; exact HSZ.out.1))).mono ?_; rintro e w' ⟨rfl, hb⟩; refine hK _ _ (fun _ => True) (by (try simp only [more_drew, more_more, Array.append_assoc]); exact hb) (fun _ _ _ _ => trivial) trivial ?_)
          try simp only [Act.put, zqA, zqB, zqC]
          refine wpFg_wait fun q62 _ _ _ => ?_; refine ⟨fun W => ArgsIn W (some ⟨q62, 0, none⟩) 1 1 [kAr (M.map nV) E k c8], fun _ _ hx h => h.ext hx, fun W hXW _ hw => kargs_block (n := 1) [kAr (M.map nV) E k c8] hw rfl rfl (by decide) (by (intro a ha; simp only [List.mem_cons, List.not_mem_nil, or_false] at ha; rcases ha with rfl; exact ⟨HB1.out.1.ext ((Ext.refl _).drew.trans hXW), HB1.out.2⟩)), ?_⟩
          try simp only [Act.put, zqA, zqB, zqC]
          (refine wpFg_eff rfl ?_ (fun wf hXf hE K hK => ?_); rfl; obtain ⟨osf, df, rfl⟩ := hXf.more; go_simp; refine (kone_in hE (by decide) (by decide) (by rw [HS3.out.2.1]) (fun W hW g => mcall_median _ _ _ _ _ ((HTW.out.ext (by with_reducible repeat (first | exact Ext.refl _ | apply Ext.drew | apply Ext.alloc | apply Ext.more_))).ext hW) g (by rw [arsOf_toG]; exact HSZ.out.2))).mono ?_; rintro e w' ⟨rfl, hb⟩; refine hK _ _ (fun _ => True) (by (try simp only [more_drew, more_more, Array.append_assoc]); exact hb) (fun _ _ _ _ => trivial) trivial ?_)
          try simp only [Act.put, zqA, zqB, zqC]
          iterate 4 ((refine wpFg_read (v := ?_) rfl ?_ (fun w1 h1 => ?_) ?_; rotate_left 1; rfl; (obtain ⟨os1, d1, rfl⟩ := h1.more; go_simp; first | done | rfl)); try simp only [Act.put, zqA, zqB, zqC])
          (refine wpFg_eff rfl ?_ (fun wf hXf hE K hK => ?_); rfl; obtain ⟨osf, df, rfl⟩ := hXf.more; go_simp; generalize hq63 : X.heap.size + osf.size = q63; refine hK _ _ (fun W => ArgsIn W (some ⟨q63, 0, none⟩) 1 1 [kAr (M.map nV) E k c8]) (by (try simp only [drew_more]); exact (Ext.refl _).alloc _) (fun _ _ hx h => h.ext hx) (kargs_new (n := 1) [kAr (M.map nV) E k c8] (by rw [← hq63]; simp) rfl rfl (by decide) (by (intro a ha; simp only [List.mem_cons, List.not_mem_nil, or_false] at ha; rcases ha with rfl; exact ⟨HB1.out.1.ext (by with_reducible repeat (first | exact Ext.refl _ | apply Ext.drew | apply Ext.alloc | apply Ext.more_)), HB1.out.2⟩))) ?_)
          try simp only [Act.put, zqA, zqB, zqC]
          (refine wpFg_eff rfl ?_ (fun wf hXf hE K hK => ?_); rfl; obtain ⟨osf, df, rfl⟩ := hXf.more; go_simp; refine (kone_in hE (by decide) (by decide) (by rw [HS3.out.2.2.1]) (fun W hW g => mcall_min _ _ _ _ _ ((HTW.out.ext (by with_reducible repeat (first | exact Ext.refl _ | apply Ext.drew | apply Ext.alloc | apply Ext.more_))).ext hW) g)).mono ?_; rintro e w' ⟨rfl, hb⟩; refine hK _ _ (fun _ => True) (by (try simp only [more_drew, more_more, Array.append_assoc]); exact hb) (fun _ _ _ _ => trivial) trivial ?_)
          try simp only [Act.put, zqA, zqB, zqC]
          iterate 5 ((refine wpFg_read (v := ?_) rfl ?_ (fun w1 h1 => ?_) ?_; rotate_left 1; rfl; (obtain ⟨os1, d1, rfl⟩ := h1.more; go_simp; first | done | rfl)); try simp only [Act.put, zqA, zqB, zqC])
          (refine wpFg_eff rfl ?_ (fun wf hXf hE K hK => ?_); rfl; obtain ⟨osf, df, rfl⟩ := hXf.more; go_simp; generalize hq64 : X.heap.size + osf.size = q64; refine hK _ _ (fun W => ArgsIn W (some ⟨q64, 0, none⟩) 1 1 [kAr (M.map nV) E k c8]) (by (try simp only [drew_more]); exact (Ext.refl _).alloc _) (fun _ _ hx h => h.ext hx) (kargs_new (n := 1) [kAr (M.map nV) E k c8] (by rw [← hq64]; simp) rfl rfl (by decide) (by (intro a ha; simp only [List.mem_cons, List.not_mem_nil, or_false] at ha; rcases ha with rfl; exact ⟨HB1.out.1.ext (by with_reducible repeat (first | exact Ext.refl _ | apply Ext.drew | apply Ext.alloc | apply Ext.more_)), HB1.out.2⟩))) ?_)
          try simp only [Act.put, zqA, zqB, zqC]
          (refine wpFg_eff rfl ?_ (fun wf hXf hE K hK => ?_); rfl; obtain ⟨osf, df, rfl⟩ := hXf.more; go_simp; refine (kone_in hE (by decide) (by decide) (by rw [HS3.out.2.2.2]) (fun W hW g => mcall_max _ _ _ _ _ ((HTW.out.ext (by with_reducible repeat (first | exact Ext.refl _ | apply Ext.drew | apply Ext.alloc | apply Ext.more_))).ext hW) g)).mono ?_; rintro e w' ⟨rfl, hb⟩; refine hK _ _ (fun _ => True) (by (try simp only [more_drew, more_more, Array.append_assoc]); exact hb) (fun _ _ _ _ => trivial) trivial ?_)
          try simp only [Act.put, zqA, zqB, zqC]
          iterate 8 ((refine wpFg_read (v := ?_) rfl ?_ (fun w1 h1 => ?_) ?_; rotate_left 1; rfl; (obtain ⟨os1, d1, rfl⟩ := h1.more; go_simp; first | done | rfl)); try simp only [Act.put, zqA, zqB, zqC])
          (refine wpFg_done fun wz hXz hE => ?_; obtain ⟨osz, dz, rfl⟩ := hXz.more)
          refine wpTl_nil ?_
          go_wp2_with fail
          go_ret
          exact ⟨rfl, HXW.out.trans (by repeat (first | (with_reducible (first | exact Ext.refl _ | exact ext_d _ _ _ _ | exact ext_app _ _ _ _ _ | exact ext_app2 _ _ _ _ _ _)) | ((with_reducible refine ext_suffix ⟨_, ?_⟩); (try simp only [Array.append_assoc]); rfl) | (with_reducible (first | apply Ext.drew | apply Ext.alloc | apply Ext.more_))))⟩
theorem fmathOrder_int (A : Option Addr) (n cap : Nat) (l : List Int) (b : Int) (w : World) (htab : Tab w) (hft : FTab w) (h : IntsIn w .i32 (-2147483648) 2147483647 A n cap l) (hb : 0 ≤ b ∧ b ≤ 255) :
    Calls Tryz.prog 5 #[.slice A n cap, .int .u8 b] w fun e w' => e = .returned (.bool true) ∧ Ext w w' := by
  obtain ⟨j, rfl⟩ : ∃ j : Nat, b = (j : Int) := ⟨b.toNat, by omega⟩
  exact fmathOrder_any A n cap l j w htab hft h (by omega)
end Go.Proofs.YtkcoikelcmpceaaGreatDoor
