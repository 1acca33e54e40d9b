/- What the rows' proofs lean on: the contracts of the functions that they reach, and plain facts (part R1). -/
import Derived.WalkKit
import Derived.WalkLawsBesides
import Derived.WalkSpells
import Derived.Outline
import Derived.Below
import Derived.Deep.RegionHeld3
import Derived.Deep.DeepCutAuto
import Derived.Deep.AppendLies
import Derived.Maps.AppendAt
import Derived.Lib.Hide
import Derived.OrdersHeld
import Derived.Test.YteecmifjbeojeaaGreatDoorProg
import Derived.Shelf.Strings.Builder1
import Derived.Shelf.Strings.Builder2
import Derived.Shelf.Small.Bits
import Derived.Shelf.Small.Strs
import Derived.Shelf.Small.Wraps
import Derived.Shelf.Strings.BuilderF
import Derived.Shelf.Strconv.Itoa0
import Derived.Shelf.Strconv.Itoa1
import Derived.Shelf.LaysM
import Derived.Shelf.Strconv.Itoa2
import Derived.Shelf.Strings.Prefix
import Derived.Shelf.Bits.Mul64
import Derived.Shelf.Strings.Repeat
import Derived.Ground.SlgmProg
import Derived.Shelf.SortM.Plain
import Derived.Shelf.SortM.SortNone
import Derived.Lib.ItoaMem
import Derived.Lib.OthersKept
import Derived.Deep.CutBlock
import Derived.Laws.Bits64b
import Derived.Lib.AppendZeros
import Derived.Lib.Bytealg
import Derived.Laws.RangeAny
import Derived.Maps.OwnSet
import Derived.Maps.Own
import Derived.Laws.EntriesVeiled
import Derived.Lib.ConvBytes
import Derived.Lib.SlBytesRow
import Derived.Lib.SmallJoins
import Derived.RegionTactic
import Derived.Test.YteecmifjbeojeaaGreatDoorRows
import Derived.Test.YteecmifjbeojeaaGreatDoorCards
import Derived.Test.YteecmifjbeojeaaGreatDoorTie
import Derived.ProofKit
import Derived.LaidMore
import Derived.OpenShut
import Derived.ShutString
import Derived.ChangeOld
import Derived.Stop.Joined
import Derived.Deep.Slices
import Derived.SevenTiedAt
import Derived.Test.YteecmifjbeojeaaGreatDoorM5
set_option linter.unusedSimpArgs false
set_option linter.unusedVariables false
set_option maxRecDepth 100000
namespace Go.Proofs.YteecmifjbeojeaaGreatDoor
/-- counterpaneref01.Right. -/
def refNumRight (m e : Int) : Bool :=
  if m = 0 then e == 0 else
  if 1000000000000000 ≤ m ∨ m ≤ -1000000000000000 ∨ m.tmod 10 = 0 ∨ e < -40 ∨ 40 < e then false else decide (countI (sizeI m) + e ≤ 40)
theorem numRight_eq (m e : Int) (_ : I64 m) : numRightB m e = refNumRight m e := by
  unfold numRightB refNumRight
  by_cases h0 : m = 0
  · simp [h0]
  · simp only [h0, if_false]
    have ht : m.tmod 10 = 0 ↔ sizeI m % 10 = 0 := by
      rw [← Int.dvd_iff_tmod_eq_zero]
      unfold sizeI; split <;> omega
    by_cases h1 : 1000000000000000 ≤ sizeI m
    · rw [if_pos (Or.inl h1), if_pos (by unfold sizeI at h1; split at h1 <;> omega)]
    · have h1' : ¬ 1000000000000000 ≤ m ∧ ¬ m ≤ -1000000000000000 := by unfold sizeI at h1; split at h1 <;> omega
      by_cases h2 : sizeI m % 10 = 0
      · rw [if_pos (Or.inr (Or.inl h2)), if_pos (by right; right; left; exact ht.2 h2)]
      · by_cases h3 : e < -40
        · rw [if_pos (by omega), if_pos (by omega)]
        · by_cases h4 : 40 < e
          · rw [if_pos (by omega), if_pos (by omega)]
          · rw [if_neg (show ¬ (1000000000000000 ≤ m ∨ m ≤ -1000000000000000 ∨ m.tmod 10 = 0 ∨ e < -40 ∨ 40 < e) by omega)]
            by_cases h5 : 40 ≤ e
            · rw [if_pos (by omega)]
              have : 1 ≤ countI (sizeI m) := by unfold countI; have := (cnt_le 20 (sizeI m).toNat (by unfold sizeI at h1 ⊢; split <;> split at h1 <;> omega)).1; omega
              symm
              simp only [decide_eq_false_iff_not]
              omega
            · rw [if_neg (by omega)]
end Go.Proofs.YteecmifjbeojeaaGreatDoor
namespace Go.Proofs.YteecmifjbeojeaaGreatDoor.NM
/-- A value below 0 is rounded as it is without its sign. -/
def RS (x : Int) : Int := if x < 0 then -(R x.natAbs : Int) else R x.natAbs
theorem RS_mono {a b : Int} (h : a ≤ b) : RS a ≤ RS b := by
  unfold RS
  split <;> split
  · have := R_mono (a := b.natAbs) (b := a.natAbs) (by omega); omega
  · omega
  · omega
  · have := R_mono (a := a.natAbs) (b := b.natAbs) (by omega); omega
end Go.Proofs.YteecmifjbeojeaaGreatDoor.NM
namespace Go.Proofs.YteecmifjbeojeaaGreatDoor
open Go.RowKit
set_option maxHeartbeats 400000 in
theorem refOf_any (m ex : Int) (w : World) (h : I64 m) :
    Calls Tryz.prog 43 #[NV m ex] w fun e w' => ∃ A c, e = .returned (.agg #[.bool (decide (m < 0)), .slice A (digsI m).length c, .int .i64 ex]) ∧ SlI w.heap.size w' A (digsI m) ∧ Ext w w' ∧ (digsI m).length ≤ c := by
  go_enter Tryz.func43, Tryz.ntmps43
  go_wp2
  refine wp_plan (S := Ext _) [(0, 0), (1, 0), (2, 0), (3, 0), (4, 0), (6, 0), (7, 0), (5, 1), (8, 0), (9, 2)] [9] (by kernel_rfl) (by kernel_rfl) (by kernel_rfl) (fun _ _ d _ _ h => by cases d <;> exact h) (Ext.drew (Ext.refl _)) ?_
  iterate 7 ((refine wpPl_read (v := ?_) rfl ?_ (fun _ h => ?_) ?_; rotate_left 1; rfl; (obtain ⟨_, _, rfl⟩ := h.more; go_simp; try rfl)); try simp only [Act.put, zqA, zqB, zqC])
  (refine wpPl_eff rfl ?_ (fun K hK => ?_); rfl; go_simp; refine (digits_any _ _ h).mono ?_; rintro e w' ⟨A, c, rfl, hs, hb, hcc⟩; obtain ⟨os, d, rfl⟩ := hb.more; refine hK _ _ ?_ ?_; (repeat (first | (with_reducible (first | exact Ext.refl _ | exact ext_d _ _ _ _ | exact ext_app _ _ _ _ _ | exact ext_app2 _ _ _ _ _ _ | exact ext_app3 _ _ _ _ _ _ _ | exact ext_app4 _ _ _ _ _ _ _ _ | exact ext_app5 _ _ _ _ _ _ _ _ _)) | ((with_reducible refine ext_suffix ⟨_, ?_⟩); (try simp only [Array.append_assoc]); rfl) | (with_reducible (first | apply Ext.drew | apply Ext.alloc | apply Ext.more_)) | apply Ext.drew | apply Ext.alloc | apply Ext.more_)))
  try simp only [Act.put, zqA, zqB, zqC]
  (refine wpPl_read (v := ?_) rfl ?_ (fun _ h => ?_) ?_; rotate_left 1; rfl; (obtain ⟨_, _, rfl⟩ := h.more; go_simp; try rfl))
  try simp only [Act.put, zqA, zqB, zqC]
  (refine wpPl_tail rfl ?_ (fun K hK => ?_); rfl; go_simp; refine hK _ _ ?_)
  try simp only [Act.put]
  refine wpPl_nil ?_
  go_wp2
  refine bodyPost_ret (v := .agg #[.bool (decide (m < 0)), .slice A (digsI m).length c, .int .i64 ex]) (by simp [results, Tryz.results43, go_sem]) rfl ⟨A, c, rfl, Rd.swap hs (by simp) (by simp) (by simp; omega), by repeat (first | exact Ext.refl _ | apply Ext.drew | apply Ext.alloc | apply Ext.more_), hcc⟩
set_option maxHeartbeats 400000 in
theorem refNumRight_any (m ex : Int) (w : World) (h : I64 m) :
    Calls Tryz.prog 21 #[NV m ex] w fun e w' => e = .returned (.bool (refNumRight m ex)) ∧ Ext w w' := by
  by_cases h0 : m = 0
  · have e : refNumRight m ex = (ex == 0) := by simp [refNumRight, h0]
    rw [e]
    have h0 : (m == 0) = true := by simp [h0]
    go_enter Tryz.func21, Tryz.ntmps21
    go_wp2
    go_ret
    exact ⟨rfl, by repeat (first | exact Ext.refl _ | apply Ext.drew | apply Ext.alloc | apply Ext.more_)⟩
  · have h0' : (m == 0) = false := by simp [h0]
    by_cases h1 : 1000000000000000 ≤ m
    · have e : refNumRight m ex = false := by simp [refNumRight, h0, h1]
      rw [e]; clear h0 e
      go_enter Tryz.func21, Tryz.ntmps21; go_wp2; go_ret; exact ⟨rfl, by repeat (first | exact Ext.refl _ | apply Ext.drew | apply Ext.alloc | apply Ext.more_)⟩
    by_cases h2 : m ≤ -1000000000000000
    · have e : refNumRight m ex = false := by simp [refNumRight, h0, h2]
      rw [e]; clear h0 e
      go_enter Tryz.func21, Tryz.ntmps21; go_wp2; go_ret; exact ⟨rfl, by repeat (first | exact Ext.refl _ | apply Ext.drew | apply Ext.alloc | apply Ext.more_)⟩
    by_cases h3 : m.tmod 10 = 0
    · have e : refNumRight m ex = false := by simp [refNumRight, h0, h3]
      rw [e]; clear h0 e
      have h3 : (m.tmod 10 == 0) = true := by simp [h3]
      go_enter Tryz.func21, Tryz.ntmps21; go_wp2; go_ret; exact ⟨rfl, by repeat (first | exact Ext.refl _ | apply Ext.drew | apply Ext.alloc | apply Ext.more_)⟩
    have h3' : (m.tmod 10 == 0) = false := by simp [h3]
    by_cases h4 : ex < -40
    · have e : refNumRight m ex = false := by simp [refNumRight, h0, h4]
      rw [e]; clear h0 e h3
      go_enter Tryz.func21, Tryz.ntmps21; go_wp2; go_ret; exact ⟨rfl, by repeat (first | exact Ext.refl _ | apply Ext.drew | apply Ext.alloc | apply Ext.more_)⟩
    by_cases h5 : 40 < ex
    · have e : refNumRight m ex = false := by simp [refNumRight, h0, h5]
      rw [e]; clear h0 e h3
      go_enter Tryz.func21, Tryz.ntmps21; go_wp2; go_ret; exact ⟨rfl, by repeat (first | exact Ext.refl _ | apply Ext.drew | apply Ext.alloc | apply Ext.more_)⟩
    have e : refNumRight m ex = decide (countI (sizeI m) + ex ≤ 40) := by unfold refNumRight; rw [if_neg h0, if_neg (by omega)]
    have hl : countI (sizeI m) = (digsI m).length := by
      unfold countI digsI
      rw [sizeI_nat, Int.toNat_natCast, List.length_map, digs_length 20 _ (by omega) (by omega)]
    rw [e, hl]; clear h0 e h3
    have hL := digs_len_le m.natAbs (by obtain ⟨h1, h2⟩ := h; omega)
    have hL' : (digsI m).length ≤ 20 := by simpa [digsI] using hL
    clear hL hl
    have hw : IntKind.i64.wrap (((digsI m).length : Int) + ex) = ((digsI m).length : Int) + ex := by rw [IntKind.wrap_i64]; omega
    go_enter Tryz.func21, Tryz.ntmps21
    go_wp2
    refine wp_plan (S := Ext _) [(0, 0), (4, 0), (5, 0), (1, 1), (2, 0), (3, 0), (6, 0), (7, 0), (8, 0)] [] (by kernel_rfl) (by kernel_rfl) (by kernel_rfl) (fun _ _ d _ _ h => by cases d <;> exact h) (Ext.drew (Ext.refl _)) ?_
    iterate 3 ((refine wpPl_read (v := ?_) rfl ?_ (fun _ h => ?_) ?_; rotate_left 1; rfl; (obtain ⟨_, _, rfl⟩ := h.more; go_simp; try rfl)); try simp only [Act.put, zqA, zqB, zqC])
    (refine wpPl_eff rfl ?_ (fun K hK => ?_); rfl; go_simp; refine (refOf_any _ _ _ h).mono ?_; rintro e w' ⟨A, c, rfl, hs, hb, hcc⟩; obtain ⟨os, d, rfl⟩ := hb.more; refine hK _ _ ?_ ?_; (repeat (first | (with_reducible (first | exact Ext.refl _ | exact ext_d _ _ _ _ | exact ext_app _ _ _ _ _ | exact ext_app2 _ _ _ _ _ _ | exact ext_app3 _ _ _ _ _ _ _ | exact ext_app4 _ _ _ _ _ _ _ _ | exact ext_app5 _ _ _ _ _ _ _ _ _)) | ((with_reducible refine ext_suffix ⟨_, ?_⟩); (try simp only [Array.append_assoc]); rfl) | (with_reducible (first | apply Ext.drew | apply Ext.alloc | apply Ext.more_)) | apply Ext.drew | apply Ext.alloc | apply Ext.more_)))
    try simp only [Act.put, zqA, zqB, zqC]
    iterate 5 ((refine wpPl_read (v := ?_) rfl ?_ (fun _ h => ?_) ?_; rotate_left 1; rfl; (obtain ⟨_, _, rfl⟩ := h.more; go_simp; try rfl)); try simp only [Act.put, zqA, zqB, zqC])
    refine wpPl_nil ?_
    go_wp2
    go_ret
    exact ⟨rfl, by repeat (first | exact Ext.refl _ | apply Ext.drew | apply Ext.alloc | apply Ext.more_)⟩
end Go.Proofs.YteecmifjbeojeaaGreatDoor
namespace Go.Proofs.YteecmifjbeojeaaGreatDoor.NM
/-- An exact sum: below 0, and without its sign. -/
def plusN (na nb : Bool) (Na Nb : Nat) : Bool × Nat := if na = nb then (na, Na + Nb) else if Na < Nb then (nb, Nb - Na) else (na, Na - Nb)
theorem plusN_sg (na nb : Bool) (Na Nb : Nat) : sg (plusN na nb Na Nb).1 (plusN na nb Na Nb).2 = sg na Na + sg nb Nb := by
  unfold plusN
  cases na <;> cases nb <;> simp [sg]
  · split <;> simp <;> omega
  · split <;> simp <;> omega
  · omega
theorem rnd_plus (ma ea mb eb : Int) : rnd (plusN (decide (ma < 0)) (decide (mb < 0)) (ma.natAbs * T (ea - min ea eb).toNat) (mb.natAbs * T (eb - min ea eb).toNat)).1 (plusN (decide (ma < 0)) (decide (mb < 0)) (ma.natAbs * T (ea - min ea eb).toNat) (mb.natAbs * T (eb - min ea eb).toNat)).2 false (min ea eb) = rndI (sumI ma ea mb eb) (min ea eb) := by
  rw [rnd_sg, plusN_sg, sg_mul_nat, sg_mul_nat, sg_nat, sg_nat]; rfl
/-- What of the digits is added up from place j on: a carry, and the digits. -/
theorem add_step {X Y S : List Nat} {j x y c : Nat} (hx : X[j]? = some x) (hy : Y[j]? = some y) (hl : X.length = Y.length) (hs : S.length = X.length - (j + 1)) (h : val (X.drop (j + 1)) + val (Y.drop (j + 1)) = c * T S.length + val S) :
    val (X.drop j) + val (Y.drop j) = (x + y + c) / 10 * T (S.length + 1) + val ((x + y + c) % 10 :: S) := by
  have l1 : (X.drop (j + 1)).length = S.length := by simp; omega
  have l2 : (Y.drop (j + 1)).length = S.length := by simp; omega
  rw [drop_at hx, drop_at hy, val_cons, val_cons, val_cons, l1, l2, T_succ]
  generalize T S.length = t at *
  have h3 : x * t + val (X.drop (j + 1)) + (y * t + val (Y.drop (j + 1))) = (x + y + c) * t + val S := by
    rw [Nat.add_mul, Nat.add_mul]; omega
  rw [h3]
  have h4 := Nat.div_add_mod (x + y + c) 10
  generalize (x + y + c) / 10 = q at *
  generalize (x + y + c) % 10 = r at *
  rw [← h4, Nat.add_mul, Nat.mul_comm 10 q, Nat.mul_assoc]
  omega
/-- What is taken away from place j on: what is borrowed, and the digits. -/
theorem sub_step {X Y S : List Nat} {j x y c d c' : Nat} (hx : X[j]? = some x) (hy : Y[j]? = some y) (hl : X.length = Y.length) (hs : S.length = X.length - (j + 1)) (h : val (X.drop (j + 1)) + c * T S.length = val (Y.drop (j + 1)) + val S) (hd : x + 10 * c' = y + c + d) :
    val (X.drop j) + c' * T (S.length + 1) = val (Y.drop j) + val (d :: S) := by
  have l1 : (X.drop (j + 1)).length = S.length := by simp; omega
  have l2 : (Y.drop (j + 1)).length = S.length := by simp; omega
  rw [drop_at hx, drop_at hy, val_cons, val_cons, val_cons, l1, l2, T_succ]
  generalize T S.length = t at *
  have h1 : x * t + 10 * c' * t = y * t + c * t + d * t := by rw [← Nat.add_mul, hd, Nat.add_mul, Nat.add_mul]
  rw [← Nat.mul_assoc, Nat.mul_comm c' 10]
  omega
/-- A digit put in the place of another one. -/
theorem val_set {l : List Nat} {p d : Nat} (d' : Nat) (h : l[p]? = some d) : val (l.set p d') + d * T (l.length - 1 - p) = val l + d' * T (l.length - 1 - p) := by
  have hp := lt_at h
  have h1 : l = l.take p ++ d :: l.drop (p + 1) := by rw [← drop_at h, List.take_append_drop]
  have h2 : l.set p d' = l.take p ++ d' :: l.drop (p + 1) := by
    conv => lhs; rw [h1]
    rw [List.set_append_right _ _ (by simp; omega)]
    congr 1
    rw [show p - (l.take p).length = 0 by simp; omega]; rfl
  have h3 : (l.drop (p + 1)).length = l.length - 1 - p := by simp; omega
  have e1 : val (l.set p d') = val (l.take p) * T (l.drop (p + 1)).length * 10 + d' * T (l.drop (p + 1)).length + val (l.drop (p + 1)) := by
    rw [h2, val_append, val_cons, List.length_cons, T_succ, Nat.mul_comm 10, ← Nat.mul_assoc, Nat.add_assoc]
  have e2 : val l = val (l.take p) * T (l.drop (p + 1)).length * 10 + d * T (l.drop (p + 1)).length + val (l.drop (p + 1)) := by
    conv => lhs; rw [h1]
    rw [val_append, val_cons, List.length_cons, T_succ, Nat.mul_comm 10, ← Nat.mul_assoc, Nat.add_assoc]
  rw [e1, e2, h3]; omega
theorem AllD.set {l : List Nat} (h : AllD l) {p d : Nat} (hd : d < 10) : AllD (l.set p d) := fun x hx => by
  rcases List.mem_or_eq_of_mem_set hx with h1 | h1
  · exact h x h1
  · subst h1; exact hd
end Go.Proofs.YteecmifjbeojeaaGreatDoor.NM
namespace Go.Proofs.YteecmifjbeojeaaGreatDoor
open Go.RowKit NM
/-- append onto a list of the call's own, of what may be nil. -/
theorem wpList_append_opt {P : Program} (w : World) {ops : Array Oper} {rest : List Oper} {o : Oper} {a : Act} {Q : Exit → Act → World → Prop} (hgd : o.guard = none) (s x : Operand) (t : TypeId)
    (ho : o.op = .call { callee := .builtin .append, args := #[s, x], argTypes := #[t, t] })
    (base : Nat) (e : TypeId) (i : TypeInfo) (z : Value) (bytes : Nat) (ht : P.underlying t = some (.slice e)) (hi : P.info? e = some i) (hz : i.zero = some z)
    (hsize : i.size = 1) (hby : i.bytes = bytes) (hzs : z.cells.size = 1)
    (v : Value) (n : Nat) (xs : List Value) (hs : a.eval s = v) (hown : w.ownsRow base e 1 v n xs)
    (B : Option Addr) (m c : Nat) (news : List Value) (hx : a.eval x = .slice B m c) (hl : news.length = m) (hB : Rd 0 w B news) (h1 : ∀ u ∈ news, u.oneCell' = true)
    (h63 : n + m ≤ maxLen) (hbytes : (n + m) * bytes ≤ 140737488355328) (hbase : base ≤ w.heap.size)
    (h : ∀ v' w', w'.ownsRow base e 1 v' (n + m) (xs ++ news) → w.grownBy w' v.ownBlock → wpList P ops Q rest (a.put o.dst v') w') : wpList P ops Q (o :: rest) a w := by
  by_cases hm : m = 0
  · subst hm
    obtain rfl : news = [] := List.eq_nil_of_length_eq_zero hl
    obtain ⟨A, cap, hv, hcap⟩ : ∃ A cap, v = .slice A n cap ∧ n ≤ cap := by
      rcases hown.2 with ⟨h2, h3⟩ | ⟨g, cap, cur, h3, h4, h5, h6, _⟩
      · exact ⟨none, 0, by rw [h2, h3], by omega⟩
      · exact ⟨_, cap, h3, h6⟩
    have hr := append_none (P := P) w t o.type e i ht hi A n cap B c hcap
    refine wpList_plain hgd fun K hK => ?_
    unfold Oper.wp execOp
    simp only [ho, resolve, invoke, builtin, Sem.run_bind, Sem.run_pure, Result.andThen_ok, List.map_toArray, List.map_cons, List.map_nil, hs, hx, hv, hr]
    refine hK _ _ (h _ _ (by rw [← hv]; simpa using hown) ⟨rfl, rfl, rfl, Nat.le_refl _, fun _ _ _ => rfl⟩)
  · have hpos : 0 < news.length := by omega
    obtain ⟨b, off, rfl, _, _⟩ := hB 0 news[0] (by simp [hpos])
    exact wpList_append_own w hgd s x t ho base e i z 1 bytes ht hi hz hsize hby hzs (by decide) v n xs hs hown ⟨b, off, none⟩ m c news hx (by omega) hB.add h1 h63 hbytes hbase fun v' w' h2 h3 _ => h v' w' h2 h3
theorem own_allocT {X wr : World} {ty : TypeId} {v : Value} {n : Nat} {xs : List Value} (ho : wr.ownsRow X.heap.size ty 1 v n xs) (o : Obj) : (wr.alloc o).ownsRow X.heap.size ty 1 v n xs :=
  own_keep ho fun g cur hg => RowKit.Below.heap_alloc _ o g (lt_block hg)
theorem nil_own {w : World} {base n : Nat} {ty : TypeId} (hn : n = w.heap.size) (hb : base ≤ n) : (w.alloc (.cells #[] ty)).ownsRow base ty 1 (.slice (some ⟨n, 0, none⟩) 0 0) 0 [] := by
  subst hn
  exact ⟨by simp, Or.inr ⟨w.heap.size, 0, #[], rfl, hb, Array.getElem?_push_size, Nat.le_refl _, by decide, by simp, by simp⟩⟩
set_option maxHeartbeats 2000000 in
theorem wide_any (A : Option Addr) (len cap k : Nat) (l : List Nat) (w : World) (hlen : l.length = len) (h : Rd 0 w A (i6 l)) (hbig : len + k ≤ 100000) :
    Calls Tryz.prog 240 #[.slice A len cap, .int .i64 (k : Int)] w fun e w' => ∃ v, e = .returned v ∧ w'.ownsRow w.heap.size 3 1 v (len + k) (i6 (l ++ List.replicate k 0)) ∧ Ext w w' := by
  obtain ⟨i0, hi, hz0, hz1, hz2⟩ := info_parts info_int_
  have HR := Lib.hid h
  have HL := Lib.hid hlen
  clear h hlen
  go_enter Tryz.func240, Tryz.ntmps240
  go_wp2_with (at_builtin; refine wpList_append_opt _ rfl _ _ _ rfl w.heap.size 3 i0 (.int .i64 0) 8 Tryz.underlying77 hi hz0 hz1 hz2 rfl _ 0 [] rfl (nil_own rfl (Nat.le_refl _)) A len cap (i6 l) rfl (by simp [HL.out]) (HR.out.ext ((Ext.refl _).alloc _)) (one_i6 _) (by simp [maxLen]; omega) (by omega) (by simp) ?_; intro v3 w3 ho3 hg3)
  have hx3 := ext_grown ((Ext.refl w).alloc _) (nil_own rfl (Nat.le_refl _)) hg3
  have HO : Hid (w3.ownsRow w.heap.size 3 1 v3 (len + 0) (i6 (l ++ List.replicate 0 0))) := by show World.ownsRow _ _ _ _ _ _ _; simpa using ho3
  clear ho3 hg3
  go_loopw [5, 6] (fun v i wr => ∃ j : Nat, j ≤ k ∧ i = .int .i64 (j : Int) ∧ Hid (wr.ownsRow w.heap.size 3 1 v (len + j) (i6 (l ++ List.replicate j 0))) ∧ Ext w wr) (fun _ i _ => k - (intOf i).toNat)
  case atStart => exact ⟨0, Nat.zero_le _, rfl, HO, hx3⟩
  case round =>
    obtain ⟨j, hj, rfl, HW, hxr⟩ := hrel
    have hsz := hxr.size
    by_cases hlt : j < k
    · go_wp2_with (at_builtin; refine wpList_append_own _ rfl _ _ _ rfl w.heap.size 3 i0 (.int .i64 0) 1 8 Tryz.underlying77 hi hz0 hz1 hz2 rfl (by decide) _ (len + j) (i6 (l ++ List.replicate j 0)) rfl (own_allocT HW.out _) _ 1 1 [.int .i64 0] rfl rfl (Rd.one_ _ _ rfl).add (one_i6 [0]) (by simp [maxLen]; omega) (by omega) (by simp; omega) ?_; intro v4 w4 ho4 hg4 _)
      have hx4 := ext_grown (hxr.alloc _) (own_allocT HW.out _) hg4
      refine ⟨⟨j + 1, by omega, by go_num, ?_, hx4⟩, by simp [intOf]; omega⟩
      show World.ownsRow _ _ _ _ _ _ _
      rw [List.replicate_succ', ← List.append_assoc]; unfold i6; rw [List.map_append]
      exact ho4
    · go_wp2_with fail
      go_ret
      obtain rfl : j = k := by omega
      exact ⟨_, rfl, HW.out, hxr⟩
end Go.Proofs.YteecmifjbeojeaaGreatDoor
namespace Go.Proofs.YteecmifjbeojeaaGreatDoor
open Go.RowKit NM
/-- A list of digits, the same number, however many noughts ahead: in memory from 'base' on. -/
def LvOut (w : World) (L N : Nat) (v : Value) (w' : World) : Prop := ∃ A c X, v = .slice A L c ∧ Rd w.heap.size w' A (i6 X) ∧ X.length = L ∧ AllD X ∧ val X = N ∧ L ≤ c
theorem LvOut.ext {w w' w'' : World} {L N : Nat} {v : Value} (h : LvOut w L N v w') (hx : Ext w' w'') : LvOut w L N v w'' := by
  obtain ⟨A, c, X, h1, h2, h3⟩ := h
  exact ⟨A, c, X, h1, h2.ext hx, h3⟩
theorem LvOut.of_own_ {w w' : World} {base : Nat} {l : List Nat} {v : Value} {n : Nat} (h : w'.ownsRow base 3 1 v n (i6 l)) (ha : AllD l) (hb : w.heap.size ≤ base) : LvOut w n (val l) v w' := by
  obtain ⟨A, c, rfl, h1, rfl⟩ := Dg.of_own (l := l) (k := .i64) h
  exact ⟨A, c, l, rfl, h1.rd.mono hb, rfl, ha, rfl, h1.1⟩
theorem val_zero_cons (l : List Nat) : val (0 :: l) = val l := by rw [val_cons]; omega
set_option maxHeartbeats 2000000 in
theorem level_any (na nb : Bool) (A B : Option Addr) (ca cb : Nat) (la lb : List Nat) (ea eb : Int) (e : Int) (ka kb : Nat) (w : World) (ha : Rd 0 w A (i6 la)) (hb : Rd 0 w B (i6 lb)) (hla : la.length ≤ 1000) (hlb : lb.length ≤ 1000)
    (hka : ea = e + ka) (hkb : eb = e + kb) (hk0 : ka = 0 ∨ kb = 0) (hkk : ka ≤ 10000 ∧ kb ≤ 10000) (he : -1000000 ≤ e ∧ e ≤ 1000000) (hda : AllD la) (hdb : AllD lb) :
    Calls Tryz.prog 124 #[DecV na A la.length ca ea, DecV nb B lb.length cb eb] w fun r w' => (∃ va vb, r = .returned (.tuple #[va, vb, .int .i64 e]) ∧ LvOut w (max (la.length + ka) (lb.length + kb)) (val la * T ka) va w' ∧ LvOut w (max (la.length + ka) (lb.length + kb)) (val lb * T kb) vb w') ∧ Ext w w' := by
  subst hka hkb
  have hwa := fun W hW => wide_any A la.length ca ka la W rfl hW (by omega)
  have hwb := fun W hW => wide_any B lb.length cb kb lb W rfl hW (by omega)
  obtain ⟨i0, hi, hz0, hz1, hz2⟩ := info_parts info_int_
  have HA := Lib.hid ha
  have HB := Lib.hid hb
  have s1 : e + (ka : Int) - e = ka := by omega
  have s2 : e + (kb : Int) - e = kb := by omega
  clear ha hb
  have hcmp : Hid (ka = 0 ∨ kb = 0) := hk0
  clear hk0
  by_cases hlt : kb < ka
  · have e1 : decide (e + (kb : Int) < e + (ka : Int)) = true := by simp; omega
    have hkb0 : kb = 0 := by have := hcmp.out; omega
    subst hkb0
    simp only [show ((0 : Nat) : Int) = 0 from rfl, Int.add_zero] at hwb e1 s2
    simp only [show ((0 : Nat) : Int) = 0 from rfl, Int.add_zero]
    go_enter Tryz.func124, Tryz.ntmps124
    go_wp2_with (first | (go_at_call_of 240 (Value.slice A la.length ca); (with_reducible refine (hwa _ (HA.out.ext (by repeat (first | exact Ext.refl _ | apply Ext.drew | apply Ext.alloc | apply Ext.more_)))).mono ?_); rintro r w' ⟨va, rfl, hva, hxa⟩; obtain ⟨osa, da, rfl⟩ := hxa.more) | (go_at_call 240; (with_reducible refine (hwb _ (HB.out.ext (by repeat (first | exact Ext.refl _ | apply Ext.drew | apply Ext.alloc | apply Ext.more_)))).mono ?_); rintro r w' ⟨vb, rfl, hvb, hxb⟩; obtain ⟨osb, db, rfl⟩ := hxb.more))
    have hLa := (LvOut.of_own_ (w := w) hva (hda.append (AllD.rep _ _ (by omega))) (by simp; omega)).ext hxb
    have hLb := LvOut.of_own_ (w := w) hvb (hdb.append (AllD.rep _ _ (by omega))) (by simp; omega)
    rw [val_zeros] at hLa hLb
    have hxW : Ext w (more (more ((w.alloc (.cells #[.bool na, .slice A la.length ca, .int .i64 (e + (ka : Int))] 79)).alloc (.cells #[.bool nb, .slice B lb.length cb, .int .i64 e] 79)) osa da) osb db) := by repeat (first | exact Ext.refl _ | apply Ext.drew | apply Ext.alloc | apply Ext.more_)
    refine wp_world fun W hW => ?_
    rw [more_more, ← hW] at hLa hLb hxW
    clear hW hva hvb hxa hxb
    obtain ⟨Aa, cx, Xa, rfl, hra, hna, hala, hvala, hcx⟩ := hLa
    obtain ⟨Ab, cy, Xb, rfl, hrb, hnb, halb, hvalb, hcy⟩ := hLb
    generalize hNa : val la * T ka = Na at *
    generalize hNb : val lb * T 0 = Nb at *
    generalize hLLa : la.length + ka = La at *
    generalize hLLb : lb.length + 0 = Lb at *
    have HLa : Hid (LvOut w La Na (.slice Aa La cx) W) := ⟨Aa, cx, Xa, rfl, hra, hna, hala, hvala, hcx⟩
    have HLb : Hid (LvOut w Lb Nb (.slice Ab Lb cy) W) := ⟨Ab, cy, Xb, rfl, hrb, hnb, halb, hvalb, hcy⟩
    have HNa := Lib.hid hNa
    have HNb := Lib.hid hNb
    have HLLa := Lib.hid hLLa
    have HLLb := Lib.hid hLLb
    clear hra hna hala hvala hcx hrb hnb halb hvalb hcy hNa hNb
    have hLab : La ≤ 11000 ∧ Lb ≤ 11000 := by omega
    clear hLLa hLLb hwa hwb e1 s1 s2 hlt
    go_loopw [8] (fun x wr => ∃ L1, La ≤ L1 ∧ L1 ≤ max La Lb ∧ Hid (LvOut w L1 Na x wr) ∧ Hid (LvOut w Lb Nb (.slice Ab Lb cy) wr) ∧ Ext w wr) (fun x _ => Lb - slen x)
    case atStart => exact ⟨La, Nat.le_refl _, by omega, HLa, HLb, hxW⟩
    case round =>
      obtain ⟨L1, hL1, hL2, HX, HY, hxr⟩ := hrel
      obtain ⟨A8, c8, X8, rfl, hrx, hnx, halx, hvx, hcx⟩ := HX.out
      by_cases hll : L1 < Lb
      · have HNX := Lib.hid hnx
        have HVX := Lib.hid hvx
        clear hvx
        go_wp2_with (at_builtin; refine wpList_append_full _ rfl _ _ _ rfl 3 i0 (.int .i64 0) 1 8 Tryz.underlying77 hi hz0 hz1 hz2 rfl (by decide) w.heap.size _ 1 [.int .i64 0] rfl (by simp) rfl ((Rd.one _ _ _).mono hxr.size) (by have := hxr.size; simp; omega) A8 L1 c8 (i6 X8) rfl (by simp; omega) ((Rd.alloc hrx _).mono (Nat.zero_le _)) (one_i6 _) (by simp [maxLen]; omega) (by omega) ?_; intro A9 c9 os9 d9 hr9 hn9 hc9)
        refine ⟨⟨1 + L1, by omega, by omega, ?_, ?_, ?_⟩, by simp [slen]; omega⟩
        · exact ⟨A9, c9, 0 :: X8, rfl, hr9, by simp; omega, AllD.cons (by omega) halx, by rw [val_zero_cons]; exact HVX.out, hc9⟩
        · exact HY.out.ext (by repeat (first | exact Ext.refl _ | apply Ext.drew | apply Ext.alloc | apply Ext.more_))
        · exact hxr.trans (by repeat (first | exact Ext.refl _ | apply Ext.drew | apply Ext.alloc | apply Ext.more_))
      · have HNX := Lib.hid hnx
        have HVX := Lib.hid hvx
        clear hvx
        go_wp2_with fail
        go_loopw [9] (fun y wq => ∃ L2, Lb ≤ L2 ∧ L2 ≤ max La Lb ∧ Hid (LvOut w L2 Nb y wq) ∧ Hid (LvOut w L1 Na (.slice A8 L1 c8) wq) ∧ Ext w wq) (fun y _ => La - slen y)
        case atStart => exact ⟨Lb, Nat.le_refl _, by omega, HY, HX, hxr⟩
        case round =>
          clear hrx hnx halx hcx HNX HVX HX HY hxr
          obtain ⟨L2, hL3, hL4, HY, HX, hxr⟩ := hrel
          obtain ⟨A7, c7, X7, rfl, hrx, hnx, halx, hvx, hcx⟩ := HY.out
          by_cases hll2 : L2 < L1
          · have HNX := Lib.hid hnx
            have HVX := Lib.hid hvx
            clear hvx
            go_wp2_with (at_builtin; refine wpList_append_full _ rfl _ _ _ rfl 3 i0 (.int .i64 0) 1 8 Tryz.underlying77 hi hz0 hz1 hz2 rfl (by decide) w.heap.size _ 1 [.int .i64 0] rfl (by simp) rfl ((Rd.one _ _ _).mono hxr.size) (by have := hxr.size; simp; omega) A7 L2 c7 (i6 X7) rfl (by simp; omega) ((Rd.alloc hrx _).mono (Nat.zero_le _)) (one_i6 _) (by simp [maxLen]; omega) (by omega) ?_; intro A9 c9 os9 d9 hr9 hn9 hc9)
            refine ⟨⟨1 + L2, by omega, by omega, ?_, ?_, ?_⟩, by simp [slen]; omega⟩
            · exact ⟨A9, c9, 0 :: X7, rfl, hr9, by simp; omega, AllD.cons (by omega) halx, by rw [val_zero_cons]; exact HVX.out, hc9⟩
            · exact HX.out.ext (by repeat (first | exact Ext.refl _ | apply Ext.drew | apply Ext.alloc | apply Ext.more_))
            · exact hxr.trans (by repeat (first | exact Ext.refl _ | apply Ext.drew | apply Ext.alloc | apply Ext.more_))
          · clear hvx
            go_wp2_with fail
            go_ret3
            rw [HNa.out, HNb.out, HLLa.out, HLLb.out]
            obtain rfl : L1 = max La Lb := by omega
            obtain rfl : L2 = max La Lb := by omega
            exact ⟨⟨_, _, rfl, HX.out, HY.out⟩, hxr⟩
  · have e1 : decide (e + (kb : Int) < e + (ka : Int)) = false := by simp; omega
    have hka0 : ka = 0 := by have := hcmp.out; omega
    subst hka0
    simp only [show ((0 : Nat) : Int) = 0 from rfl, Int.add_zero] at hwa e1 s1
    simp only [show ((0 : Nat) : Int) = 0 from rfl, Int.add_zero]
    go_enter Tryz.func124, Tryz.ntmps124
    go_wp2_with (first | (go_at_call_of 240 (Value.slice A la.length ca); (with_reducible refine (hwa _ (HA.out.ext (by repeat (first | exact Ext.refl _ | apply Ext.drew | apply Ext.alloc | apply Ext.more_)))).mono ?_); rintro r w' ⟨va, rfl, hva, hxa⟩; obtain ⟨osa, da, rfl⟩ := hxa.more) | (go_at_call 240; (with_reducible refine (hwb _ (HB.out.ext (by repeat (first | exact Ext.refl _ | apply Ext.drew | apply Ext.alloc | apply Ext.more_)))).mono ?_); rintro r w' ⟨vb, rfl, hvb, hxb⟩; obtain ⟨osb, db, rfl⟩ := hxb.more))
    have hLa := (LvOut.of_own_ (w := w) hva (hda.append (AllD.rep _ _ (by omega))) (by simp; omega)).ext hxb
    have hLb := LvOut.of_own_ (w := w) hvb (hdb.append (AllD.rep _ _ (by omega))) (by simp; omega)
    rw [val_zeros] at hLa hLb
    have hxW : Ext w (more (more ((w.alloc (.cells #[.bool na, .slice A la.length ca, .int .i64 e] 79)).alloc (.cells #[.bool nb, .slice B lb.length cb, .int .i64 (e + (kb : Int))] 79)) osa da) osb db) := by repeat (first | exact Ext.refl _ | apply Ext.drew | apply Ext.alloc | apply Ext.more_)
    refine wp_world fun W hW => ?_
    rw [more_more, ← hW] at hLa hLb hxW
    clear hW hva hvb hxa hxb
    obtain ⟨Aa, cx, Xa, rfl, hra, hna, hala, hvala, hcx⟩ := hLa
    obtain ⟨Ab, cy, Xb, rfl, hrb, hnb, halb, hvalb, hcy⟩ := hLb
    generalize hNa : val la * T 0 = Na at *
    generalize hNb : val lb * T kb = Nb at *
    generalize hLLa : la.length + 0 = La at *
    generalize hLLb : lb.length + kb = Lb at *
    have HLa : Hid (LvOut w La Na (.slice Aa La cx) W) := ⟨Aa, cx, Xa, rfl, hra, hna, hala, hvala, hcx⟩
    have HLb : Hid (LvOut w Lb Nb (.slice Ab Lb cy) W) := ⟨Ab, cy, Xb, rfl, hrb, hnb, halb, hvalb, hcy⟩
    have HNa := Lib.hid hNa
    have HNb := Lib.hid hNb
    have HLLa := Lib.hid hLLa
    have HLLb := Lib.hid hLLb
    clear hra hna hala hvala hcx hrb hnb halb hvalb hcy hNa hNb
    have hLab : La ≤ 11000 ∧ Lb ≤ 11000 := by omega
    clear hLLa hLLb hwa hwb e1 s1 s2 hlt
    go_loopw [8] (fun x wr => ∃ L1, La ≤ L1 ∧ L1 ≤ max La Lb ∧ Hid (LvOut w L1 Na x wr) ∧ Hid (LvOut w Lb Nb (.slice Ab Lb cy) wr) ∧ Ext w wr) (fun x _ => Lb - slen x)
    case atStart => exact ⟨La, Nat.le_refl _, by omega, HLa, HLb, hxW⟩
    case round =>
      obtain ⟨L1, hL1, hL2, HX, HY, hxr⟩ := hrel
      obtain ⟨A8, c8, X8, rfl, hrx, hnx, halx, hvx, hcx⟩ := HX.out
      by_cases hll : L1 < Lb
      · have HNX := Lib.hid hnx
        have HVX := Lib.hid hvx
        clear hvx
        go_wp2_with (at_builtin; refine wpList_append_full _ rfl _ _ _ rfl 3 i0 (.int .i64 0) 1 8 Tryz.underlying77 hi hz0 hz1 hz2 rfl (by decide) w.heap.size _ 1 [.int .i64 0] rfl (by simp) rfl ((Rd.one _ _ _).mono hxr.size) (by have := hxr.size; simp; omega) A8 L1 c8 (i6 X8) rfl (by simp; omega) ((Rd.alloc hrx _).mono (Nat.zero_le _)) (one_i6 _) (by simp [maxLen]; omega) (by omega) ?_; intro A9 c9 os9 d9 hr9 hn9 hc9)
        refine ⟨⟨1 + L1, by omega, by omega, ?_, ?_, ?_⟩, by simp [slen]; omega⟩
        · exact ⟨A9, c9, 0 :: X8, rfl, hr9, by simp; omega, AllD.cons (by omega) halx, by rw [val_zero_cons]; exact HVX.out, hc9⟩
        · exact HY.out.ext (by repeat (first | exact Ext.refl _ | apply Ext.drew | apply Ext.alloc | apply Ext.more_))
        · exact hxr.trans (by repeat (first | exact Ext.refl _ | apply Ext.drew | apply Ext.alloc | apply Ext.more_))
      · have HNX := Lib.hid hnx
        have HVX := Lib.hid hvx
        clear hvx
        go_wp2_with fail
        go_loopw [9] (fun y wq => ∃ L2, Lb ≤ L2 ∧ L2 ≤ max La Lb ∧ Hid (LvOut w L2 Nb y wq) ∧ Hid (LvOut w L1 Na (.slice A8 L1 c8) wq) ∧ Ext w wq) (fun y _ => La - slen y)
        case atStart => exact ⟨Lb, Nat.le_refl _, by omega, HY, HX, hxr⟩
        case round =>
          clear hrx hnx halx hcx HNX HVX HX HY hxr
          obtain ⟨L2, hL3, hL4, HY, HX, hxr⟩ := hrel
          obtain ⟨A7, c7, X7, rfl, hrx, hnx, halx, hvx, hcx⟩ := HY.out
          by_cases hll2 : L2 < L1
          · have HNX := Lib.hid hnx
            have HVX := Lib.hid hvx
            clear hvx
            go_wp2_with (at_builtin; refine wpList_append_full _ rfl _ _ _ rfl 3 i0 (.int .i64 0) 1 8 Tryz.underlying77 hi hz0 hz1 hz2 rfl (by decide) w.heap.size _ 1 [.int .i64 0] rfl (by simp) rfl ((Rd.one _ _ _).mono hxr.size) (by have := hxr.size; simp; omega) A7 L2 c7 (i6 X7) rfl (by simp; omega) ((Rd.alloc hrx _).mono (Nat.zero_le _)) (one_i6 _) (by simp [maxLen]; omega) (by omega) ?_; intro A9 c9 os9 d9 hr9 hn9 hc9)
            refine ⟨⟨1 + L2, by omega, by omega, ?_, ?_, ?_⟩, by simp [slen]; omega⟩
            · exact ⟨A9, c9, 0 :: X7, rfl, hr9, by simp; omega, AllD.cons (by omega) halx, by rw [val_zero_cons]; exact HVX.out, hc9⟩
            · exact HX.out.ext (by repeat (first | exact Ext.refl _ | apply Ext.drew | apply Ext.alloc | apply Ext.more_))
            · exact hxr.trans (by repeat (first | exact Ext.refl _ | apply Ext.drew | apply Ext.alloc | apply Ext.more_))
          · clear hvx
            go_wp2_with fail
            go_ret3
            rw [HNa.out, HNb.out, HLLa.out, HLLb.out]
            obtain rfl : L1 = max La Lb := by omega
            obtain rfl : L2 = max La Lb := by omega
            exact ⟨⟨_, _, rfl, HX.out, HY.out⟩, hxr⟩
end Go.Proofs.YteecmifjbeojeaaGreatDoor
namespace Go.Proofs.YteecmifjbeojeaaGreatDoor
open Go.RowKit NM
theorem split_at_ {l : List Nat} {j d : Nat} (h : l[j]? = some d) : l = l.take j ++ d :: l.drop (j + 1) := by
  have hj : j < l.length := by
    rcases Nat.lt_or_ge j l.length with h1 | h1
    · exact h1
    · rw [List.getElem?_eq_none h1] at h; cases h
  have h1 := List.take_append_drop j l
  rw [List.drop_eq_getElem_cons hj] at h1
  rw [List.getElem?_eq_getElem hj] at h
  rw [← Option.some.inj h]
  exact h1.symm
theorem less_at {X Y : List Nat} {j x y : Nat} (hl : X.length = Y.length) (hX : AllD X) (hY : AllD Y) (he : X.take j = Y.take j) (hx : X[j]? = some x) (hy : Y[j]? = some y) (hne : x ≠ y) : decide (x < y) = decide (val X < val Y) := by
  have h1 := split_at_ hx
  have h2 := split_at_ hy
  have h3 := val_lt (hX.drop (j + 1))
  have h4 := val_lt (hY.drop (j + 1))
  have h5 : (X.drop (j + 1)).length = (Y.drop (j + 1)).length := by simp; omega
  have e1 : val X = val (X.take j) * T (X.drop (j + 1)).length * 10 + x * T (X.drop (j + 1)).length + val (X.drop (j + 1)) := by
    conv => lhs; rw [h1]
    rw [val_append, val_cons, List.length_cons, T_succ, Nat.mul_comm 10, ← Nat.mul_assoc, Nat.add_assoc]
  have e2 : val Y = val (X.take j) * T (X.drop (j + 1)).length * 10 + y * T (X.drop (j + 1)).length + val (Y.drop (j + 1)) := by
    conv => lhs; rw [h2]
    rw [val_append, val_cons, List.length_cons, T_succ, Nat.mul_comm 10, ← Nat.mul_assoc, Nat.add_assoc, he, h5]
  rw [← h5] at h4
  rw [e1, e2]
  generalize T (X.drop (j + 1)).length = t at *
  generalize val (X.take j) * t * 10 = z at *
  rw [Bool.eq_iff_iff, decide_eq_true_eq, decide_eq_true_eq]
  constructor
  · intro h
    have := Nat.mul_le_mul_right t (show x + 1 ≤ y from h)
    rw [Nat.add_mul, Nat.one_mul] at this
    omega
  · intro h
    rcases Nat.lt_or_ge x y with h6 | h6
    · exact h6
    · exfalso
      have := Nat.mul_le_mul_right t (show y + 1 ≤ x by omega)
      rw [Nat.add_mul, Nat.one_mul] at this
      omega
set_option maxHeartbeats 2000000 in
theorem less_any (A B : Option Addr) (ca cb L : Nat) (X Y : List Nat) (w : World) (hA : Rd 0 w A (i6 X)) (hB : Rd 0 w B (i6 Y)) (hX : X.length = L) (hY : Y.length = L) (hXd : AllD X) (hYd : AllD Y) (hL : L ≤ 1000000) :
    Calls Tryz.prog 125 #[.slice A L ca, .slice B L cb] w fun e w' => e = .returned (.bool (decide (val X < val Y))) ∧ Ext w w' := by
  have HA := Lib.hid hA
  have HB := Lib.hid hB
  have HX := Lib.hid hX
  have HY := Lib.hid hY
  generalize hR : decide (val X < val Y) = R
  have HR := Lib.hid hR
  clear hA hB hX hY hR
  go_enter Tryz.func125, Tryz.ntmps125
  go_wp2
  go_loopw [5] (fun i wr => ∃ j : Nat, j ≤ L ∧ i = .int .i64 (j : Int) ∧ Hid (X.take j = Y.take j) ∧ Ext w wr) (fun i _ => L - (intOf i).toNat)
  case atStart => exact ⟨0, Nat.zero_le _, rfl, by show _ = _; rfl, Ext.refl _⟩
  case round =>
    obtain ⟨j, hj, rfl, HE, hxr⟩ := hrel
    by_cases hlt : j < L
    · obtain ⟨x, hx⟩ : ∃ x, X[j]? = some x := ⟨X[j]'(by have := HX.out; omega), by rw [List.getElem?_eq_getElem]⟩
      obtain ⟨y, hy⟩ : ∃ y, Y[j]? = some y := ⟨Y[j]'(by have := HY.out; omega), by rw [List.getElem?_eq_getElem]⟩
      obtain ⟨ba, oa, rfl, _, hcx⟩ := Rd.at_ (HA.out.ext hxr) hx
      obtain ⟨bb, ob, rfl, _, hcy⟩ := Rd.at_ (HB.out.ext hxr) hy
      have hba := lt_of_cell hcx
      have hbb := lt_of_cell hcy
      simp only at hba hbb
      by_cases hne : x = y
      · subst hne
        have HN : Hid (X.take (j + 1) = Y.take (j + 1)) := by show _ = _; rw [take_at hx, take_at hy, HE.out]
        clear hx hy
        go_wp2
        refine wp_plan (S := Ext _) [(0, 0), (1, 0), (2, 0), (3, 0), (4, 0), (5, 0), (6, 0), (7, 0), (8, 0)] [] (by kernel_rfl) (by kernel_rfl) (by kernel_rfl) (fun _ _ d _ _ h => by cases d <;> exact h) (Ext.drew (Ext.refl _)) ?_
        iterate 9 ((refine wpPl_read (v := ?_) rfl ?_ (fun _ h => ?_) ?_; rotate_left 1; rfl; (obtain ⟨_, _, rfl⟩ := h.more; go_simp; try rfl)); try simp only [Act.put, zqA, zqB, zqC])
        refine wpPl_nil ?_
        go_wp2
        refine ⟨⟨j + 1, by omega, by go_num, HN, ?_⟩, by simp [intOf]; omega⟩
        exact hxr.trans (by repeat (first | exact Ext.refl _ | apply Ext.drew | apply Ext.alloc | apply Ext.more_))
      · have hRR : decide (x < y) = R := by rw [less_at (by rw [HX.out, HY.out]) hXd hYd HE.out hx hy hne]; exact HR.out
        have HRR := Lib.hid hRR
        have e1 : ((x : Int) == (y : Int)) = false := by simp; omega
        have e2 : (x == y) = false := by simp; omega
        clear hx hy hRR
        go_wp2
        refine wp_plan (S := Ext _) [(0, 0), (1, 0), (2, 0), (3, 0), (4, 0), (5, 0), (6, 0), (7, 0), (8, 0)] [] (by kernel_rfl) (by kernel_rfl) (by kernel_rfl) (fun _ _ d _ _ h => by cases d <;> exact h) (Ext.drew (Ext.refl _)) ?_
        iterate 9 ((refine wpPl_read (v := ?_) rfl ?_ (fun _ h => ?_) ?_; rotate_left 1; rfl; (obtain ⟨_, _, rfl⟩ := h.more; go_simp; try rfl)); try simp only [Act.put, zqA, zqB, zqC])
        refine wpPl_nil ?_
        go_wp2
        refine wp_plan (S := Ext _) [(0, 0), (1, 0), (2, 0), (3, 0), (4, 0), (5, 0), (6, 0), (7, 0), (8, 0), (9, 0)] [] (by kernel_rfl) (by kernel_rfl) (by kernel_rfl) (fun _ _ d _ _ h => by cases d <;> exact h) (Ext.drew (Ext.refl _)) ?_
        iterate 10 ((refine wpPl_read (v := ?_) rfl ?_ (fun _ h => ?_) ?_; rotate_left 1; rfl; (obtain ⟨_, _, rfl⟩ := h.more; go_simp; try rfl)); try simp only [Act.put, zqA, zqB, zqC])
        refine wpPl_nil ?_
        go_wp2
        go_ret
        exact ⟨ret_bool HRR.out, hxr.trans (by repeat (first | exact Ext.refl _ | apply Ext.drew | apply Ext.alloc | apply Ext.more_))⟩
    · have hRR : R = false := by
        rw [← HR.out]
        have h1 := HE.out
        rw [List.take_of_length_le (by have := HX.out; omega), List.take_of_length_le (by have := HY.out; omega)] at h1
        rw [h1]; simp
      subst hRR
      go_wp2
      go_ret
      exact ⟨rfl, hxr⟩
end Go.Proofs.YteecmifjbeojeaaGreatDoor
namespace Go.Proofs.YteecmifjbeojeaaGreatDoor
open Go.RowKit NM
theorem Rd.set_low {base : Nat} {w : World} {A : Option Addr} {cs : List Value} {p : Addr} (v : Value) (h : Rd base w A cs) (hp : p.block < base) : Rd base (w.setCell p v) A cs :=
  h.blocks fun b hb => RowKit.Below.heap_setCell _ _ _ _ (by omega)
/-- An exact value, as it is handed back. -/
def DecOut (w : World) (neg : Bool) (L N : Nat) (ex : Int) (e : Ending) (w' : World) : Prop := ∃ A c X, e = .returned (DecV neg A L c ex) ∧ Rd w.heap.size w' A (i6 X) ∧ X.length = L ∧ AllD X ∧ val X = N ∧ L ≤ c
/-- What Plus keeps in its loops. -/
structure PlusSt (W : World) (L j : Nat) (S : List Nat) (wr : World) : Prop where
  out : Dg .i64 3 W.heap.size wr (some ⟨W.heap.size, 0, none⟩) (L + 1) (List.replicate (j + 1) 0 ++ S)
  len : S.length = L - j
  all : AllD S
  ext : Ext W wr
theorem PlusSt.step {W wr : World} {L j d : Nat} {S : List Nat} (h : PlusSt W L (j + 1) S wr) (hd : d < 10) (hj : j + 1 ≤ L) : PlusSt W L j (d :: S) (wr.setCell ⟨W.heap.size, j + 1, none⟩ (.int .i64 (d : Int))) := by
  refine ⟨?_, by simp [h.len]; omega, AllD.cons hd h.all, h.ext.set _ (Nat.le_refl _)⟩
  have := h.out.set (i := j + 1) (d := d) (by simp; omega)
  rw [Nat.zero_add, List.set_append_left _ _ (by simp)] at this
  have he : (List.replicate (j + 1 + 1) 0).set (j + 1) d = List.replicate (j + 1) 0 ++ [d] := by
    rw [List.replicate_succ', List.set_append_right _ _ (by simp)]; simp
  rw [he, List.append_assoc, List.singleton_append] at this
  exact this
theorem PlusSt.at {W wr : World} {L j : Nat} {S : List Nat} (h : PlusSt W L j S wr) : wr.cell? ⟨W.heap.size, j, none⟩ = some (.int .i64 0) ∧ wr.frozen? ⟨W.heap.size, j, none⟩ = false := by
  obtain ⟨b, off, h1, _, h2, h3⟩ := h.out.at (i := j) (d := 0) (by rw [List.getElem?_append_left (by simp)]; simp [List.getElem?_replicate])
  simp only [Option.some.injEq, Addr.mk.injEq, and_true] at h1
  obtain ⟨rfl, rfl⟩ := h1
  rw [Nat.zero_add] at h2 h3
  exact ⟨h2, h3⟩
theorem PlusSt.drew {W wr : World} {L j : Nat} {S : List Nat} (h : PlusSt W L j S wr) : PlusSt W L j S wr.drew := ⟨h.out, h.len, h.all, h.ext.drew⟩
theorem PlusSt.ext_ {W wr wr' : World} {L j : Nat} {S : List Nat} (h : PlusSt W L j S wr) (hx : Ext wr wr') : PlusSt W L j S wr' := ⟨h.out.ext hx, h.len, h.all, h.ext.trans hx⟩
theorem PlusSt.last {W wr : World} {L : Nat} {S : List Nat} (h : PlusSt W L 0 S wr) (d : Nat) : Dg .i64 3 W.heap.size (wr.setCell ⟨W.heap.size, 0, none⟩ (.int .i64 (d : Int))) (some ⟨W.heap.size, 0, none⟩) (L + 1) (d :: S) := by
  have := h.out.set (i := 0) (d := d) (by simp)
  simpa using this
set_option maxHeartbeats 2000000 in
theorem plus_same (neg : Bool) (A B : Option Addr) (ca cb : Nat) (la lb : List Nat) (ea eb : Int) (e : Int) (ka kb L : Nat) (w : World) (ha : Rd 0 w A (i6 la)) (hb : Rd 0 w B (i6 lb)) (hla : la.length ≤ 1000) (hlb : lb.length ≤ 1000)
    (hka : ea = e + ka) (hkb : eb = e + kb) (hk0 : ka = 0 ∨ kb = 0) (hkk : ka ≤ 10000 ∧ kb ≤ 10000) (he : -1000000 ≤ e ∧ e ≤ 1000000) (hda : AllD la) (hdb : AllD lb) (hL : max (la.length + ka) (lb.length + kb) = L) :
    Calls Tryz.prog 50 #[DecV neg A la.length ca ea, DecV neg B lb.length cb eb] w fun r w' => DecOut w neg (L + 1) (val la * T ka + val lb * T kb) e r w' ∧ Ext w w' := by
  have hlv := fun W h1 h2 => level_any neg neg A B ca cb la lb ea eb e ka kb W h1 h2 hla hlb hka hkb hk0 hkk he hda hdb
  rw [hL] at hlv
  have hLb : L ≤ 11000 := by omega
  have hNa : val la * T ka < T L := by
    rw [← val_zeros]
    exact Nat.lt_of_lt_of_le (val_lt (hda.append (AllD.rep _ _ (by omega)))) (T_mono (by simp; omega))
  have hNb : val lb * T kb < T L := by
    rw [← val_zeros]
    exact Nat.lt_of_lt_of_le (val_lt (hdb.append (AllD.rep _ _ (by omega)))) (T_mono (by simp; omega))
  generalize val la * T ka = Na at *
  generalize val lb * T kb = Nb at *
  have HA := Lib.hid ha
  have HB := Lib.hid hb
  have HNa := Lib.hid hNa
  have HNb := Lib.hid hNb
  clear ha hb hka hkb hk0 hkk hL hNa hNb
  have hmk := make_int (L + 1) (by omega)
  rw [show (((L + 1 : Nat)) : Int) = (L : Int) + 1 by omega] at hmk
  go_enter Tryz.func50, Tryz.ntmps50
  go_upto_region 2 with (go_at_call 124; (with_reducible refine (hlv _ (HA.out.ext (by repeat (first | exact Ext.refl _ | apply Ext.drew | apply Ext.alloc | apply Ext.more_))) (HB.out.ext (by repeat (first | exact Ext.refl _ | apply Ext.drew | apply Ext.alloc | apply Ext.more_)))).mono ?_); rintro r w' ⟨⟨va, vb, rfl, hva, hvb⟩, hx⟩; obtain ⟨os, d, rfl⟩ := hx.more; obtain ⟨Ax, cx, X, rfl, hrx, hnx, hax, hvx, hcx⟩ := hva; obtain ⟨Ay, cy, Y, rfl, hry, hny, hay, hvy, hcy⟩ := hvb)
  refine wp_world fun W hW => ?_
  have c0 : W.cell? ⟨w.heap.size, 0, none⟩ = some (.bool neg) := by rw [hW]; go_simp
  have c1 : W.cell? ⟨w.heap.size + 1, 0, none⟩ = some (.bool neg) := by rw [hW]; go_simp
  have r0 : W.cell? ⟨w.heap.size + 1 + 1, 0, none⟩ = some (.bool false) := by rw [hW]; go_simp
  have r1 : W.cell? ⟨w.heap.size + 1 + 1, 1, none⟩ = some (.slice none 0 0) := by rw [hW]; go_simp
  have r2 : W.cell? ⟨w.heap.size + 1 + 1, 2, none⟩ = some (.int .i64 0) := by rw [hW]; go_simp
  have q0 : W.frozen? ⟨w.heap.size + 1 + 1, 0, none⟩ = false := by rw [hW]; go_simp
  have q1 : W.frozen? ⟨w.heap.size + 1 + 1, 1, none⟩ = false := by rw [hW]; go_simp
  have q2 : W.frozen? ⟨w.heap.size + 1 + 1, 2, none⟩ = false := by rw [hW]; go_simp
  have hz : w.heap.size + 1 + 1 < W.heap.size := by rw [hW]; simp; try omega
  have hz1 : w.heap.size + 1 < W.heap.size := by omega
  have hz0 : w.heap.size < W.heap.size := by omega
  have hxW : Ext w W := by rw [hW]; exact by repeat (first | exact Ext.refl _ | apply Ext.drew | apply Ext.alloc | apply Ext.more_)
  have HX : Hid (Rd 0 W Ax (i6 X)) := by show Rd _ _ _ _; rw [hW]; exact hrx.mono (Nat.zero_le _)
  have HY : Hid (Rd 0 W Ay (i6 Y)) := by show Rd _ _ _ _; rw [hW]; exact hry.mono (Nat.zero_le _)
  clear hW hrx hry hx
  have HS : Hid (PlusSt W L L [] (W.alloc (.cells (madeCells #[.int .i64 0] (L + 1)) 3))) := ⟨by have := made_dg (k := .i64) (ty := 3) (w := W) (L + 1) rfl (Nat.le_refl _); simpa using this, by simp, AllD.nil, (Ext.refl _).alloc _⟩
  have HNX := Lib.hid hnx
  have HNY := Lib.hid hny
  have HVX := Lib.hid hvx
  have HVY := Lib.hid hvy
  clear hnx hny hvx hvy
  go_wp2
  go_loopw [9, 10] (fun a i wr => ∃ (j c : Nat) (S : List Nat), j ≤ L ∧ c ≤ 1 ∧ i = .int .i64 ((j : Int) - 1) ∧ a = .int .i64 (c : Int) ∧ Hid (PlusSt W L j S wr) ∧ Hid (val (X.drop j) + val (Y.drop j) = c * T S.length + val S)) (fun _ i _ => ((intOf i) + 1).toNat)
  case atStart =>
    exact ⟨L, 0, [], Nat.le_refl _, by omega, by go_num, rfl, HS, by show _ = _; rw [List.drop_eq_nil_of_le (by rw [HNX.out]; exact Nat.le_refl _), List.drop_eq_nil_of_le (by rw [HNY.out]; exact Nat.le_refl _)]; simp [val_nil]⟩
  case round =>
    obtain ⟨j, c, S, hj, hc, rfl, rfl, H, HV⟩ := hrel
    have hxr := H.out.ext
    have hsz := hxr.size
    cases j with
    | zero =>
      obtain ⟨o0, o1⟩ := H.out.at
      have c0' := hxr.cell_some c0
      have r0' := hxr.cell_some r0
      have r1' := hxr.cell_some r1
      have r2' := hxr.cell_some r2
      have q0' := (hxr.frozen (p := ⟨w.heap.size + 1 + 1, 0, none⟩) (by show w.heap.size + 1 + 1 < _; omega)).trans q0
      have q1' := (hxr.frozen (p := ⟨w.heap.size + 1 + 1, 1, none⟩) (by show w.heap.size + 1 + 1 < _; omega)).trans q1
      have q2' := (hxr.frozen (p := ⟨w.heap.size + 1 + 1, 2, none⟩) (by show w.heap.size + 1 + 1 < _; omega)).trans q2
      have HLAST := Lib.hid (H.out.last c)
      go_wp2
      refine bodyPost_ret (v := DecV neg (some ⟨W.heap.size, 0, none⟩) (L + 1) (L + 1) e) (by simp [results, Tryz.results50, go_sem, hz, r0', r1', r2']) rfl ⟨⟨_, _, c :: S, rfl, ?_, by have := H.out.len; simp; omega, AllD.cons (by omega) H.out.all, ?_, Nat.le_refl _⟩, ?_⟩
      · exact (((HLAST.out.rd.set_low _ hz).set_low _ hz).set_low _ hz).mono (by omega)
      · rw [val_cons]
        have := HV.out
        rw [List.drop_zero, List.drop_zero, HVX.out, HVY.out] at this
        omega
      · exact (((((hxW.trans hxr).set _ (by show w.heap.size ≤ W.heap.size; omega)).set _ (by show w.heap.size ≤ w.heap.size + 1 + 1; omega)).set _ (by show w.heap.size ≤ w.heap.size + 1 + 1; omega)).set _ (by show w.heap.size ≤ w.heap.size + 1 + 1; omega))
    | succ j =>
      have hjL : j < L := by omega
      obtain ⟨x, hxj⟩ : ∃ x, X[j]? = some x := ⟨X[j]'(by have := HNX.out; omega), by rw [List.getElem?_eq_getElem]⟩
      obtain ⟨y, hyj⟩ : ∃ y, Y[j]? = some y := ⟨Y[j]'(by have := HNY.out; omega), by rw [List.getElem?_eq_getElem]⟩
      obtain ⟨ba, oa, rfl, _, hcx'⟩ := Rd.at_ (HX.out.ext hxr) hxj
      obtain ⟨bb, ob, rfl, _, hcy'⟩ := Rd.at_ (HY.out.ext hxr) hyj
      have hba := lt_of_cell hcx'
      have hbb := lt_of_cell hcy'
      simp only at hba hbb
      have hx10 := hax.at hxj
      have hy10 := hay.at hyj
      have HST := Lib.hid (add_step hxj hyj (by rw [HNX.out, HNY.out]) (by rw [H.out.len, HNX.out]) HV.out)
      obtain ⟨o0, o1⟩ := H.out.at
      have t1 : ((x : Int) + (y : Int) + (c : Int)).tmod 10 = (((x + y + c) % 10 : Nat) : Int) := rfl
      have t3 : ((x : Int) + (y : Int) + (c : Int)) % 10 = (((x + y + c) % 10 : Nat) : Int) := rfl
      have t2 : ((x : Int) + (y : Int) + (c : Int)).tdiv 10 = (((x + y + c) / 10 : Nat) : Int) := rfl
      have hd1 : (x + y + c) % 10 < 10 := by omega
      have hd2 : (x + y + c) / 10 ≤ 1 := by omega
      have hji : (((j + 1 : Nat) : Int) - 1) = (j : Int) := by omega
      rw [hji]
      have HSP := Lib.hid (H.out.step hd1 hj)
      clear hxj hyj
      generalize (x + y + c) % 10 = dg at *
      generalize (x + y + c) / 10 = cc at *
      go_wp2
      refine wp_plan (S := Ext _) [(0, 0), (1, 0), (2, 0), (3, 0), (4, 0), (5, 0), (6, 0), (7, 0), (8, 0), (9, 0), (10, 0), (11, 0)] [] (by kernel_rfl) (by kernel_rfl) (by kernel_rfl) (fun _ _ d _ _ h => by cases d <;> exact h) (Ext.drew (Ext.refl _)) ?_
      iterate 12 ((refine wpPl_read (v := ?_) rfl ?_ (fun _ h => ?_) ?_; rotate_left 1; rfl; (obtain ⟨_, _, rfl⟩ := h.more; go_simp; try rfl)); try simp only [Act.put, zqA, zqB, zqC])
      refine wpPl_nil ?_
      go_wp2
      refine ⟨⟨j, cc, dg :: S, by omega, hd2, by go_num, by rw [t2], ?_, ?_⟩, by simp [intOf]⟩
      · exact HSP.out.drew
      · exact HST
set_option maxHeartbeats 2000000 in
theorem plus_diff (na nb : Bool) (A B : Option Addr) (ca cb : Nat) (la lb : List Nat) (ea eb : Int) (e : Int) (ka kb L : Nat) (w : World) (ha : Rd 0 w A (i6 la)) (hb : Rd 0 w B (i6 lb)) (hla : la.length ≤ 1000) (hlb : lb.length ≤ 1000)
    (hka : ea = e + ka) (hkb : eb = e + kb) (hk0 : ka = 0 ∨ kb = 0) (hkk : ka ≤ 10000 ∧ kb ≤ 10000) (he : -1000000 ≤ e ∧ e ≤ 1000000) (hda : AllD la) (hdb : AllD lb) (hne : na ≠ nb) (hL : max (la.length + ka) (lb.length + kb) = L) :
    Calls Tryz.prog 50 #[DecV na A la.length ca ea, DecV nb B lb.length cb eb] w fun r w' => DecOut w (if val la * T ka < val lb * T kb then nb else na) (L + 1) (if val la * T ka < val lb * T kb then val lb * T kb - val la * T ka else val la * T ka - val lb * T kb) e r w' ∧ Ext w w' := by
  have hlv := fun W h1 h2 => level_any na nb A B ca cb la lb ea eb e ka kb W h1 h2 hla hlb hka hkb hk0 hkk he hda hdb
  rw [hL] at hlv
  have hLb : L ≤ 11000 := by omega
  generalize val la * T ka = Na at *
  generalize val lb * T kb = Nb at *
  generalize hNG : (if Na < Nb then nb else na) = NG
  generalize hVV : (if Na < Nb then Nb - Na else Na - Nb) = VV
  have HNG := Lib.hid hNG
  have HVV := Lib.hid hVV
  clear hNG hVV
  have HA := Lib.hid ha
  have HB := Lib.hid hb
  clear ha hb hka hkb hk0 hkk hL
  have hmk := make_int (L + 1) (by omega)
  rw [show (((L + 1 : Nat)) : Int) = (L : Int) + 1 by omega] at hmk
  go_enter Tryz.func50, Tryz.ntmps50
  go_upto_region 2 with (go_at_call 124; (with_reducible refine (hlv _ (HA.out.ext (by repeat (first | exact Ext.refl _ | apply Ext.drew | apply Ext.alloc | apply Ext.more_))) (HB.out.ext (by repeat (first | exact Ext.refl _ | apply Ext.drew | apply Ext.alloc | apply Ext.more_)))).mono ?_); rintro r w' ⟨⟨va, vb, rfl, hva, hvb⟩, hx⟩; obtain ⟨os, d, rfl⟩ := hx.more; obtain ⟨Ax, cx, X, rfl, hrx, hnx, hax, hvx, hcx⟩ := hva; obtain ⟨Ay, cy, Y, rfl, hry, hny, hay, hvy, hcy⟩ := hvb)
  refine wp_world fun W hW => ?_
  have c0 : W.cell? ⟨w.heap.size, 0, none⟩ = some (.bool na) := by rw [hW]; go_simp
  have c1 : W.cell? ⟨w.heap.size + 1, 0, none⟩ = some (.bool nb) := by rw [hW]; go_simp
  have r0 : W.cell? ⟨w.heap.size + 1 + 1, 0, none⟩ = some (.bool false) := by rw [hW]; go_simp
  have r1 : W.cell? ⟨w.heap.size + 1 + 1, 1, none⟩ = some (.slice none 0 0) := by rw [hW]; go_simp
  have r2 : W.cell? ⟨w.heap.size + 1 + 1, 2, none⟩ = some (.int .i64 0) := by rw [hW]; go_simp
  have q0 : W.frozen? ⟨w.heap.size + 1 + 1, 0, none⟩ = false := by rw [hW]; go_simp
  have q1 : W.frozen? ⟨w.heap.size + 1 + 1, 1, none⟩ = false := by rw [hW]; go_simp
  have q2 : W.frozen? ⟨w.heap.size + 1 + 1, 2, none⟩ = false := by rw [hW]; go_simp
  have hz : w.heap.size + 1 + 1 < W.heap.size := by rw [hW]; simp; try omega
  have hz1 : w.heap.size + 1 < W.heap.size := by omega
  have hz0 : w.heap.size < W.heap.size := by omega
  have hxW : Ext w W := by rw [hW]; exact by repeat (first | exact Ext.refl _ | apply Ext.drew | apply Ext.alloc | apply Ext.more_)
  have HX : Hid (Rd 0 W Ax (i6 X)) := by show Rd _ _ _ _; rw [hW]; exact hrx.mono (Nat.zero_le _)
  have HY : Hid (Rd 0 W Ay (i6 Y)) := by show Rd _ _ _ _; rw [hW]; exact hry.mono (Nat.zero_le _)
  clear hW hrx hry hx
  have HS : Hid (PlusSt W L L [] (W.alloc (.cells (madeCells #[.int .i64 0] (L + 1)) 3))) := ⟨by have := made_dg (k := .i64) (ty := 3) (w := W) (L + 1) rfl (Nat.le_refl _); simpa using this, by simp, AllD.nil, (Ext.refl _).alloc _⟩
  have HNX := Lib.hid hnx
  have HNY := Lib.hid hny
  have HVX := Lib.hid hvx
  have HVY := Lib.hid hvy
  clear hnx hny hvx hvy
  have hne' : (na == nb) = false := by simpa using hne
  have hls := fun W' (hx' : Ext W W') => less_any Ax Ay cx cy L X Y W' (HX.out.ext hx') (HY.out.ext hx') HNX.out HNY.out hax hay (by omega)
  go_upto_if 70 with (go_at_call 125; (with_reducible refine (hls _ (by repeat (first | exact Ext.refl _ | apply Ext.drew | apply Ext.alloc | apply Ext.more_))).mono ?_); rintro r w' ⟨rfl, hx⟩; obtain ⟨os2, d2, rfl⟩ := hx.more)
  have HS2 := HS.out.ext_ (ext_more _ os2 d2)
  have HS2 := Lib.hid HS2
  refine wp_world fun W2 hW2 => ?_
  rw [← hW2] at HS2
  clear hW2 HS hls hx
  have hx2 := HS2.out.ext
  have hz2 := hx2.size
  have c1' := hx2.cell_some c1
  go_cut [5, 6, 12] (fun s5 s6 s12 wx => ∃ (Ap Aq : Option Addr) (cp cq : Nat) (P Q : List Nat) (n : Bool), s5 = .slice Ap L cp ∧ s6 = .slice Aq L cq ∧ s12 = .bool n ∧ wx = W2 ∧ Hid (Rd 0 W Ap (i6 P)) ∧ Hid (Rd 0 W Aq (i6 Q)) ∧ Hid (P.length = L) ∧ Hid (Q.length = L) ∧ AllD P ∧ AllD Q ∧ L ≤ cp ∧ L ≤ cq ∧ Hid (val Q ≤ val P ∧ n = NG ∧ val P - val Q = VV))
  case first =>
    by_cases hlt : val X < val Y
    · have e1 : decide (val X < val Y) = true := by simp [hlt]
      have hN : Na < Nb := by rw [← HVX.out, ← HVY.out]; exact hlt
      have HN := Lib.hid hN
      have HLT := Lib.hid hlt
      clear hlt hN
      go_wp2
      go_meet
      exact ⟨Ay, Ax, cy, cx, Y, X, nb, rfl, rfl, rfl, rfl, HY, HX, HNY, HNX, hay, hax, hcy, hcx, Nat.le_of_lt HLT.out, by rw [← HNG.out, if_pos HN.out], by rw [← HVV.out, if_pos HN.out, HVX.out, HVY.out]⟩
    · have e1 : decide (val X < val Y) = false := by simp [hlt]
      have hN : ¬ Na < Nb := by rw [← HVX.out, ← HVY.out]; exact hlt
      have HN := Lib.hid hN
      have HLT := Lib.hid hlt
      clear hlt hN
      go_wp2
      go_meet
      exact ⟨Ax, Ay, cx, cy, X, Y, na, rfl, rfl, rfl, rfl, HX, HY, HNX, HNY, hax, hay, hcx, hcy, Nat.le_of_not_lt HLT.out, by rw [← HNG.out, if_neg HN.out], by rw [← HVV.out, if_neg HN.out, HVX.out, HVY.out]⟩
  case rest =>
  clear HX HY HNX HNY HVX HVY hax hay hcx hcy c1'
  obtain ⟨Ap, Aq, cp, cq, X, Y, n, rfl, rfl, rfl, rfl, HX, HY, HNX, HNY, hax, hay, hcx, hcy, HFIN⟩ := hcut
  go_wp2
  go_loopw [13, 14] (fun a i wr => ∃ (j c : Nat) (S : List Nat), j ≤ L ∧ c ≤ 1 ∧ i = .int .i64 ((j : Int) - 1) ∧ a = .int .i64 (c : Int) ∧ Hid (PlusSt W L j S wr) ∧ Hid (val (X.drop j) + c * T S.length = val (Y.drop j) + val S)) (fun _ i _ => ((intOf i) + 1).toNat)
  case atStart =>
    exact ⟨L, 0, [], Nat.le_refl _, by omega, by go_num, rfl, HS2, by show _ = _; rw [List.drop_eq_nil_of_le (by rw [HNX.out]; exact Nat.le_refl _), List.drop_eq_nil_of_le (by rw [HNY.out]; exact Nat.le_refl _)]; simp [val_nil]⟩
  case round =>
    obtain ⟨j, c, S, hj, hc, rfl, rfl, H, HV⟩ := hrel
    have hxr := H.out.ext
    have hsz := hxr.size
    cases j with
    | zero =>
      have r0' := hxr.cell_some r0
      have r1' := hxr.cell_some r1
      have r2' := hxr.cell_some r2
      have q0' := (hxr.frozen (p := ⟨w.heap.size + 1 + 1, 0, none⟩) (by show w.heap.size + 1 + 1 < _; omega)).trans q0
      have q1' := (hxr.frozen (p := ⟨w.heap.size + 1 + 1, 1, none⟩) (by show w.heap.size + 1 + 1 < _; omega)).trans q1
      have q2' := (hxr.frozen (p := ⟨w.heap.size + 1 + 1, 2, none⟩) (by show w.heap.size + 1 + 1 < _; omega)).trans q2
      have hz' : w.heap.size + 1 + 1 < wr.heap.size := by omega
      go_wp2
      obtain ⟨f1, f2, f3⟩ := HFIN.out
      refine bodyPost_ret (v := DecV n (some ⟨W.heap.size, 0, none⟩) (L + 1) (L + 1) e) (by simp [results, Tryz.results50, go_sem, hz', r0', r1', r2']) rfl ⟨⟨_, _, 0 :: S, by rw [f2], ?_, by have := H.out.len; simp; omega, AllD.cons (by omega) H.out.all, ?_, Nat.le_refl _⟩, ?_⟩
      · have hrd := H.out.out.rd
        exact (((hrd.set_low _ hz).set_low _ hz).set_low _ hz).mono (by omega)
      · rw [← f3, val_cons]
        have h1 := HV.out
        rw [List.drop_zero, List.drop_zero] at h1
        have hS := val_lt H.out.all
        have hc0 : c = 0 := by
          rcases Nat.eq_zero_or_pos c with h0 | h0
          · exact h0
          · exfalso
            have h2 := Nat.mul_le_mul_right (T S.length) h0
            rw [Nat.one_mul] at h2
            omega
        rw [hc0] at h1
        omega
      · exact ((((hxW.trans hxr).set _ (by show w.heap.size ≤ w.heap.size + 1 + 1; omega)).set _ (by show w.heap.size ≤ w.heap.size + 1 + 1; omega)).set _ (by show w.heap.size ≤ w.heap.size + 1 + 1; omega))
    | succ j =>
      have hjL : j < L := by omega
      obtain ⟨x, hxj⟩ : ∃ x, X[j]? = some x := ⟨X[j]'(by have := HNX.out; omega), by rw [List.getElem?_eq_getElem]⟩
      obtain ⟨y, hyj⟩ : ∃ y, Y[j]? = some y := ⟨Y[j]'(by have := HNY.out; omega), by rw [List.getElem?_eq_getElem]⟩
      obtain ⟨ba, oa, rfl, _, hcx'⟩ := Rd.at_ (HX.out.ext hxr) hxj
      obtain ⟨bb, ob, rfl, _, hcy'⟩ := Rd.at_ (HY.out.ext hxr) hyj
      have hba := lt_of_cell hcx'
      have hbb := lt_of_cell hcy'
      simp only at hba hbb
      have hx10 := hax.at hxj
      have hy10 := hay.at hyj
      have HST := Lib.hid (fun d c' => sub_step (d := d) (c' := c') hxj hyj (by rw [HNX.out, HNY.out]) (by rw [H.out.len, HNX.out]) HV.out)
      obtain ⟨o0, o1⟩ := H.out.at
      have hji : (((j + 1 : Nat) : Int) - 1) = (j : Int) := by omega
      rw [hji]
      have HSP := Lib.hid (fun d (hd1 : d < 10) => H.out.step hd1 hj)
      clear hxj hyj
      by_cases hneg : x < y + c
      · have e1 : (x : Int) - (y : Int) - (c : Int) < 0 := by omega
        have e2 : (x : Int) - (y : Int) - (c : Int) + 10 = ((x + 10 - y - c : Nat) : Int) := by omega
        go_wp2
        refine wp_plan (S := Ext _) [(0, 0), (1, 0), (2, 0), (3, 0), (4, 0), (5, 0), (6, 0), (7, 0), (8, 0), (9, 0), (10, 0), (11, 0)] [] (by kernel_rfl) (by kernel_rfl) (by kernel_rfl) (fun _ _ d _ _ h => by cases d <;> exact h) (Ext.drew (Ext.refl _)) ?_
        iterate 12 ((refine wpPl_read (v := ?_) rfl ?_ (fun _ h => ?_) ?_; rotate_left 1; rfl; (obtain ⟨_, _, rfl⟩ := h.more; go_simp; try rfl)); try simp only [Act.put, zqA, zqB, zqC])
        refine wpPl_nil ?_
        go_wp2
        refine ⟨⟨j, 1, (x + 10 - y - c) :: S, by omega, by omega, by go_num, rfl, ?_, HST.out _ _ (by omega)⟩, by simp [intOf]⟩
        have := (HSP.out (x + 10 - y - c) (by omega)).drew
        exact this
      · have e1 : ¬ (x : Int) - (y : Int) - (c : Int) < 0 := by omega
        have e2 : (x : Int) - (y : Int) - (c : Int) = ((x - y - c : Nat) : Int) := by omega
        go_wp2
        refine wp_plan (S := Ext _) [(0, 0), (1, 0), (2, 0), (3, 0), (4, 0), (5, 0), (6, 0), (7, 0), (8, 0), (9, 0), (10, 0), (11, 0)] [] (by kernel_rfl) (by kernel_rfl) (by kernel_rfl) (fun _ _ d _ _ h => by cases d <;> exact h) (Ext.drew (Ext.refl _)) ?_
        iterate 12 ((refine wpPl_read (v := ?_) rfl ?_ (fun _ h => ?_) ?_; rotate_left 1; rfl; (obtain ⟨_, _, rfl⟩ := h.more; go_simp; try rfl)); try simp only [Act.put, zqA, zqB, zqC])
        refine wpPl_nil ?_
        go_wp2
        refine ⟨⟨j, 0, (x - y - c) :: S, by omega, by omega, by go_num, rfl, ?_, HST.out _ _ (by omega)⟩, by simp [intOf]⟩
        have := (HSP.out (x - y - c) (by omega)).drew
        exact this
theorem plus_any (na nb : Bool) (A B : Option Addr) (ca cb : Nat) (la lb : List Nat) (ea eb : Int) (e : Int) (ka kb L : Nat) (w : World) (ha : Rd 0 w A (i6 la)) (hb : Rd 0 w B (i6 lb)) (hla : la.length ≤ 1000) (hlb : lb.length ≤ 1000)
    (hka : ea = e + ka) (hkb : eb = e + kb) (hk0 : ka = 0 ∨ kb = 0) (hkk : ka ≤ 10000 ∧ kb ≤ 10000) (he : -1000000 ≤ e ∧ e ≤ 1000000) (hda : AllD la) (hdb : AllD lb) (hL : max (la.length + ka) (lb.length + kb) = L) :
    Calls Tryz.prog 50 #[DecV na A la.length ca ea, DecV nb B lb.length cb eb] w fun r w' => DecOut w (plusN na nb (val la * T ka) (val lb * T kb)).1 (L + 1) (plusN na nb (val la * T ka) (val lb * T kb)).2 e r w' ∧ Ext w w' := by
  unfold plusN
  by_cases h : na = nb
  · rw [if_pos h]
    subst h
    exact plus_same na A B ca cb la lb ea eb e ka kb L w ha hb hla hlb hka hkb hk0 hkk he hda hdb hL
  · rw [if_neg h]
    have := plus_diff na nb A B ca cb la lb ea eb e ka kb L w ha hb hla hlb hka hkb hk0 hkk he hda hdb h hL
    split
    · rename_i hlt; rw [if_pos hlt, if_pos hlt] at this; exact this
    · rename_i hlt; rw [if_neg hlt, if_neg hlt] at this; exact this
end Go.Proofs.YteecmifjbeojeaaGreatDoor
namespace Go.Proofs.YteecmifjbeojeaaGreatDoor
open Go.RowKit NM
/-- The document's Right, in the same words. -/
theorem rright_rt (m ex : Int) (w : World) (h : I64 m) :
    Calls Tryz.prog 21 #[NV m ex] w fun e w' => e = .returned (.bool (rtB m ex)) ∧ Ext w w' := by
  have := refNumRight_any m ex w h
  rw [← numRight_eq m ex h, numRight_Rt] at this
  exact this
end Go.Proofs.YteecmifjbeojeaaGreatDoor
namespace Go.Proofs.YteecmifjbeojeaaGreatDoor
open Go.RowKit NM
/-- A number's exact value, in Nat digits. -/
theorem rof_any (m ex : Int) (w : World) (h : I64 m) :
    Calls Tryz.prog 43 #[NV m ex] w fun e w' => ∃ A c, e = .returned (DecV (decide (m < 0)) A (nd m.natAbs) c ex) ∧ Rd w.heap.size w' A (i6 (dig m.natAbs)) ∧ nd m.natAbs ≤ c ∧ Ext w w' := by
  have hl : (digsI m).length = nd m.natAbs := by unfold digsI; rw [List.length_map, digs_dig, dig_length]
  refine (refOf_any m ex w h).mono fun e w' ⟨A, c, h1, h2, h3, h4⟩ => ⟨A, c, ?_, h2.i6_, by omega, h3⟩
  rw [← hl]; exact h1
end Go.Proofs.YteecmifjbeojeaaGreatDoor
namespace Go.Proofs.YteecmifjbeojeaaGreatDoor
open Go.RowKit NM
set_option maxHeartbeats 2000000 in
theorem radd_no (ma ea mb eb : Int) (w : World) (hma : I64 ma) (hmb : I64 mb) (h : ¬ (Rt ma ea ∧ Rt mb eb)) :
    Calls Tryz.prog 46 #[NV ma ea, NV mb eb] w fun e w' => e = .returned (rnV none) ∧ Ext w w' := by
  by_cases h1 : Rt ma ea
  · have r1 := rtB_yes h1
    have r2 := rtB_no (fun h2 => h ⟨h1, h2⟩)
    clear h h1
    go_enter Tryz.func46, Tryz.ntmps46
    go_wp2_with (go_at_call 21; (with_reducible refine (rright_rt _ _ _ (by assumption)).mono ?_); rintro e w' ⟨rfl, hbr⟩; obtain ⟨osr, dr, rfl⟩ := hbr.more)
    exact bodyPost_ret (v := .tuple #[NV 0 0, .bool false]) (by simp [results, Tryz.results46, go_sem]) rfl ⟨rfl, by with_reducible repeat (first | exact Ext.refl _ | apply Ext.drew | apply Ext.alloc | apply Ext.more_)⟩
  · have r1 := rtB_no h1
    clear h h1
    go_enter Tryz.func46, Tryz.ntmps46
    go_wp2_with (go_at_call 21; (with_reducible refine (rright_rt _ _ _ (by assumption)).mono ?_); rintro e w' ⟨rfl, hbr⟩; obtain ⟨osr, dr, rfl⟩ := hbr.more)
    exact bodyPost_ret (v := .tuple #[NV 0 0, .bool false]) (by simp [results, Tryz.results46, go_sem]) rfl ⟨rfl, by with_reducible repeat (first | exact Ext.refl _ | apply Ext.drew | apply Ext.alloc | apply Ext.more_)⟩
/-- Plus of the exact values of two right numbers. -/
theorem plus_of (ma ea mb eb : Int) (h1 : Rt ma ea) (h2 : Rt mb eb) (A B : Option Addr) (ca cb : Nat) (w : World) (ha : Rd 0 w A (i6 (dig ma.natAbs))) (hb : Rd 0 w B (i6 (dig mb.natAbs))) :
    Calls Tryz.prog 50 #[DecV (decide (ma < 0)) A (nd ma.natAbs) ca ea, DecV (decide (mb < 0)) B (nd mb.natAbs) cb eb] w fun r w' => DecOut w (plusN (decide (ma < 0)) (decide (mb < 0)) (ma.natAbs * T (ea - min ea eb).toNat) (mb.natAbs * T (eb - min ea eb).toNat)).1 (max (nd ma.natAbs + (ea - min ea eb).toNat) (nd mb.natAbs + (eb - min ea eb).toNat) + 1) (plusN (decide (ma < 0)) (decide (mb < 0)) (ma.natAbs * T (ea - min ea eb).toNat) (mb.natAbs * T (eb - min ea eb).toNat)).2 (min ea eb) r w' ∧ Ext w w' := by
  obtain ⟨b1, b2, b3⟩ := Rt_bd h1
  obtain ⟨b4, b5, b6⟩ := Rt_bd h2
  have hT15 : T 15 = 1000000000000000 := by decide
  have n1 : nd ma.natAbs ≤ 15 := (nd_le_iff _ _).2 (by omega)
  have n2 : nd mb.natAbs ≤ 15 := (nd_le_iff _ _).2 (by omega)
  have := plus_any (decide (ma < 0)) (decide (mb < 0)) A B ca cb (dig ma.natAbs) (dig mb.natAbs) ea eb (min ea eb) (ea - min ea eb).toNat (eb - min ea eb).toNat _ w ha hb (by rw [dig_length]; omega) (by rw [dig_length]; omega) (by omega) (by omega) (by omega) (by omega) (by omega) (dig_all _) (dig_all _) rfl
  rw [val_dig, val_dig, dig_length, dig_length] at this
  exact this
set_option maxHeartbeats 2000000 in
theorem radd_yes (ma ea mb eb : Int) (w : World) (h1 : Rt ma ea) (h2 : Rt mb eb) :
    Calls Tryz.prog 46 #[NV ma ea, NV mb eb] w fun e w' => e = .returned (rnV (rndI (sumI ma ea mb eb) (min ea eb))) ∧ Ext w w' := by
  obtain ⟨b1, b2, b3⟩ := Rt_bd h1
  obtain ⟨b4, b5, b6⟩ := Rt_bd h2
  have hma : I64 ma := by unfold I64; omega
  have hmb : I64 mb := by unfold I64; omega
  have r1 := rtB_yes h1
  have r2 := rtB_yes h2
  have hT15 : T 15 = 1000000000000000 := by decide
  have n1 : nd ma.natAbs ≤ 15 := (nd_le_iff _ _).2 (by omega)
  have n2 : nd mb.natAbs ≤ 15 := (nd_le_iff _ _).2 (by omega)
  have hof1 := fun W => rof_any ma ea W hma
  have hof2 := fun W => rof_any mb eb W hmb
  have hpl := fun A B ca cb W h3 h4 => plus_of ma ea mb eb h1 h2 A B ca cb W h3 h4
  have hL : max (nd ma.natAbs + (ea - min ea eb).toNat) (nd mb.natAbs + (eb - min ea eb).toNat) + 1 ≤ 1000 := by omega
  have hE : -1000000 ≤ min ea eb ∧ min ea eb ≤ 1000000 := by omega
  rw [← rnd_plus]
  generalize max (nd ma.natAbs + (ea - min ea eb).toNat) (nd mb.natAbs + (eb - min ea eb).toNat) + 1 = L at *
  generalize plusN (decide (ma < 0)) (decide (mb < 0)) (ma.natAbs * T (ea - min ea eb).toNat) (mb.natAbs * T (eb - min ea eb).toNat) = PN at *
  generalize min ea eb = E at *
  have hnr := fun (A : Option Addr) (cap : Nat) (l : List Nat) (W : World) (a1 : l.length = L) (a2 : Rd 0 W A (i6 l)) (a3 : L ≤ cap) (a4 : AllD l) (a5 : val l = PN.2) => near_any 0 PN.1 A L cap l PN.2 E false W a1 a2 a3 hL a4 a5 hE (Nat.zero_le _)
  generalize rnd PN.1 PN.2 false E = R at *
  clear h1 h2 n1 n2 hT15
  generalize ma.natAbs = Na at *
  generalize mb.natAbs = Nb at *
  go_enter Tryz.func46, Tryz.ntmps46
  go_wp2_with (go_at_call 21; (with_reducible refine (rright_rt _ _ _ (by assumption)).mono ?_); rintro e w' ⟨rfl, hbr⟩; obtain ⟨osr, dr, rfl⟩ := hbr.more)
  refine wp_plan (S := Ext _) [(0, 0), (2, 0), (1, 1), (3, 1), (4, 1), (5, 1), (6, 0), (7, 0), (8, 2), (9, 2)] [8, 9] (by kernel_rfl) (by kernel_rfl) (by kernel_rfl) (fun _ _ d _ _ h => by cases d <;> exact h) (Ext.drew (Ext.refl _)) ?_
  iterate 2 ((refine wpPl_read (v := ?_) rfl ?_ (fun _ h => ?_) ?_; rotate_left 1; rfl; (obtain ⟨_, _, rfl⟩ := h.more; go_simp; try rfl)); try simp only [Act.put, zqA, zqB, zqC])
  (refine wpPl_eff rfl ?_ (fun K hK => ?_); rfl; go_simp; (go_at_call 43; (with_reducible refine (hof1 _).mono ?_); rintro e w' ⟨A1, c1, rfl, hrd1, hcp1, hx⟩; obtain ⟨os1, d1, rfl⟩ := hx.more; have hrd1 := hrd1.mono (Nat.zero_le _); (try simp only [more_more, more_drew, drew_more, Array.append_assoc] at hrd1)); refine hK _ _ ?_ ?_; (repeat (first | (with_reducible (first | exact Ext.refl _ | exact ext_d _ _ _ _ | exact ext_app _ _ _ _ _ | exact ext_app2 _ _ _ _ _ _ | exact ext_app3 _ _ _ _ _ _ _ | exact ext_app4 _ _ _ _ _ _ _ _ | exact ext_app5 _ _ _ _ _ _ _ _ _)) | ((with_reducible refine ext_suffix ⟨_, ?_⟩); (try simp only [Array.append_assoc]); rfl) | (with_reducible (first | apply Ext.drew | apply Ext.alloc | apply Ext.more_)) | apply Ext.drew | apply Ext.alloc | apply Ext.more_)))
  try simp only [Act.put, zqA, zqB, zqC]
  (refine wpPl_eff rfl ?_ (fun K hK => ?_); rfl; go_simp; (go_at_call 43; (with_reducible refine (hof2 _).mono ?_); rintro e w' ⟨A2, c2, rfl, hrd2, hcp2, hx⟩; obtain ⟨os2, d2, rfl⟩ := hx.more; have hrd2 := hrd2.mono (Nat.zero_le _); (try simp only [more_more, more_drew, drew_more, Array.append_assoc] at hrd2)); refine hK _ _ ?_ ?_; (repeat (first | (with_reducible (first | exact Ext.refl _ | exact ext_d _ _ _ _ | exact ext_app _ _ _ _ _ | exact ext_app2 _ _ _ _ _ _ | exact ext_app3 _ _ _ _ _ _ _ | exact ext_app4 _ _ _ _ _ _ _ _ | exact ext_app5 _ _ _ _ _ _ _ _ _)) | ((with_reducible refine ext_suffix ⟨_, ?_⟩); (try simp only [Array.append_assoc]); rfl) | (with_reducible (first | apply Ext.drew | apply Ext.alloc | apply Ext.more_)) | apply Ext.drew | apply Ext.alloc | apply Ext.more_)))
  try simp only [Act.put, zqA, zqB, zqC]
  (refine wpPl_eff rfl ?_ (fun K hK => ?_); rfl; go_simp; (go_at_call 50; (with_reducible refine (hpl _ _ _ _ _ (Rd.ext hrd1 (by (try simp only [more_more, more_drew, drew_more, Array.append_assoc]); repeat (first | (with_reducible (first | exact Ext.refl _ | exact ext_d _ _ _ _ | exact ext_app _ _ _ _ _ | exact ext_app2 _ _ _ _ _ _ | exact ext_app3 _ _ _ _ _ _ _)) | ((with_reducible refine ext_suffix ⟨_, ?_⟩); (try simp only [Array.append_assoc]); rfl) | (with_reducible (first | apply Ext.drew | apply Ext.alloc | apply Ext.more_))))) (Rd.ext hrd2 (by (try simp only [more_more, more_drew, drew_more, Array.append_assoc]); repeat (first | (with_reducible (first | exact Ext.refl _ | exact ext_d _ _ _ _ | exact ext_app _ _ _ _ _ | exact ext_app2 _ _ _ _ _ _ | exact ext_app3 _ _ _ _ _ _ _)) | ((with_reducible refine ext_suffix ⟨_, ?_⟩); (try simp only [Array.append_assoc]); rfl) | (with_reducible (first | apply Ext.drew | apply Ext.alloc | apply Ext.more_)))))).mono ?_); rintro e w' ⟨⟨A3, c3, X3, rfl, hrx3, hn3, ha3, hv3, hc3⟩, hx⟩; obtain ⟨os3, d3, rfl⟩ := hx.more; (try simp only [more_more, more_drew, drew_more, Array.append_assoc] at hrx3)); refine hK _ _ ?_ ?_; (repeat (first | (with_reducible (first | exact Ext.refl _ | exact ext_d _ _ _ _ | exact ext_app _ _ _ _ _ | exact ext_app2 _ _ _ _ _ _ | exact ext_app3 _ _ _ _ _ _ _ | exact ext_app4 _ _ _ _ _ _ _ _ | exact ext_app5 _ _ _ _ _ _ _ _ _)) | ((with_reducible refine ext_suffix ⟨_, ?_⟩); (try simp only [Array.append_assoc]); rfl) | (with_reducible (first | apply Ext.drew | apply Ext.alloc | apply Ext.more_)) | apply Ext.drew | apply Ext.alloc | apply Ext.more_)))
  try simp only [Act.put, zqA, zqB, zqC]
  (refine wpPl_eff rfl ?_ (fun K hK => ?_); rfl; go_simp; (go_at_call 44; (with_reducible refine (hnr _ _ _ _ hn3 (Rd.mono hrx3 (Nat.zero_le _)) hc3 ha3 hv3).mono ?_); rintro e w' ⟨rfl, hx⟩; obtain ⟨os4, d4, rfl⟩ := hx.more); refine hK _ _ ?_ ?_; (repeat (first | (with_reducible (first | exact Ext.refl _ | exact ext_d _ _ _ _ | exact ext_app _ _ _ _ _ | exact ext_app2 _ _ _ _ _ _ | exact ext_app3 _ _ _ _ _ _ _ | exact ext_app4 _ _ _ _ _ _ _ _ | exact ext_app5 _ _ _ _ _ _ _ _ _)) | ((with_reducible refine ext_suffix ⟨_, ?_⟩); (try simp only [Array.append_assoc]); rfl) | (with_reducible (first | apply Ext.drew | apply Ext.alloc | apply Ext.more_)) | apply Ext.drew | apply Ext.alloc | apply Ext.more_)))
  try simp only [Act.put, zqA, zqB, zqC]
  iterate 2 ((refine wpPl_read (v := ?_) rfl ?_ (fun _ h => ?_) ?_; rotate_left 1; rfl; (obtain ⟨_, _, rfl⟩ := h.more; go_simp; try rfl)); try simp only [Act.put, zqA, zqB, zqC])
  (refine wpPl_tail rfl ?_ (fun K hK => ?_); rfl; go_simp; refine hK _ _ ?_)
  try simp only [Act.put]
  (refine wpPl_tail rfl ?_ (fun K hK => ?_); rfl; go_simp; refine hK _ _ ?_)
  try simp only [Act.put, zqA, zqB, zqC]
  refine wpPl_nil ?_
  go_wp2
  exact bodyPost_ret (v := rnV R) (by simp [results, Tryz.results46, go_sem]) rfl ⟨rfl, by with_reducible repeat (first | exact Ext.refl _ | apply Ext.drew | apply Ext.alloc | apply Ext.more_)⟩
theorem radd_any (ma ea mb eb : Int) (w : World) (hma : I64 ma) (hmb : I64 mb) :
    Calls Tryz.prog 46 #[NV ma ea, NV mb eb] w fun e w' => e = .returned (rnV (addS ma ea mb eb)) ∧ Ext w w' := by
  unfold addS
  split
  · rename_i h; exact radd_yes ma ea mb eb w h.1 h.2
  · rename_i h; exact radd_no ma ea mb eb w hma hmb h
set_option maxHeartbeats 1000000 in
theorem rneg_any (m ex : Int) (w : World) (hm : I64 m) :
    Calls Tryz.prog 47 #[NV m ex] w fun e w' => e = .returned (NV (negM m ex) (zeroE m ex)) ∧ Ext w w' := by
  unfold negM zeroE
  by_cases h : Rt m ex
  · have hb := Rt_bd h
    have r1 := rtB_yes h
    rw [if_pos h, if_pos h]
    clear h
    have w1 : wrap64 (-m) = -m := IntWalk.wrap64_in _ (by omega)
    go_enter Tryz.func47, Tryz.ntmps47
    go_wp2_with (go_at_call 21; (with_reducible refine (rright_rt _ _ _ (by assumption)).mono ?_); rintro e w' ⟨rfl, hbr⟩; obtain ⟨osr, dr, rfl⟩ := hbr.more)
    exact bodyPost_ret (v := NV (-m) ex) (by simp [results, Tryz.results47, go_sem]) rfl ⟨rfl, by with_reducible repeat (first | exact Ext.refl _ | apply Ext.drew | apply Ext.alloc | apply Ext.more_)⟩
  · have r1 := rtB_no h
    rw [if_neg h, if_neg h]
    clear h
    go_enter Tryz.func47, Tryz.ntmps47
    go_wp2_with (go_at_call 21; (with_reducible refine (rright_rt _ _ _ (by assumption)).mono ?_); rintro e w' ⟨rfl, hbr⟩; obtain ⟨osr, dr, rfl⟩ := hbr.more)
    exact bodyPost_ret (v := NV 0 0) (by simp [results, Tryz.results47, go_sem]) rfl ⟨rfl, by with_reducible repeat (first | exact Ext.refl _ | apply Ext.drew | apply Ext.alloc | apply Ext.more_)⟩
set_option maxHeartbeats 2000000 in
theorem rsub_any (ma ea mb eb : Int) (w : World) (hma : I64 ma) (hmb : I64 mb) :
    Calls Tryz.prog 23 #[NV ma ea, NV mb eb] w fun e w' => e = .returned (rnV (subS ma ea mb eb)) ∧ Ext w w' := by
  by_cases h1 : Rt ma ea
  · have r1 := rtB_yes h1
    by_cases h2 : Rt mb eb
    · have r2 := rtB_yes h2
      have hb := Rt_bd h2
      have hng := fun W => rneg_any mb eb W hmb
      rw [(neg_yes h2).1, (neg_yes h2).2] at hng
      have had := fun W => radd_any ma ea (-mb) eb W hma (by unfold I64; omega)
      have hs : addS ma ea (-mb) eb = subS ma ea mb eb := by unfold addS subS; rw [if_pos ⟨h1, Rt_neg h2⟩, if_pos ⟨h1, h2⟩]
      rw [hs] at had
      generalize subS ma ea mb eb = R at *
      clear h1 h2 hs
      go_enter Tryz.func23, Tryz.ntmps23
      go_wp2_with (go_at_call 21; (with_reducible refine (rright_rt _ _ _ (by assumption)).mono ?_); rintro e w' ⟨rfl, hbr⟩; obtain ⟨osr, dr, rfl⟩ := hbr.more)
      refine wp_plan (S := Ext _) [(0, 0), (1, 0), (2, 1), (3, 1), (4, 0), (5, 0), (6, 2), (7, 2)] [6, 7] (by kernel_rfl) (by kernel_rfl) (by kernel_rfl) (fun _ _ d _ _ h => by cases d <;> exact h) (Ext.drew (Ext.refl _)) ?_
      iterate 2 ((refine wpPl_read (v := ?_) rfl ?_ (fun _ h => ?_) ?_; rotate_left 1; rfl; (obtain ⟨_, _, rfl⟩ := h.more; go_simp; try rfl)); try simp only [Act.put, zqA, zqB, zqC])
      (refine wpPl_eff rfl ?_ (fun K hK => ?_); rfl; go_simp; (go_at_call 47; (with_reducible refine (hng _).mono ?_); rintro e w' ⟨rfl, hx⟩; obtain ⟨os4, d4, rfl⟩ := hx.more); refine hK _ _ ?_ ?_; (repeat (first | (with_reducible (first | exact Ext.refl _ | exact ext_d _ _ _ _ | exact ext_app _ _ _ _ _ | exact ext_app2 _ _ _ _ _ _ | exact ext_app3 _ _ _ _ _ _ _ | exact ext_app4 _ _ _ _ _ _ _ _ | exact ext_app5 _ _ _ _ _ _ _ _ _)) | ((with_reducible refine ext_suffix ⟨_, ?_⟩); (try simp only [Array.append_assoc]); rfl) | (with_reducible (first | apply Ext.drew | apply Ext.alloc | apply Ext.more_)) | apply Ext.drew | apply Ext.alloc | apply Ext.more_)))
      try simp only [Act.put, zqA, zqB, zqC]
      (refine wpPl_eff rfl ?_ (fun K hK => ?_); rfl; go_simp; (go_at_call 46; (with_reducible refine (had _).mono ?_); rintro e w' ⟨rfl, hx⟩; obtain ⟨os5, d5, rfl⟩ := hx.more); refine hK _ _ ?_ ?_; (repeat (first | (with_reducible (first | exact Ext.refl _ | exact ext_d _ _ _ _ | exact ext_app _ _ _ _ _ | exact ext_app2 _ _ _ _ _ _ | exact ext_app3 _ _ _ _ _ _ _ | exact ext_app4 _ _ _ _ _ _ _ _ | exact ext_app5 _ _ _ _ _ _ _ _ _)) | ((with_reducible refine ext_suffix ⟨_, ?_⟩); (try simp only [Array.append_assoc]); rfl) | (with_reducible (first | apply Ext.drew | apply Ext.alloc | apply Ext.more_)) | apply Ext.drew | apply Ext.alloc | apply Ext.more_)))
      try simp only [Act.put, zqA, zqB, zqC]
      iterate 2 ((refine wpPl_read (v := ?_) rfl ?_ (fun _ h => ?_) ?_; rotate_left 1; rfl; (obtain ⟨_, _, rfl⟩ := h.more; go_simp; try rfl)); try simp only [Act.put, zqA, zqB, zqC])
      (refine wpPl_tail rfl ?_ (fun K hK => ?_); rfl; go_simp; refine hK _ _ ?_)
      try simp only [Act.put]
      (refine wpPl_tail rfl ?_ (fun K hK => ?_); rfl; go_simp; refine hK _ _ ?_)
      try simp only [Act.put, zqA, zqB, zqC]
      refine wpPl_nil ?_
      go_wp2
      exact bodyPost_ret (v := rnV R) (by simp [results, Tryz.results23, go_sem]) rfl ⟨rfl, by with_reducible repeat (first | exact Ext.refl _ | apply Ext.drew | apply Ext.alloc | apply Ext.more_)⟩
    · have r2 := rtB_no h2
      have hs : subS ma ea mb eb = none := by unfold subS; rw [if_neg (fun h => h2 h.2)]
      rw [hs]
      clear h1 h2 hs
      go_enter Tryz.func23, Tryz.ntmps23
      go_wp2_with (go_at_call 21; (with_reducible refine (rright_rt _ _ _ (by assumption)).mono ?_); rintro e w' ⟨rfl, hbr⟩; obtain ⟨osr, dr, rfl⟩ := hbr.more)
      exact bodyPost_ret (v := .tuple #[NV 0 0, .bool false]) (by simp [results, Tryz.results23, go_sem]) rfl ⟨rfl, by with_reducible repeat (first | exact Ext.refl _ | apply Ext.drew | apply Ext.alloc | apply Ext.more_)⟩
  · have r1 := rtB_no h1
    have hs : subS ma ea mb eb = none := by unfold subS; rw [if_neg (fun h => h1 h.1)]
    rw [hs]
    clear h1 hs
    go_enter Tryz.func23, Tryz.ntmps23
    go_wp2_with (go_at_call 21; (with_reducible refine (rright_rt _ _ _ (by assumption)).mono ?_); rintro e w' ⟨rfl, hbr⟩; obtain ⟨osr, dr, rfl⟩ := hbr.more)
    exact bodyPost_ret (v := .tuple #[NV 0 0, .bool false]) (by simp [results, Tryz.results23, go_sem]) rfl ⟨rfl, by with_reducible repeat (first | exact Ext.refl _ | apply Ext.drew | apply Ext.alloc | apply Ext.more_)⟩
theorem plusN_cmp (na nb : Bool) (Na Nb : Nat) : (sg na Na + sg nb Nb).sign = if (plusN na nb Na Nb).2 = 0 then 0 else if (plusN na nb Na Nb).1 = true then -1 else 1 := by
  rw [← plusN_sg]
  generalize plusN na nb Na Nb = p
  obtain ⟨n, N⟩ := p
  simp only
  by_cases h : N = 0
  · rw [if_pos h, h]; cases n <;> rfl
  · rw [if_neg h]
    have hp : (0 : Int) < (N : Int) := by omega
    cases n with
    | false => simp [sg]; omega
    | true => simp [sg]; omega
set_option maxHeartbeats 4000000 in
theorem rcmp_yes (ma ea mb eb : Int) (w : World) (h1 : Rt ma ea) (h2 : Rt mb eb) :
    Calls Tryz.prog 25 #[NV ma ea, NV mb eb] w fun e w' => e = .returned (.int .i64 (sumI ma ea (-mb) eb).sign) ∧ Ext w w' := by
  obtain ⟨b1, b2, b3⟩ := Rt_bd h1
  obtain ⟨b4, b5, b6⟩ := Rt_bd h2
  have hma : I64 ma := by unfold I64; omega
  have hmb : I64 mb := by unfold I64; omega
  have r1 := rtB_yes h1
  have r2 := rtB_yes h2
  have hng := fun W => rneg_any mb eb W hmb
  rw [(neg_yes h2).1, (neg_yes h2).2] at hng
  have hof1 := fun W => rof_any ma ea W hma
  have hof2 := fun W => rof_any (-mb) eb W (by unfold I64; omega)
  have hpl := fun A B ca cb W h3 h4 => plus_of ma ea (-mb) eb h1 (Rt_neg h2) A B ca cb W h3 h4
  have hT15 : T 15 = 1000000000000000 := by decide
  have n1 : nd ma.natAbs ≤ 15 := (nd_le_iff _ _).2 (by omega)
  have n2 : nd (-mb).natAbs ≤ 15 := (nd_le_iff _ _).2 (by omega)
  have hL : max (nd ma.natAbs + (ea - min ea eb).toNat) (nd (-mb).natAbs + (eb - min ea eb).toNat) + 1 ≤ 1000 := by omega
  have hs : sumI ma ea (-mb) eb = sg (decide (ma < 0)) (ma.natAbs * T (ea - min ea eb).toNat) + sg (decide (-mb < 0)) ((-mb).natAbs * T (eb - min ea eb).toNat) := by
    rw [sg_mul_nat, sg_mul_nat, sg_nat, sg_nat]; rfl
  rw [hs, plusN_cmp]
  generalize max (nd ma.natAbs + (ea - min ea eb).toNat) (nd (-mb).natAbs + (eb - min ea eb).toNat) + 1 = L at *
  generalize plusN (decide (ma < 0)) (decide (-mb < 0)) (ma.natAbs * T (ea - min ea eb).toNat) ((-mb).natAbs * T (eb - min ea eb).toNat) = PN at *
  generalize min ea eb = E at *
  obtain ⟨n, N⟩ := PN
  simp only at hpl ⊢
  have hst := fun (A : Option Addr) (cap : Nat) (l : List Nat) (W : World) (a1 : l.length = L) (a2 : Rd 0 W A (i6 l)) (a3 : L ≤ cap) (a4 : AllD l) (a5 : val l = N) => rstrip_dig 0 A cap L l N W a1 a2 (by omega) a3 a4 a5
  simp only [LOut, dig_length] at hst
  clear h1 h2 n1 n2 hT15 hs
  generalize decide (-mb < 0) = nb at *
  generalize ma.natAbs = Na at *
  generalize (-mb).natAbs = Nb at *
  by_cases h0 : N = 0
  · rw [if_pos h0]
    have hz : nd N = 0 := by rw [h0, nd_zero]
    rw [hz] at hst
    clear h0 hz
    go_enter Tryz.func25, Tryz.ntmps25
    go_wp2_with (go_at_call 21; (with_reducible refine (rright_rt _ _ _ (by assumption)).mono ?_); rintro e w' ⟨rfl, hbr⟩; obtain ⟨osr, dr, rfl⟩ := hbr.more)
    refine wp_plan (S := Ext _) [(0, 0), (2, 0), (1, 1), (3, 1), (4, 1), (5, 1), (6, 0), (7, 1), (8, 0)] [] (by kernel_rfl) (by kernel_rfl) (by kernel_rfl) (fun _ _ d _ _ h => by cases d <;> exact h) (Ext.drew (Ext.refl _)) ?_
    iterate 2 ((refine wpPl_read (v := ?_) rfl ?_ (fun _ h => ?_) ?_; rotate_left 1; rfl; (obtain ⟨_, _, rfl⟩ := h.more; go_simp; try rfl)); try simp only [Act.put, zqA, zqB, zqC])
    (refine wpPl_eff rfl ?_ (fun K hK => ?_); rfl; go_simp; (go_at_call 43; (with_reducible refine (hof1 _).mono ?_); rintro e w' ⟨A1, c1, rfl, hrd1, hcp1, hx⟩; obtain ⟨os1, d1, rfl⟩ := hx.more; have hrd1 := hrd1.mono (Nat.zero_le _); (try simp only [more_more, more_drew, drew_more, Array.append_assoc] at hrd1)); refine hK _ _ ?_ ?_; (repeat (first | (with_reducible (first | exact Ext.refl _ | exact ext_d _ _ _ _ | exact ext_app _ _ _ _ _ | exact ext_app2 _ _ _ _ _ _ | exact ext_app3 _ _ _ _ _ _ _ | exact ext_app4 _ _ _ _ _ _ _ _ | exact ext_app5 _ _ _ _ _ _ _ _ _)) | ((with_reducible refine ext_suffix ⟨_, ?_⟩); (try simp only [Array.append_assoc]); rfl) | (with_reducible (first | apply Ext.drew | apply Ext.alloc | apply Ext.more_)) | apply Ext.drew | apply Ext.alloc | apply Ext.more_)))
    try simp only [Act.put, zqA, zqB, zqC]
    (refine wpPl_eff rfl ?_ (fun K hK => ?_); rfl; go_simp; (go_at_call 47; (with_reducible refine (hng _).mono ?_); rintro e w' ⟨rfl, hx⟩; obtain ⟨osn, dn, rfl⟩ := hx.more); refine hK _ _ ?_ ?_; (repeat (first | (with_reducible (first | exact Ext.refl _ | exact ext_d _ _ _ _ | exact ext_app _ _ _ _ _ | exact ext_app2 _ _ _ _ _ _ | exact ext_app3 _ _ _ _ _ _ _ | exact ext_app4 _ _ _ _ _ _ _ _ | exact ext_app5 _ _ _ _ _ _ _ _ _)) | ((with_reducible refine ext_suffix ⟨_, ?_⟩); (try simp only [Array.append_assoc]); rfl) | (with_reducible (first | apply Ext.drew | apply Ext.alloc | apply Ext.more_)) | apply Ext.drew | apply Ext.alloc | apply Ext.more_)))
    try simp only [Act.put, zqA, zqB, zqC]
    (refine wpPl_eff rfl ?_ (fun K hK => ?_); rfl; go_simp; (go_at_call 43; (with_reducible refine (hof2 _).mono ?_); rintro e w' ⟨A2, c2, rfl, hrd2, hcp2, hx⟩; obtain ⟨os2, d2, rfl⟩ := hx.more; have hrd2 := hrd2.mono (Nat.zero_le _); (try simp only [more_more, more_drew, drew_more, Array.append_assoc] at hrd2)); refine hK _ _ ?_ ?_; (repeat (first | (with_reducible (first | exact Ext.refl _ | exact ext_d _ _ _ _ | exact ext_app _ _ _ _ _ | exact ext_app2 _ _ _ _ _ _ | exact ext_app3 _ _ _ _ _ _ _ | exact ext_app4 _ _ _ _ _ _ _ _ | exact ext_app5 _ _ _ _ _ _ _ _ _)) | ((with_reducible refine ext_suffix ⟨_, ?_⟩); (try simp only [Array.append_assoc]); rfl) | (with_reducible (first | apply Ext.drew | apply Ext.alloc | apply Ext.more_)) | apply Ext.drew | apply Ext.alloc | apply Ext.more_)))
    try simp only [Act.put, zqA, zqB, zqC]
    (refine wpPl_eff rfl ?_ (fun K hK => ?_); rfl; go_simp; (go_at_call 50; (with_reducible refine (hpl _ _ _ _ _ (Rd.ext hrd1 (by (try simp only [more_more, more_drew, drew_more, Array.append_assoc]); repeat (first | (with_reducible (first | exact Ext.refl _ | exact ext_d _ _ _ _ | exact ext_app _ _ _ _ _ | exact ext_app2 _ _ _ _ _ _ | exact ext_app3 _ _ _ _ _ _ _)) | ((with_reducible refine ext_suffix ⟨_, ?_⟩); (try simp only [Array.append_assoc]); rfl) | (with_reducible (first | apply Ext.drew | apply Ext.alloc | apply Ext.more_))))) (Rd.ext hrd2 (by (try simp only [more_more, more_drew, drew_more, Array.append_assoc]); repeat (first | (with_reducible (first | exact Ext.refl _ | exact ext_d _ _ _ _ | exact ext_app _ _ _ _ _ | exact ext_app2 _ _ _ _ _ _ | exact ext_app3 _ _ _ _ _ _ _)) | ((with_reducible refine ext_suffix ⟨_, ?_⟩); (try simp only [Array.append_assoc]); rfl) | (with_reducible (first | apply Ext.drew | apply Ext.alloc | apply Ext.more_)))))).mono ?_); rintro e w' ⟨⟨A3, c3, X3, rfl, hrx3, hn3, ha3, hv3, hc3⟩, hx⟩; obtain ⟨os3, d3, rfl⟩ := hx.more; (try simp only [more_more, more_drew, drew_more, Array.append_assoc] at hrx3)); refine hK _ _ ?_ ?_; (repeat (first | (with_reducible (first | exact Ext.refl _ | exact ext_d _ _ _ _ | exact ext_app _ _ _ _ _ | exact ext_app2 _ _ _ _ _ _ | exact ext_app3 _ _ _ _ _ _ _ | exact ext_app4 _ _ _ _ _ _ _ _ | exact ext_app5 _ _ _ _ _ _ _ _ _)) | ((with_reducible refine ext_suffix ⟨_, ?_⟩); (try simp only [Array.append_assoc]); rfl) | (with_reducible (first | apply Ext.drew | apply Ext.alloc | apply Ext.more_)) | apply Ext.drew | apply Ext.alloc | apply Ext.more_)))
    try simp only [Act.put, zqA, zqB, zqC]
    (refine wpPl_read (v := ?_) rfl ?_ (fun _ h => ?_) ?_; rotate_left 1; rfl; (obtain ⟨_, _, rfl⟩ := h.more; go_simp; try rfl))
    try simp only [Act.put, zqA, zqB, zqC]
    (refine wpPl_eff rfl ?_ (fun K hK => ?_); rfl; go_simp; (go_at_call 49; (with_reducible refine (hst _ _ _ _ hn3 (Rd.mono hrx3 (Nat.zero_le _)) hc3 ha3 hv3).mono ?_); rintro e w' ⟨⟨A4, c4, rfl, _, _⟩, rfl⟩); refine hK _ _ ?_ ?_; (repeat (first | (with_reducible (first | exact Ext.refl _ | exact ext_d _ _ _ _ | exact ext_app _ _ _ _ _ | exact ext_app2 _ _ _ _ _ _ | exact ext_app3 _ _ _ _ _ _ _ | exact ext_app4 _ _ _ _ _ _ _ _ | exact ext_app5 _ _ _ _ _ _ _ _ _)) | ((with_reducible refine ext_suffix ⟨_, ?_⟩); (try simp only [Array.append_assoc]); rfl) | (with_reducible (first | apply Ext.drew | apply Ext.alloc | apply Ext.more_)) | apply Ext.drew | apply Ext.alloc | apply Ext.more_)))
    try simp only [Act.put, zqA, zqB, zqC]
    (refine wpPl_read (v := ?_) rfl ?_ (fun _ h => ?_) ?_; rotate_left 1; rfl; (obtain ⟨_, _, rfl⟩ := h.more; go_simp; try rfl))
    try simp only [Act.put, zqA, zqB, zqC]
    refine wpPl_nil ?_
    go_wp2
    go_ret
    exact ⟨rfl, by with_reducible repeat (first | exact Ext.refl _ | apply Ext.drew | apply Ext.alloc | apply Ext.more_)⟩
  · rw [if_neg h0]
    have hz : (nd N == 0) = false := by rw [nd_pos h0]; simp
    have hz' : ((nd N : Int) == 0) = false := by rw [nd_pos h0]; simp; omega
    generalize nd N = k at *
    generalize hR : (if n = true then (-1 : Int) else 1) = R
    have HR := Lib.hid hR
    clear h0 hR
    go_enter Tryz.func25, Tryz.ntmps25
    go_wp2_with (go_at_call 21; (with_reducible refine (rright_rt _ _ _ (by assumption)).mono ?_); rintro e w' ⟨rfl, hbr⟩; obtain ⟨osr, dr, rfl⟩ := hbr.more)
    refine wp_plan (S := Ext _) [(0, 0), (2, 0), (1, 1), (3, 1), (4, 1), (5, 1), (6, 0), (7, 1), (8, 0)] [] (by kernel_rfl) (by kernel_rfl) (by kernel_rfl) (fun _ _ d _ _ h => by cases d <;> exact h) (Ext.drew (Ext.refl _)) ?_
    iterate 2 ((refine wpPl_read (v := ?_) rfl ?_ (fun _ h => ?_) ?_; rotate_left 1; rfl; (obtain ⟨_, _, rfl⟩ := h.more; go_simp; try rfl)); try simp only [Act.put, zqA, zqB, zqC])
    (refine wpPl_eff rfl ?_ (fun K hK => ?_); rfl; go_simp; (go_at_call 43; (with_reducible refine (hof1 _).mono ?_); rintro e w' ⟨A1, c1, rfl, hrd1, hcp1, hx⟩; obtain ⟨os1, d1, rfl⟩ := hx.more; have hrd1 := hrd1.mono (Nat.zero_le _); (try simp only [more_more, more_drew, drew_more, Array.append_assoc] at hrd1)); refine hK _ _ ?_ ?_; (repeat (first | (with_reducible (first | exact Ext.refl _ | exact ext_d _ _ _ _ | exact ext_app _ _ _ _ _ | exact ext_app2 _ _ _ _ _ _ | exact ext_app3 _ _ _ _ _ _ _ | exact ext_app4 _ _ _ _ _ _ _ _ | exact ext_app5 _ _ _ _ _ _ _ _ _)) | ((with_reducible refine ext_suffix ⟨_, ?_⟩); (try simp only [Array.append_assoc]); rfl) | (with_reducible (first | apply Ext.drew | apply Ext.alloc | apply Ext.more_)) | apply Ext.drew | apply Ext.alloc | apply Ext.more_)))
    try simp only [Act.put, zqA, zqB, zqC]
    (refine wpPl_eff rfl ?_ (fun K hK => ?_); rfl; go_simp; (go_at_call 47; (with_reducible refine (hng _).mono ?_); rintro e w' ⟨rfl, hx⟩; obtain ⟨osn, dn, rfl⟩ := hx.more); refine hK _ _ ?_ ?_; (repeat (first | (with_reducible (first | exact Ext.refl _ | exact ext_d _ _ _ _ | exact ext_app _ _ _ _ _ | exact ext_app2 _ _ _ _ _ _ | exact ext_app3 _ _ _ _ _ _ _ | exact ext_app4 _ _ _ _ _ _ _ _ | exact ext_app5 _ _ _ _ _ _ _ _ _)) | ((with_reducible refine ext_suffix ⟨_, ?_⟩); (try simp only [Array.append_assoc]); rfl) | (with_reducible (first | apply Ext.drew | apply Ext.alloc | apply Ext.more_)) | apply Ext.drew | apply Ext.alloc | apply Ext.more_)))
    try simp only [Act.put, zqA, zqB, zqC]
    (refine wpPl_eff rfl ?_ (fun K hK => ?_); rfl; go_simp; (go_at_call 43; (with_reducible refine (hof2 _).mono ?_); rintro e w' ⟨A2, c2, rfl, hrd2, hcp2, hx⟩; obtain ⟨os2, d2, rfl⟩ := hx.more; have hrd2 := hrd2.mono (Nat.zero_le _); (try simp only [more_more, more_drew, drew_more, Array.append_assoc] at hrd2)); refine hK _ _ ?_ ?_; (repeat (first | (with_reducible (first | exact Ext.refl _ | exact ext_d _ _ _ _ | exact ext_app _ _ _ _ _ | exact ext_app2 _ _ _ _ _ _ | exact ext_app3 _ _ _ _ _ _ _ | exact ext_app4 _ _ _ _ _ _ _ _ | exact ext_app5 _ _ _ _ _ _ _ _ _)) | ((with_reducible refine ext_suffix ⟨_, ?_⟩); (try simp only [Array.append_assoc]); rfl) | (with_reducible (first | apply Ext.drew | apply Ext.alloc | apply Ext.more_)) | apply Ext.drew | apply Ext.alloc | apply Ext.more_)))
    try simp only [Act.put, zqA, zqB, zqC]
    (refine wpPl_eff rfl ?_ (fun K hK => ?_); rfl; go_simp; (go_at_call 50; (with_reducible refine (hpl _ _ _ _ _ (Rd.ext hrd1 (by (try simp only [more_more, more_drew, drew_more, Array.append_assoc]); repeat (first | (with_reducible (first | exact Ext.refl _ | exact ext_d _ _ _ _ | exact ext_app _ _ _ _ _ | exact ext_app2 _ _ _ _ _ _ | exact ext_app3 _ _ _ _ _ _ _)) | ((with_reducible refine ext_suffix ⟨_, ?_⟩); (try simp only [Array.append_assoc]); rfl) | (with_reducible (first | apply Ext.drew | apply Ext.alloc | apply Ext.more_))))) (Rd.ext hrd2 (by (try simp only [more_more, more_drew, drew_more, Array.append_assoc]); repeat (first | (with_reducible (first | exact Ext.refl _ | exact ext_d _ _ _ _ | exact ext_app _ _ _ _ _ | exact ext_app2 _ _ _ _ _ _ | exact ext_app3 _ _ _ _ _ _ _)) | ((with_reducible refine ext_suffix ⟨_, ?_⟩); (try simp only [Array.append_assoc]); rfl) | (with_reducible (first | apply Ext.drew | apply Ext.alloc | apply Ext.more_)))))).mono ?_); rintro e w' ⟨⟨A3, c3, X3, rfl, hrx3, hn3, ha3, hv3, hc3⟩, hx⟩; obtain ⟨os3, d3, rfl⟩ := hx.more; (try simp only [more_more, more_drew, drew_more, Array.append_assoc] at hrx3)); refine hK _ _ ?_ ?_; (repeat (first | (with_reducible (first | exact Ext.refl _ | exact ext_d _ _ _ _ | exact ext_app _ _ _ _ _ | exact ext_app2 _ _ _ _ _ _ | exact ext_app3 _ _ _ _ _ _ _ | exact ext_app4 _ _ _ _ _ _ _ _ | exact ext_app5 _ _ _ _ _ _ _ _ _)) | ((with_reducible refine ext_suffix ⟨_, ?_⟩); (try simp only [Array.append_assoc]); rfl) | (with_reducible (first | apply Ext.drew | apply Ext.alloc | apply Ext.more_)) | apply Ext.drew | apply Ext.alloc | apply Ext.more_)))
    try simp only [Act.put, zqA, zqB, zqC]
    (refine wpPl_read (v := ?_) rfl ?_ (fun _ h => ?_) ?_; rotate_left 1; rfl; (obtain ⟨_, _, rfl⟩ := h.more; go_simp; try rfl))
    try simp only [Act.put, zqA, zqB, zqC]
    (refine wpPl_eff rfl ?_ (fun K hK => ?_); rfl; go_simp; (go_at_call 49; (with_reducible refine (hst _ _ _ _ hn3 (Rd.mono hrx3 (Nat.zero_le _)) hc3 ha3 hv3).mono ?_); rintro e w' ⟨⟨A4, c4, rfl, _, _⟩, rfl⟩); refine hK _ _ ?_ ?_; (repeat (first | (with_reducible (first | exact Ext.refl _ | exact ext_d _ _ _ _ | exact ext_app _ _ _ _ _ | exact ext_app2 _ _ _ _ _ _ | exact ext_app3 _ _ _ _ _ _ _ | exact ext_app4 _ _ _ _ _ _ _ _ | exact ext_app5 _ _ _ _ _ _ _ _ _)) | ((with_reducible refine ext_suffix ⟨_, ?_⟩); (try simp only [Array.append_assoc]); rfl) | (with_reducible (first | apply Ext.drew | apply Ext.alloc | apply Ext.more_)) | apply Ext.drew | apply Ext.alloc | apply Ext.more_)))
    try simp only [Act.put, zqA, zqB, zqC]
    (refine wpPl_read (v := ?_) rfl ?_ (fun _ h => ?_) ?_; rotate_left 1; rfl; (obtain ⟨_, _, rfl⟩ := h.more; go_simp; try rfl))
    try simp only [Act.put, zqA, zqB, zqC]
    refine wpPl_nil ?_
    clear hrd1 hrd2 hrx3 ha3 hv3 hn3 hst
    go_wp2
    refine wp_world fun W hW => ?_
    have c0 : W.cell? ⟨w.heap.size, 0, none⟩ = some (.int .i64 ma) := by rw [hW]; go_simp
    have c1 : W.cell? ⟨w.heap.size, 1, none⟩ = some (.int .i64 ea) := by rw [hW]; go_simp
    have c2 : W.cell? ⟨w.heap.size + 1, 0, none⟩ = some (.int .i64 mb) := by rw [hW]; go_simp
    have c3 : W.cell? ⟨w.heap.size + 1, 1, none⟩ = some (.int .i64 eb) := by rw [hW]; go_simp
    have hz1 : w.heap.size + 1 < W.heap.size := by rw [hW]; simp; try omega
    have hz0 : w.heap.size < W.heap.size := by omega
    have hxW : Ext w W := by rw [hW]; exact by with_reducible repeat (first | exact Ext.refl _ | apply Ext.drew | apply Ext.alloc | apply Ext.more_)
    clear hW
    refine wp_plan (S := Ext _) [(0, 0), (2, 0), (1, 1), (3, 1), (4, 1), (5, 1), (6, 0)] [] (by kernel_rfl) (by kernel_rfl) (by kernel_rfl) (fun _ _ d _ _ h => by cases d <;> exact h) (Ext.drew (Ext.refl _)) ?_
    iterate 2 ((refine wpPl_read (v := ?_) rfl ?_ (fun _ h => ?_) ?_; rotate_left 1; rfl; (obtain ⟨_, _, rfl⟩ := h.more; go_simp; try rfl)); try simp only [Act.put, zqA, zqB, zqC])
    (refine wpPl_eff rfl ?_ (fun K hK => ?_); rfl; go_simp; (go_at_call 43; (with_reducible refine (hof1 _).mono ?_); rintro e w' ⟨A1, c1, rfl, hrd1, hcp1, hx⟩; obtain ⟨os1, d1, rfl⟩ := hx.more; have hrd1 := hrd1.mono (Nat.zero_le _); (try simp only [more_more, more_drew, drew_more, Array.append_assoc] at hrd1)); refine hK _ _ ?_ ?_; (repeat (first | (with_reducible (first | exact Ext.refl _ | exact ext_d _ _ _ _ | exact ext_app _ _ _ _ _ | exact ext_app2 _ _ _ _ _ _ | exact ext_app3 _ _ _ _ _ _ _ | exact ext_app4 _ _ _ _ _ _ _ _ | exact ext_app5 _ _ _ _ _ _ _ _ _)) | ((with_reducible refine ext_suffix ⟨_, ?_⟩); (try simp only [Array.append_assoc]); rfl) | (with_reducible (first | apply Ext.drew | apply Ext.alloc | apply Ext.more_)) | apply Ext.drew | apply Ext.alloc | apply Ext.more_)))
    try simp only [Act.put, zqA, zqB, zqC]
    (refine wpPl_eff rfl ?_ (fun K hK => ?_); rfl; go_simp; (go_at_call 47; (with_reducible refine (hng _).mono ?_); rintro e w' ⟨rfl, hx⟩; obtain ⟨osn, dn, rfl⟩ := hx.more); refine hK _ _ ?_ ?_; (repeat (first | (with_reducible (first | exact Ext.refl _ | exact ext_d _ _ _ _ | exact ext_app _ _ _ _ _ | exact ext_app2 _ _ _ _ _ _ | exact ext_app3 _ _ _ _ _ _ _ | exact ext_app4 _ _ _ _ _ _ _ _ | exact ext_app5 _ _ _ _ _ _ _ _ _)) | ((with_reducible refine ext_suffix ⟨_, ?_⟩); (try simp only [Array.append_assoc]); rfl) | (with_reducible (first | apply Ext.drew | apply Ext.alloc | apply Ext.more_)) | apply Ext.drew | apply Ext.alloc | apply Ext.more_)))
    try simp only [Act.put, zqA, zqB, zqC]
    (refine wpPl_eff rfl ?_ (fun K hK => ?_); rfl; go_simp; (go_at_call 43; (with_reducible refine (hof2 _).mono ?_); rintro e w' ⟨A2, c2, rfl, hrd2, hcp2, hx⟩; obtain ⟨os2, d2, rfl⟩ := hx.more; have hrd2 := hrd2.mono (Nat.zero_le _); (try simp only [more_more, more_drew, drew_more, Array.append_assoc] at hrd2)); refine hK _ _ ?_ ?_; (repeat (first | (with_reducible (first | exact Ext.refl _ | exact ext_d _ _ _ _ | exact ext_app _ _ _ _ _ | exact ext_app2 _ _ _ _ _ _ | exact ext_app3 _ _ _ _ _ _ _ | exact ext_app4 _ _ _ _ _ _ _ _ | exact ext_app5 _ _ _ _ _ _ _ _ _)) | ((with_reducible refine ext_suffix ⟨_, ?_⟩); (try simp only [Array.append_assoc]); rfl) | (with_reducible (first | apply Ext.drew | apply Ext.alloc | apply Ext.more_)) | apply Ext.drew | apply Ext.alloc | apply Ext.more_)))
    try simp only [Act.put, zqA, zqB, zqC]
    (refine wpPl_eff rfl ?_ (fun K hK => ?_); rfl; go_simp; (go_at_call 50; (with_reducible refine (hpl _ _ _ _ _ (Rd.ext hrd1 (by (try simp only [more_more, more_drew, drew_more, Array.append_assoc]); repeat (first | (with_reducible (first | exact Ext.refl _ | exact ext_d _ _ _ _ | exact ext_app _ _ _ _ _ | exact ext_app2 _ _ _ _ _ _ | exact ext_app3 _ _ _ _ _ _ _)) | ((with_reducible refine ext_suffix ⟨_, ?_⟩); (try simp only [Array.append_assoc]); rfl) | (with_reducible (first | apply Ext.drew | apply Ext.alloc | apply Ext.more_))))) (Rd.ext hrd2 (by (try simp only [more_more, more_drew, drew_more, Array.append_assoc]); repeat (first | (with_reducible (first | exact Ext.refl _ | exact ext_d _ _ _ _ | exact ext_app _ _ _ _ _ | exact ext_app2 _ _ _ _ _ _ | exact ext_app3 _ _ _ _ _ _ _)) | ((with_reducible refine ext_suffix ⟨_, ?_⟩); (try simp only [Array.append_assoc]); rfl) | (with_reducible (first | apply Ext.drew | apply Ext.alloc | apply Ext.more_)))))).mono ?_); rintro e w' ⟨⟨A3, c3, X3, rfl, hrx3, hn3, ha3, hv3, hc3⟩, hx⟩; obtain ⟨os3, d3, rfl⟩ := hx.more; (try simp only [more_more, more_drew, drew_more, Array.append_assoc] at hrx3)); refine hK _ _ ?_ ?_; (repeat (first | (with_reducible (first | exact Ext.refl _ | exact ext_d _ _ _ _ | exact ext_app _ _ _ _ _ | exact ext_app2 _ _ _ _ _ _ | exact ext_app3 _ _ _ _ _ _ _ | exact ext_app4 _ _ _ _ _ _ _ _ | exact ext_app5 _ _ _ _ _ _ _ _ _)) | ((with_reducible refine ext_suffix ⟨_, ?_⟩); (try simp only [Array.append_assoc]); rfl) | (with_reducible (first | apply Ext.drew | apply Ext.alloc | apply Ext.more_)) | apply Ext.drew | apply Ext.alloc | apply Ext.more_)))
    try simp only [Act.put, zqA, zqB, zqC]
    (refine wpPl_read (v := ?_) rfl ?_ (fun _ h => ?_) ?_; rotate_left 1; rfl; (obtain ⟨_, _, rfl⟩ := h.more; go_simp; try rfl))
    try simp only [Act.put, zqA, zqB, zqC]
    refine wpPl_nil ?_
    cases n with
    | true =>
      go_wp2
      go_ret
      exact ⟨by rw [← HR.out]; rfl, hxW.trans (by with_reducible repeat (first | exact Ext.refl _ | apply Ext.drew | apply Ext.alloc | apply Ext.more_))⟩
    | false =>
      go_wp2
      go_ret
      exact ⟨by rw [← HR.out]; rfl, hxW.trans (by with_reducible repeat (first | exact Ext.refl _ | apply Ext.drew | apply Ext.alloc | apply Ext.more_))⟩
set_option maxHeartbeats 2000000 in
theorem rcmp_any (ma ea mb eb : Int) (w : World) (hma : I64 ma) (hmb : I64 mb) :
    Calls Tryz.prog 25 #[NV ma ea, NV mb eb] w fun e w' => e = .returned (.int .i64 (cmpS ma ea mb eb)) ∧ Ext w w' := by
  unfold cmpS
  by_cases h1 : Rt ma ea
  · have r1 := rtB_yes h1
    by_cases h2 : Rt mb eb
    · rw [if_pos ⟨h1, h2⟩]; exact rcmp_yes ma ea mb eb w h1 h2
    · have r2 := rtB_no h2
      rw [if_neg (fun h => h2 h.2)]
      clear h1 h2
      go_enter Tryz.func25, Tryz.ntmps25
      go_wp2_with (go_at_call 21; (with_reducible refine (rright_rt _ _ _ (by assumption)).mono ?_); rintro e w' ⟨rfl, hbr⟩; obtain ⟨osr, dr, rfl⟩ := hbr.more)
      go_ret
      exact ⟨rfl, by with_reducible repeat (first | exact Ext.refl _ | apply Ext.drew | apply Ext.alloc | apply Ext.more_)⟩
  · have r1 := rtB_no h1
    rw [if_neg (fun h => h1 h.1)]
    clear h1
    go_enter Tryz.func25, Tryz.ntmps25
    go_wp2_with (go_at_call 21; (with_reducible refine (rright_rt _ _ _ (by assumption)).mono ?_); rintro e w' ⟨rfl, hbr⟩; obtain ⟨osr, dr, rfl⟩ := hbr.more)
    go_ret
    exact ⟨rfl, by with_reducible repeat (first | exact Ext.refl _ | apply Ext.drew | apply Ext.alloc | apply Ext.more_)⟩
end Go.Proofs.YteecmifjbeojeaaGreatDoor
namespace Go.Proofs.YteecmifjbeojeaaGreatDoor
open Go.RowKit NM
/-- What Times keeps: the digits of its result in a block of its own. -/
structure TSt (W : World) (L z : Nat) (O : List Nat) (wr : World) : Prop where
  out : Dg .i64 3 W.heap.size wr (some ⟨W.heap.size, 0, none⟩) L O
  len : O.length = L
  all : AllD O
  zer : ∀ p, p ≤ z → p < L → O[p]? = some 0
  ext : Ext W wr
theorem TSt.at {W wr : World} {L z p d : Nat} {O : List Nat} (h : TSt W L z O wr) (hd : O[p]? = some d) : wr.cell? ⟨W.heap.size, p, none⟩ = some (.int .i64 (d : Int)) ∧ wr.frozen? ⟨W.heap.size, p, none⟩ = false := by
  obtain ⟨b, off, h1, _, h2, h3⟩ := h.out.at hd
  simp only [Option.some.injEq, Addr.mk.injEq, and_true] at h1
  obtain ⟨rfl, rfl⟩ := h1
  rw [Nat.zero_add] at h2 h3
  exact ⟨h2, h3⟩
theorem TSt.set {W wr : World} {L z p d : Nat} {O : List Nat} (h : TSt W L z O wr) (hd : d < 10) (hp : p < L) (z' : Nat) (hz : z' ≤ z) (hzp : z' < p) : TSt W L z' (O.set p d) (wr.setCell ⟨W.heap.size, p, none⟩ (.int .i64 (d : Int))) := by
  have := h.out.set (i := p) (d := d) (by rw [h.len]; exact hp)
  rw [Nat.zero_add] at this
  exact ⟨this, by rw [List.length_set]; exact h.len, h.all.set hd, fun q hq hL => by rw [List.getElem?_set_ne (by omega)]; exact h.zer q (by omega) hL, h.ext.set _ (Nat.le_refl _)⟩
theorem TSt.drew {W wr : World} {L z : Nat} {O : List Nat} (h : TSt W L z O wr) : TSt W L z O wr.drew := ⟨h.out, h.len, h.all, h.zer, h.ext.drew⟩
/-- One place of a row of a product. -/
theorem times_step {O lb : List Nat} {V A s n q p o b c : Nat} (hL : O.length - 1 - p = s + (n - (q + 1))) (ho : O[p]? = some o) (hb : lb[q]? = some b) (hn : lb.length = n) (h : val O + c * T (s + (n - (q + 1))) = V + A * val (lb.drop (q + 1)) * T s) :
    val (O.set p ((o + A * b + c) % 10)) + (o + A * b + c) / 10 * T (s + (n - q)) = V + A * val (lb.drop q) * T s := by
  have hq := lt_at hb
  have h1 := val_set ((o + A * b + c) % 10) ho
  rw [hL] at h1
  have h2 : val (lb.drop q) = b * T (n - (q + 1)) + val (lb.drop (q + 1)) := by
    rw [drop_at hb, val_cons, List.length_drop, hn]
  have h3 : T (s + (n - q)) = 10 * T (s + (n - (q + 1))) := by rw [← T_succ]; congr 1; omega
  have h4 : A * val (lb.drop q) * T s = A * b * T (s + (n - (q + 1))) + A * val (lb.drop (q + 1)) * T s := by
    rw [h2, Nat.mul_add, Nat.add_mul, T_add, Nat.mul_comm (T s) (T (n - (q + 1))), Nat.mul_assoc A b, Nat.mul_assoc, Nat.mul_assoc, Nat.mul_assoc]
  rw [h3, h4]
  generalize T (s + (n - (q + 1))) = t at *
  generalize val O = vO at *
  generalize val (O.set p ((o + A * b + c) % 10)) = vN at *
  generalize A * val (lb.drop (q + 1)) * T s = R at *
  have h5 := Nat.div_add_mod (o + A * b + c) 10
  generalize (o + A * b + c) / 10 = dq at *
  generalize (o + A * b + c) % 10 = dr at *
  generalize A * b = ab at *
  have h6 : (10 * dq + dr) * t = (o + ab + c) * t := by rw [h5]
  rw [Nat.add_mul, Nat.add_mul, Nat.add_mul] at h6
  have h7 : dq * (10 * t) = 10 * dq * t := by rw [← Nat.mul_assoc, Nat.mul_comm dq 10]
  rw [h7]
  omega
set_option maxHeartbeats 4000000 in
theorem times_any (na nb : Bool) (A B : Option Addr) (ca cb m n : Nat) (la lb : List Nat) (ea eb : Int) (w : World) (ha : Rd 0 w A (i6 la)) (hb : Rd 0 w B (i6 lb)) (hm : la.length = m) (hn : lb.length = n) (hmb : m ≤ 1000) (hnb : n ≤ 1000) (hda : AllD la) (hdb : AllD lb) (hea : -1000 ≤ ea ∧ ea ≤ 1000) (heb : -1000 ≤ eb ∧ eb ≤ 1000) :
    Calls Tryz.prog 48 #[DecV na A m ca ea, DecV nb B n cb eb] w fun r w' => DecOut w (!(na == nb)) (m + n + 1) (val la * val lb) (ea + eb) r w' ∧ Ext w w' := by
  have HA := Lib.hid ha
  have HB := Lib.hid hb
  have HM := Lib.hid hm
  have HN := Lib.hid hn
  clear ha hb hm hn
  have hmk := make_int (m + n + 1) (by omega)
  rw [show (((m + n + 1 : Nat)) : Int) = (m : Int) + (n : Int) + 1 by omega] at hmk
  go_enter Tryz.func48, Tryz.ntmps48
  go_upto_region 1 with fail
  refine wp_world fun W hW => ?_
  have a0 : W.cell? ⟨w.heap.size, 0, none⟩ = some (.bool na) := by rw [hW]; go_simp
  have a1 : W.cell? ⟨w.heap.size, 1, none⟩ = some (.slice A m ca) := by rw [hW]; go_simp
  have a2 : W.cell? ⟨w.heap.size, 2, none⟩ = some (.int .i64 ea) := by rw [hW]; go_simp
  have b0 : W.cell? ⟨w.heap.size + 1, 0, none⟩ = some (.bool nb) := by rw [hW]; go_simp
  have b1 : W.cell? ⟨w.heap.size + 1, 1, none⟩ = some (.slice B n cb) := by rw [hW]; go_simp
  have b2 : W.cell? ⟨w.heap.size + 1, 2, none⟩ = some (.int .i64 eb) := by rw [hW]; go_simp
  have r0 : W.cell? ⟨w.heap.size + 1 + 1, 0, none⟩ = some (.bool false) := by rw [hW]; go_simp
  have r1 : W.cell? ⟨w.heap.size + 1 + 1, 1, none⟩ = some (.slice none 0 0) := by rw [hW]; go_simp
  have r2 : W.cell? ⟨w.heap.size + 1 + 1, 2, none⟩ = some (.int .i64 0) := by rw [hW]; go_simp
  have q0 : W.frozen? ⟨w.heap.size + 1 + 1, 0, none⟩ = false := by rw [hW]; go_simp
  have q1 : W.frozen? ⟨w.heap.size + 1 + 1, 1, none⟩ = false := by rw [hW]; go_simp
  have q2 : W.frozen? ⟨w.heap.size + 1 + 1, 2, none⟩ = false := by rw [hW]; go_simp
  have hz : w.heap.size + 1 + 1 < W.heap.size := by rw [hW]; simp; try omega
  have hz1 : w.heap.size + 1 < W.heap.size := by omega
  have hz0 : w.heap.size < W.heap.size := by omega
  have hxW : Ext w W := by rw [hW]; exact by with_reducible repeat (first | exact Ext.refl _ | apply Ext.drew | apply Ext.alloc | apply Ext.more_)
  clear hW
  have HX : Hid (Rd 0 W A (i6 la)) := HA.out.ext hxW
  have HY : Hid (Rd 0 W B (i6 lb)) := HB.out.ext hxW
  have HS : Hid (TSt W (m + n + 1) (m + n) (List.replicate (m + n + 1) 0) (W.alloc (.cells (madeCells #[.int .i64 0] (m + n + 1)) 3))) := ⟨made_dg (k := .i64) (ty := 3) (w := W) (m + n + 1) rfl (Nat.le_refl _), by simp, AllD.rep _ _ (by omega), fun p h1 h2 => by rw [List.getElem?_replicate, if_pos h2], (Ext.refl _).alloc _⟩
  go_wp2
  go_loopw [6] (fun i wr => ∃ (j : Nat) (O : List Nat), j ≤ m ∧ i = .int .i64 ((j : Int) - 1) ∧ Hid (TSt W (m + n + 1) j O wr) ∧ Hid (val O = val (la.drop j) * val lb)) (fun i _ => ((intOf i) + 1).toNat)
  case atStart =>
    refine ⟨m, _, Nat.le_refl _, by go_num, ⟨HS.out.out, HS.out.len, HS.out.all, fun p h1 h2 => HS.out.zer p (by omega) h2, HS.out.ext⟩, ?_⟩
    show _ = _
    rw [val_rep0, List.drop_eq_nil_of_le (by rw [HM.out]; exact Nat.le_refl _), val_nil, Nat.zero_mul]
  case round =>
    obtain ⟨j, O, hj, rfl, H, HV⟩ := hrel
    have hxr := H.out.ext
    have hsz := hxr.size
    have a0' := hxr.cell_some a0
    have a1' := hxr.cell_some a1
    have a2' := hxr.cell_some a2
    have b0' := hxr.cell_some b0
    have b1' := hxr.cell_some b1
    have b2' := hxr.cell_some b2
    cases j with
    | zero =>
      have r0' := hxr.cell_some r0
      have r1' := hxr.cell_some r1
      have r2' := hxr.cell_some r2
      have q0' := (hxr.frozen (p := ⟨w.heap.size + 1 + 1, 0, none⟩) (by show w.heap.size + 1 + 1 < _; omega)).trans q0
      have q1' := (hxr.frozen (p := ⟨w.heap.size + 1 + 1, 1, none⟩) (by show w.heap.size + 1 + 1 < _; omega)).trans q1
      have q2' := (hxr.frozen (p := ⟨w.heap.size + 1 + 1, 2, none⟩) (by show w.heap.size + 1 + 1 < _; omega)).trans q2
      have hz' : w.heap.size + 1 + 1 < wr.heap.size := by omega
      go_wp2
      refine bodyPost_ret (v := DecV (!(na == nb)) (some ⟨W.heap.size, 0, none⟩) (m + n + 1) (m + n + 1) (ea + eb)) (by simp [results, Tryz.results48, go_sem, hz', r0', r1', r2']) rfl ⟨⟨_, _, O, rfl, ?_, H.out.len, H.out.all, ?_, Nat.le_refl _⟩, ?_⟩
      · exact (((H.out.out.rd.set_low _ hz).set_low _ hz).set_low _ hz).mono (by omega)
      · have := HV.out
        rw [List.drop_zero] at this
        exact this
      · exact ((((hxW.trans hxr).set _ (by show w.heap.size ≤ w.heap.size + 1 + 1; omega)).set _ (by show w.heap.size ≤ w.heap.size + 1 + 1; omega)).set _ (by show w.heap.size ≤ w.heap.size + 1 + 1; omega))
    | succ i =>
      have hiM : i < m := by omega
      obtain ⟨x, hxi⟩ : ∃ x, la[i]? = some x := ⟨la[i]'(by have := HM.out; omega), by rw [List.getElem?_eq_getElem]⟩
      have hx10 := hda.at hxi
      have hji : (((i + 1 : Nat) : Int) - 1) = (i : Int) := by omega
      rw [hji]
      obtain ⟨ba, oa, hAe, _, hcx⟩ := Rd.at_ HX.out hxi
      have HXI := Lib.hid hxi
      clear hxi
      go_wp2
      go_loopw [7, 8] (fun c k wq => ∃ (q cc : Nat) (O' : List Nat), q ≤ n ∧ cc ≤ 9 ∧ k = .int .i64 ((q : Int) - 1) ∧ c = .int .i64 (cc : Int) ∧ Hid (TSt W (m + n + 1) (i + 1) O' wq) ∧ Hid (val O' + cc * T (m - (i + 1) + (n - q)) = val O + x * val (lb.drop q) * T (m - (i + 1)))) (fun _ k _ => ((intOf k) + 1).toNat)
      case atStart =>
        refine ⟨n, 0, O, Nat.le_refl _, by omega, by go_num, rfl, H, ?_⟩
        show _ = _
        rw [List.drop_eq_nil_of_le (by rw [HN.out]; exact Nat.le_refl _), val_nil]; simp
      case round =>
        obtain ⟨q, cc, O', hq, hcc, rfl, rfl, H', HV'⟩ := hrel
        have hxq := H'.out.ext
        have hszq := hxq.size
        have a1q := hxq.cell_some a1
        have b1q := hxq.cell_some b1
        clear a0' a1' a2' b0' b1' b2'
        cases q with
        | zero =>
          obtain ⟨o0, o1⟩ := H'.out.at (H'.out.zer (i + 1) (Nat.le_refl _) (by omega))
          have HN2 := Lib.hid (H'.out.set (d := cc) (p := i + 1) (by omega) (by omega) i (by omega) (by omega))
          have hvs := val_set cc (H'.out.zer (i + 1) (Nat.le_refl _) (by omega))
          have HVN : Hid (val (O'.set (i + 1) cc) = val (la.drop i) * val lb) := by
            show _ = _
            have h1 := HV'.out
            rw [List.drop_zero, Nat.sub_zero, HV.out] at h1
            rw [H'.out.len, show m + n + 1 - 1 - (i + 1) = m - (i + 1) + n by omega] at hvs
            rw [drop_at HXI.out, val_cons, List.length_drop, HM.out, Nat.add_mul]
            have h2 : x * T (m - (i + 1)) * val lb = x * val lb * T (m - (i + 1)) := by rw [Nat.mul_assoc, Nat.mul_comm (T _), ← Nat.mul_assoc]
            omega
          go_wp2
          exact ⟨⟨i, _, by omega, by go_num, HN2, HVN⟩, by simp [intOf]⟩
        | succ k =>
          have hkN : k < n := by omega
          obtain ⟨y, hyk⟩ : ∃ y, lb[k]? = some y := ⟨lb[k]'(by have := HN.out; omega), by rw [List.getElem?_eq_getElem]⟩
          have hy10 := hdb.at hyk
          obtain ⟨bb, ob, hBe, _, hcy⟩ := Rd.at_ HY.out hyk
          obtain ⟨o, hok⟩ : ∃ o, O'[i + k + 2]? = some o := ⟨O'[i + k + 2]'(by have := H'.out.len; omega), by rw [List.getElem?_eq_getElem]⟩
          have ho10 := H'.out.all.at hok
          obtain ⟨o0, o1⟩ := H'.out.at hok
          have HST := Lib.hid (times_step (V := val O) (A := x) (s := m - (i + 1)) (n := n) (q := k) (c := cc) (by rw [H'.out.len]; omega) hok hyk HN.out HV'.out)
          have hxy : x * y ≤ 81 := Nat.mul_le_mul (show x ≤ 9 by omega) (show y ≤ 9 by omega)
          have HSE := Lib.hid (fun d (hd : d < 10) => H'.out.set (d := d) (p := i + k + 2) hd (by omega) (i + 1) (Nat.le_refl _) (by omega))
          have hcxq := hxq.cell_some hcx
          have hcyq := hxq.cell_some hcy
          rw [hAe] at a1q
          rw [hBe] at b1q
          have hki : (((k + 1 : Nat) : Int) - 1) = (k : Int) := by omega
          rw [hki]
          obtain ⟨ik, hik⟩ : ∃ ik : Nat, (i : Int) + (k : Int) = (ik : Int) := ⟨i + k, by omega⟩
          have hpp : ((ik : Int) + 2) = ((i + k + 2 : Nat) : Int) := by omega
          have hikw : IntKind.i64.wrap (ik : Int) = (ik : Int) := i64w (by omega) (by omega)
          have hppw : IntKind.i64.wrap ((i + k + 2 : Nat) : Int) = ((i + k + 2 : Nat) : Int) := i64w (by omega) (by omega)
          have hxyw : IntKind.i64.wrap ((x * y : Nat) : Int) = ((x * y : Nat) : Int) := i64w (by omega) (by omega)
          have hpL : i + k + 2 < m + n + 1 := by omega
          have hpLi : ((i + k + 2 : Nat) : Int) < (m : Int) + (n : Int) + 1 := by omega
          have hxyi : (x : Int) * (y : Int) = ((x * y : Nat) : Int) := by rw [Int.natCast_mul]
          generalize hXY : x * y = xy at *
          have t1 : ((o : Int) + (xy : Int) + (cc : Int)) % 10 = (((o + xy + cc) % 10 : Nat) : Int) := rfl
          have t3 : ((o : Int) + (xy : Int) + (cc : Int)).tmod 10 = (((o + xy + cc) % 10 : Nat) : Int) := rfl
          have t2 : ((o : Int) + (xy : Int) + (cc : Int)).tdiv 10 = (((o + xy + cc) / 10 : Nat) : Int) := rfl
          have hd1 : (o + xy + cc) % 10 < 10 := by omega
          have hd2 : (o + xy + cc) / 10 ≤ 9 := by omega
          have HSD := Lib.hid (HSE.out _ hd1)
          have l1 := lt_of_cell hcxq
          have l2 := lt_of_cell hcyq
          have l3 := lt_of_cell o0
          simp only at l1 l2 l3
          have l4 : w.heap.size < wr.heap.size := by omega
          have l5 : w.heap.size + 1 < wr.heap.size := by omega
          clear hok hyk HSE
          generalize i + k + 2 = p at *
          generalize (o + xy + cc) % 10 = dg at *
          generalize (o + xy + cc) / 10 = c2 at *
          go_wp2
          refine wp_plan (S := Ext _) [(0, 0), (1, 0), (2, 0), (3, 0), (4, 0), (5, 0), (6, 0), (7, 0), (8, 0), (9, 0), (10, 0), (11, 0), (12, 0), (13, 0), (14, 0), (15, 0), (16, 0), (17, 0), (18, 0), (19, 0), (20, 0), (21, 0)] [] (by kernel_rfl) (by kernel_rfl) (by kernel_rfl) (fun _ _ d _ _ h => by cases d <;> exact h) (Ext.drew (Ext.refl _)) ?_
          iterate 22 ((refine wpPl_read (v := ?_) rfl ?_ (fun _ h => ?_) ?_; rotate_left 1; rfl; (obtain ⟨_, _, rfl⟩ := h.more; go_simp; try rfl)); try simp only [Act.put, zqA, zqB, zqC])
          refine wpPl_nil ?_
          go_wp2
          refine ⟨⟨k, c2, _, by omega, hd2, by go_num, by rw [t2], HSD.out.drew, HST⟩, by simp [intOf]⟩
end Go.Proofs.YteecmifjbeojeaaGreatDoor
namespace Go.Proofs.YteecmifjbeojeaaGreatDoor
open Go.RowKit NM
theorem sg_ng_ (ma mb : Int) : sg (ngB ma mb) (ma.natAbs * mb.natAbs) = ma * mb := by
  unfold ngB
  have h := sg_nat ma
  have h' := sg_nat mb
  cases ha : decide (ma < 0) <;> cases hb : decide (mb < 0) <;> rw [ha] at h <;> rw [hb] at h' <;> simp only [sg] at * <;> (conv => rhs; rw [← h, ← h']) <;> simp [Int.neg_mul, Int.mul_neg]
set_option maxHeartbeats 2000000 in
theorem rmul_any (ma ea mb eb : Int) (w : World) (hma : I64 ma) (hmb : I64 mb) :
    Calls Tryz.prog 24 #[NV ma ea, NV mb eb] w fun e w' => e = .returned (rnV (mulS ma ea mb eb)) ∧ Ext w w' := by
  by_cases h1 : Rt ma ea
  · have r1 := rtB_yes h1
    by_cases h2 : Rt mb eb
    · have r2 := rtB_yes h2
      have hs : mulS ma ea mb eb = rnd (!(decide (ma < 0) == decide (mb < 0))) (ma.natAbs * mb.natAbs) false (ea + eb) := by
        unfold mulS; rw [if_pos ⟨h1, h2⟩, ← sg_ng_, ← rnd_sg]; rfl
      rw [hs]
      obtain ⟨b1, b2, b3⟩ := Rt_bd h1
      obtain ⟨b4, b5, b6⟩ := Rt_bd h2
      have hT15 : T 15 = 1000000000000000 := by decide
      have n1 : nd ma.natAbs ≤ 15 := (nd_le_iff _ _).2 (by omega)
      have n2 : nd mb.natAbs ≤ 15 := (nd_le_iff _ _).2 (by omega)
      have hof1 := fun W => rof_any ma ea W hma
      have hof2 := fun W => rof_any mb eb W hmb
      have hpl := fun A B ca cb W h3 h4 => times_any (decide (ma < 0)) (decide (mb < 0)) A B ca cb (nd ma.natAbs) (nd mb.natAbs) (dig ma.natAbs) (dig mb.natAbs) ea eb W h3 h4 (dig_length _) (dig_length _) (by omega) (by omega) (dig_all _) (dig_all _) (by omega) (by omega)
      simp only [val_dig] at hpl
      have hL : nd ma.natAbs + nd mb.natAbs + 1 ≤ 1000 := by omega
      have hnr := fun (A : Option Addr) (cap : Nat) (l : List Nat) (W : World) (a1 : l.length = nd ma.natAbs + nd mb.natAbs + 1) (a2 : Rd 0 W A (i6 l)) (a3 : nd ma.natAbs + nd mb.natAbs + 1 ≤ cap) (a4 : AllD l) (a5 : val l = ma.natAbs * mb.natAbs) => near_any 0 (!(decide (ma < 0) == decide (mb < 0))) A (nd ma.natAbs + nd mb.natAbs + 1) cap l (ma.natAbs * mb.natAbs) (ea + eb) false W a1 a2 a3 hL a4 a5 (by omega) (Nat.zero_le _)
      generalize rnd (!(decide (ma < 0) == decide (mb < 0))) (ma.natAbs * mb.natAbs) false (ea + eb) = R at *
      generalize nd ma.natAbs + nd mb.natAbs + 1 = L at *
      generalize ma.natAbs * mb.natAbs = P at *
      clear h1 h2 n1 n2 hT15 hs
      generalize ma.natAbs = Na at *
      generalize mb.natAbs = Nb at *
      go_enter Tryz.func24, Tryz.ntmps24
      go_wp2_with (go_at_call 21; (with_reducible refine (rright_rt _ _ _ (by assumption)).mono ?_); rintro e w' ⟨rfl, hbr⟩; obtain ⟨osr, dr, rfl⟩ := hbr.more)
      refine wp_plan (S := Ext _) [(0, 0), (2, 0), (1, 1), (3, 1), (4, 1), (5, 1), (6, 0), (7, 0), (8, 2), (9, 2)] [8, 9] (by kernel_rfl) (by kernel_rfl) (by kernel_rfl) (fun _ _ d _ _ h => by cases d <;> exact h) (Ext.drew (Ext.refl _)) ?_
      iterate 2 ((refine wpPl_read (v := ?_) rfl ?_ (fun _ h => ?_) ?_; rotate_left 1; rfl; (obtain ⟨_, _, rfl⟩ := h.more; go_simp; try rfl)); try simp only [Act.put, zqA, zqB, zqC])
      (refine wpPl_eff rfl ?_ (fun K hK => ?_); rfl; go_simp; (go_at_call 43; (with_reducible refine (hof1 _).mono ?_); rintro e w' ⟨A1, c1, rfl, hrd1, hcp1, hx⟩; obtain ⟨os1, d1, rfl⟩ := hx.more; have hrd1 := hrd1.mono (Nat.zero_le _); (try simp only [more_more, more_drew, drew_more, Array.append_assoc] at hrd1)); refine hK _ _ ?_ ?_; (repeat (first | (with_reducible (first | exact Ext.refl _ | exact ext_d _ _ _ _ | exact ext_app _ _ _ _ _ | exact ext_app2 _ _ _ _ _ _ | exact ext_app3 _ _ _ _ _ _ _ | exact ext_app4 _ _ _ _ _ _ _ _ | exact ext_app5 _ _ _ _ _ _ _ _ _)) | ((with_reducible refine ext_suffix ⟨_, ?_⟩); (try simp only [Array.append_assoc]); rfl) | (with_reducible (first | apply Ext.drew | apply Ext.alloc | apply Ext.more_)) | apply Ext.drew | apply Ext.alloc | apply Ext.more_)))
      try simp only [Act.put, zqA, zqB, zqC]
      (refine wpPl_eff rfl ?_ (fun K hK => ?_); rfl; go_simp; (go_at_call 43; (with_reducible refine (hof2 _).mono ?_); rintro e w' ⟨A2, c2, rfl, hrd2, hcp2, hx⟩; obtain ⟨os2, d2, rfl⟩ := hx.more; have hrd2 := hrd2.mono (Nat.zero_le _); (try simp only [more_more, more_drew, drew_more, Array.append_assoc] at hrd2)); refine hK _ _ ?_ ?_; (repeat (first | (with_reducible (first | exact Ext.refl _ | exact ext_d _ _ _ _ | exact ext_app _ _ _ _ _ | exact ext_app2 _ _ _ _ _ _ | exact ext_app3 _ _ _ _ _ _ _ | exact ext_app4 _ _ _ _ _ _ _ _ | exact ext_app5 _ _ _ _ _ _ _ _ _)) | ((with_reducible refine ext_suffix ⟨_, ?_⟩); (try simp only [Array.append_assoc]); rfl) | (with_reducible (first | apply Ext.drew | apply Ext.alloc | apply Ext.more_)) | apply Ext.drew | apply Ext.alloc | apply Ext.more_)))
      try simp only [Act.put, zqA, zqB, zqC]
      (refine wpPl_eff rfl ?_ (fun K hK => ?_); rfl; go_simp; (go_at_call 48; (with_reducible refine (hpl _ _ _ _ _ (Rd.ext hrd1 (by (try simp only [more_more, more_drew, drew_more, Array.append_assoc]); repeat (first | (with_reducible (first | exact Ext.refl _ | exact ext_d _ _ _ _ | exact ext_app _ _ _ _ _ | exact ext_app2 _ _ _ _ _ _ | exact ext_app3 _ _ _ _ _ _ _)) | ((with_reducible refine ext_suffix ⟨_, ?_⟩); (try simp only [Array.append_assoc]); rfl) | (with_reducible (first | apply Ext.drew | apply Ext.alloc | apply Ext.more_))))) (Rd.ext hrd2 (by (try simp only [more_more, more_drew, drew_more, Array.append_assoc]); repeat (first | (with_reducible (first | exact Ext.refl _ | exact ext_d _ _ _ _ | exact ext_app _ _ _ _ _ | exact ext_app2 _ _ _ _ _ _ | exact ext_app3 _ _ _ _ _ _ _)) | ((with_reducible refine ext_suffix ⟨_, ?_⟩); (try simp only [Array.append_assoc]); rfl) | (with_reducible (first | apply Ext.drew | apply Ext.alloc | apply Ext.more_)))))).mono ?_); rintro e w' ⟨⟨A3, c3, X3, rfl, hrx3, hn3, ha3, hv3, hc3⟩, hx⟩; obtain ⟨os3, d3, rfl⟩ := hx.more; (try simp only [more_more, more_drew, drew_more, Array.append_assoc] at hrx3)); refine hK _ _ ?_ ?_; (repeat (first | (with_reducible (first | exact Ext.refl _ | exact ext_d _ _ _ _ | exact ext_app _ _ _ _ _ | exact ext_app2 _ _ _ _ _ _ | exact ext_app3 _ _ _ _ _ _ _ | exact ext_app4 _ _ _ _ _ _ _ _ | exact ext_app5 _ _ _ _ _ _ _ _ _)) | ((with_reducible refine ext_suffix ⟨_, ?_⟩); (try simp only [Array.append_assoc]); rfl) | (with_reducible (first | apply Ext.drew | apply Ext.alloc | apply Ext.more_)) | apply Ext.drew | apply Ext.alloc | apply Ext.more_)))
      try simp only [Act.put, zqA, zqB, zqC]
      (refine wpPl_eff rfl ?_ (fun K hK => ?_); rfl; go_simp; (go_at_call 44; (with_reducible refine (hnr _ _ _ _ hn3 (Rd.mono hrx3 (Nat.zero_le _)) hc3 ha3 hv3).mono ?_); rintro e w' ⟨rfl, hx⟩; obtain ⟨os4, d4, rfl⟩ := hx.more); refine hK _ _ ?_ ?_; (repeat (first | (with_reducible (first | exact Ext.refl _ | exact ext_d _ _ _ _ | exact ext_app _ _ _ _ _ | exact ext_app2 _ _ _ _ _ _ | exact ext_app3 _ _ _ _ _ _ _ | exact ext_app4 _ _ _ _ _ _ _ _ | exact ext_app5 _ _ _ _ _ _ _ _ _)) | ((with_reducible refine ext_suffix ⟨_, ?_⟩); (try simp only [Array.append_assoc]); rfl) | (with_reducible (first | apply Ext.drew | apply Ext.alloc | apply Ext.more_)) | apply Ext.drew | apply Ext.alloc | apply Ext.more_)))
      try simp only [Act.put, zqA, zqB, zqC]
      iterate 2 ((refine wpPl_read (v := ?_) rfl ?_ (fun _ h => ?_) ?_; rotate_left 1; rfl; (obtain ⟨_, _, rfl⟩ := h.more; go_simp; try rfl)); try simp only [Act.put, zqA, zqB, zqC])
      (refine wpPl_tail rfl ?_ (fun K hK => ?_); rfl; go_simp; refine hK _ _ ?_)
      try simp only [Act.put]
      (refine wpPl_tail rfl ?_ (fun K hK => ?_); rfl; go_simp; refine hK _ _ ?_)
      try simp only [Act.put, zqA, zqB, zqC]
      refine wpPl_nil ?_
      go_wp2
      exact bodyPost_ret (v := rnV R) (by simp [results, Tryz.results24, go_sem]) rfl ⟨rfl, by with_reducible repeat (first | exact Ext.refl _ | apply Ext.drew | apply Ext.alloc | apply Ext.more_)⟩
    · have r2 := rtB_no h2
      have hs : mulS ma ea mb eb = none := by unfold mulS; rw [if_neg (fun h => h2 h.2)]
      rw [hs]
      clear h1 h2 hs
      go_enter Tryz.func24, Tryz.ntmps24
      go_wp2_with (go_at_call 21; (with_reducible refine (rright_rt _ _ _ (by assumption)).mono ?_); rintro e w' ⟨rfl, hbr⟩; obtain ⟨osr, dr, rfl⟩ := hbr.more)
      exact bodyPost_ret (v := .tuple #[NV 0 0, .bool false]) (by simp [results, Tryz.results24, go_sem]) rfl ⟨rfl, by with_reducible repeat (first | exact Ext.refl _ | apply Ext.drew | apply Ext.alloc | apply Ext.more_)⟩
  · have r1 := rtB_no h1
    have hs : mulS ma ea mb eb = none := by unfold mulS; rw [if_neg (fun h => h1 h.1)]
    rw [hs]
    clear h1 hs
    go_enter Tryz.func24, Tryz.ntmps24
    go_wp2_with (go_at_call 21; (with_reducible refine (rright_rt _ _ _ (by assumption)).mono ?_); rintro e w' ⟨rfl, hbr⟩; obtain ⟨osr, dr, rfl⟩ := hbr.more)
    exact bodyPost_ret (v := .tuple #[NV 0 0, .bool false]) (by simp [results, Tryz.results24, go_sem]) rfl ⟨rfl, by with_reducible repeat (first | exact Ext.refl _ | apply Ext.drew | apply Ext.alloc | apply Ext.more_)⟩
end Go.Proofs.YteecmifjbeojeaaGreatDoor
namespace Go.Proofs.YteecmifjbeojeaaGreatDoor
open NM
theorem RS_sg (x : Int) (t : Nat) : sg (decide (x < 0)) (R (x.natAbs * T t)) = RS (x * (T t : Nat)) := by
  have hp : (0 : Int) < ((T t : Nat) : Int) := by have := T_pos t; omega
  have hn : (x * ((T t : Nat) : Int)).natAbs = x.natAbs * T t := by rw [Int.natAbs_mul, Int.natAbs_natCast]
  unfold RS sg
  rw [hn]
  by_cases h : x < 0
  · have : x * ((T t : Nat) : Int) < 0 := Int.mul_neg_of_neg_of_pos h hp
    rw [if_pos this, if_pos (decide_eq_true h)]
  · have : ¬ x * ((T t : Nat) : Int) < 0 := by
      have := Int.mul_nonneg (show 0 ≤ x by omega) (show 0 ≤ ((T t : Nat) : Int) by omega)
      omega
    rw [if_neg this, if_neg (by simp [h])]
/-- What a value is rounded to, scaled. -/
theorem sc_rndI {x e : Int} {r : Int × Int} (he : -100 ≤ e) (h : rndI x e = some r) : sc r.1 r.2 = RS (x * (T (e + 100).toNat : Nat)) := by
  rw [sc_rnd he h, RS_sg]
theorem sign_le {x : Int} : x.sign ≤ 0 ↔ x ≤ 0 := by
  rcases Int.lt_trichotomy x 0 with h | h | h
  · rw [Int.sign_eq_neg_one_of_neg h]; omega
  · subst h; simp
  · rw [Int.sign_eq_one_of_pos h]; omega
theorem cmp_le {ma ea mb eb : Int} (h1 : Rt ma ea) (h2 : Rt mb eb) : cmpS ma ea mb eb ≤ 0 ↔ sc ma ea ≤ sc mb eb := by
  rw [cmp_sc h1 h2, sign_le]; omega
theorem add_sc {ma ea mb eb : Int} {r : Int × Int} (h1 : Rt ma ea) (h2 : Rt mb eb) (h : addS ma ea mb eb = some r) : Rt r.1 r.2 ∧ sc r.1 r.2 = RS (sc ma ea + sc mb eb) := by
  obtain ⟨_, b2, b3⟩ := Rt_bd h1
  obtain ⟨_, b5, b6⟩ := Rt_bd h2
  unfold addS at h
  rw [if_pos ⟨h1, h2⟩] at h
  refine ⟨rnd_right h, ?_⟩
  rw [sc_rndI (by omega) h, sum_sc (by omega) (by omega)]
theorem sub_sc {ma ea mb eb : Int} {r : Int × Int} (h1 : Rt ma ea) (h2 : Rt mb eb) (h : subS ma ea mb eb = some r) : Rt r.1 r.2 ∧ sc r.1 r.2 = RS (sc ma ea - sc mb eb) := by
  obtain ⟨_, b2, b3⟩ := Rt_bd h1
  obtain ⟨_, b5, b6⟩ := Rt_bd h2
  unfold subS at h
  rw [if_pos ⟨h1, h2⟩] at h
  refine ⟨rnd_right h, ?_⟩
  rw [sc_rndI (by omega) h, sum_sc (by omega) (by omega), sc_neg, Int.sub_eq_add_neg]
theorem mul_sc {ma ea mb eb : Int} {r : Int × Int} (h1 : Rt ma ea) (h2 : Rt mb eb) (h : mulS ma ea mb eb = some r) : Rt r.1 r.2 ∧ sc r.1 r.2 = RS (ma * mb * (T (ea + eb + 100).toNat : Nat)) := by
  obtain ⟨_, b2, b3⟩ := Rt_bd h1
  obtain ⟨_, b5, b6⟩ := Rt_bd h2
  unfold mulS at h
  rw [if_pos ⟨h1, h2⟩] at h
  exact ⟨rnd_right h, sc_rndI (by omega) h⟩
end Go.Proofs.YteecmifjbeojeaaGreatDoor
namespace Go.Proofs.YteecmifjbeojeaaGreatDoor
open NM
theorem fin_rt {neg : Bool} {N : Nat} {E : Int} {r : Int × Int} (hN : N ≤ T 15) (hE : -40 ≤ E) (h : fin neg N E = some r) : Rt r.1 r.2 := by
  unfold fin at h
  by_cases h0 : N = 0
  · rw [if_pos h0] at h; cases h; exact Or.inl ⟨rfl, rfl⟩
  · rw [if_neg h0] at h
    by_cases h1 : 40 < nd N + E
    · rw [if_pos h1] at h; cases h
    · rw [if_neg h1] at h
      cases h
      exact (fin_right h0 hN hE).2 (by omega)
theorem round_cases {m e p : Int} (h : Rt m e) : (p < -40 ∧ roundS m e p = (0, 0)) ∨ (-40 ≤ p ∧ (40 ≤ p ∨ -p ≤ e) ∧ roundS m e p = (m, e)) ∨ (-40 ≤ p ∧ p < 40 ∧ e < -p ∧ roundS m e p = (fin (decide (m < 0)) (cutUp m.natAbs (-p - e).toNat) (-p)).getD (m, e)) := by
  unfold roundS
  by_cases h1 : p < -40
  · left; exact ⟨h1, by rw [if_pos (Or.inr h1)]⟩
  · right
    by_cases h2 : 40 ≤ p ∨ -p ≤ e
    · left; exact ⟨by omega, h2, by rw [if_neg (by rintro (h4 | h4); exact h4 h; omega), if_pos h2]⟩
    · right; exact ⟨by omega, by omega, by omega, by rw [if_neg (by rintro (h4 | h4); exact h4 h; omega), if_neg h2]⟩
theorem cutUp15 {m e : Int} {k : Nat} (h : Rt m e) (hk : 0 < k) : cutUp m.natAbs k ≤ T 15 := by
  obtain ⟨b1, _, _⟩ := Rt_bd h
  exact cutUp_le (by have : T 15 = 1000000000000000 := by decide
                     omega) hk
theorem round_rt {m e p : Int} (h : Rt m e) : Rt (roundS m e p).1 (roundS m e p).2 := by
  rcases round_cases (p := p) h with ⟨_, hr⟩ | ⟨_, _, hr⟩ | ⟨h1, h2, h3, hr⟩
  · rw [hr]; exact Or.inl ⟨rfl, rfl⟩
  · rw [hr]; exact h
  · rw [hr]
    cases hf : fin (decide (m < 0)) (cutUp m.natAbs (-p - e).toNat) (-p) with
    | none => exact h
    | some r => exact fin_rt (cutUp15 h (by omega)) (by omega) hf
theorem round_zero (p : Int) : roundS 0 0 p = (0, 0) := by
  rcases round_cases (p := p) rt_zero with ⟨_, hr⟩ | ⟨_, _, hr⟩ | ⟨h1, h2, h3, hr⟩
  · exact hr
  · exact hr
  · rw [hr]
    have : cutUp (0 : Int).natAbs (-p - 0).toNat = 0 := by
      unfold cutUp
      rw [show (0 : Int).natAbs = 0 from rfl, Nat.zero_mod, Nat.zero_div, if_neg (by have := T_pos (-p - 0).toNat; omega)]
    rw [this, fin_zero]; rfl
theorem round_idem {m e p : Int} (h : Rt m e) : roundS (roundS m e p).1 (roundS m e p).2 p = roundS m e p := by
  rcases round_cases (p := p) h with ⟨_, hr⟩ | ⟨_, _, hr⟩ | ⟨h1, h2, h3, hr⟩
  · rw [hr]; exact round_zero p
  · rw [hr]; exact hr
  · cases hf : fin (decide (m < 0)) (cutUp m.natAbs (-p - e).toNat) (-p) with
    | none =>
      rw [hf] at hr
      have hr' : roundS m e p = (m, e) := hr
      rw [hr']; exact hr'
    | some r =>
      rw [hf] at hr
      have hr' : roundS m e p = r := hr
      have hrt : Rt r.1 r.2 := by have := round_rt (p := p) h; rw [hr'] at this; exact this
      rw [hr']
      unfold fin at hf
      by_cases h0 : cutUp m.natAbs (-p - e).toNat = 0
      · rw [if_pos h0] at hf
        cases hf; exact round_zero p
      · rw [if_neg h0] at hf
        by_cases h40 : 40 < nd (cutUp m.natAbs (-p - e).toNat) + -p
        · rw [if_pos h40] at hf; cases hf
        · rw [if_neg h40] at hf
          obtain ⟨k, _, hb, _⟩ := trim_spec _ (-p) h0
          cases hf
          rcases round_cases (p := p) hrt with ⟨_, _⟩ | ⟨_, _, hr2⟩ | ⟨_, _, h5, _⟩
          · omega
          · exact hr2
          · simp only at h5; omega
theorem MX_pos : 0 < MX := T_pos 140
theorem GU_near {U x : Nat} (hU : 0 < U) : 2 * x ≤ 2 * GU U x + U ∧ 2 * GU U x ≤ 2 * x + U := by
  have h := Nat.div_add_mod x U
  have hp := Nat.mod_lt x hU
  unfold GU
  generalize x % U = r at *
  generalize x / U = q at *
  rw [Nat.mul_comm] at h
  split
  · rw [Nat.add_mul, Nat.one_mul]; omega
  · omega
theorem GU_mono {U a b : Nat} (hU : 0 < U) (h : a ≤ b) : GU U a ≤ GU U b := by
  have hq : a / U ≤ b / U := Nat.div_le_div_right h
  unfold GU
  refine Nat.mul_le_mul_right _ ?_
  rcases Nat.lt_or_ge (a / U) (b / U) with h1 | h1
  · split <;> split <;> omega
  · have he : a / U = b / U := by omega
    have ha := Nat.div_add_mod a U
    have hb := Nat.div_add_mod b U
    rw [he] at ha ⊢
    generalize a % U = r at *
    generalize b % U = s at *
    generalize b / U = q at *
    generalize U * q = z at *
    split
    · rw [if_pos (by omega)]; exact Nat.le_refl _
    · split <;> omega
theorem GU_mul {U a : Nat} (hU : 0 < U) (hd : U ∣ a) : GU U a = a := by
  unfold GU
  rw [Nat.mod_eq_zero_of_dvd hd, if_neg (by omega), Nat.div_mul_cancel hd]
theorem HU_mono {U a b : Nat} (hU : 0 < U) (hd : U ∣ MX) (h : a ≤ b) (hb : b < MX) : HU U a ≤ HU U b := by
  have hm := GU_mono hU h
  have hn := GU_near (x := b) hU
  unfold HU
  by_cases h1 : GU U a < MX
  · rw [if_pos h1]
    by_cases h2 : GU U b < MX
    · rw [if_pos h2]; exact hm
    · rw [if_neg h2]
      obtain ⟨c, hc⟩ := hd
      have hg : ∃ g, GU U a = U * g := ⟨_, by unfold GU; rw [Nat.mul_comm]⟩
      obtain ⟨g, hg⟩ := hg
      rw [hg, hc] at h1
      have h3 : g < c := Nat.lt_of_mul_lt_mul_left h1
      have h4 : U * (g + 1) ≤ U * c := Nat.mul_le_mul_left _ h3
      rw [Nat.mul_add, Nat.mul_one] at h4
      rw [hg]
      rw [hc] at h2
      omega
  · rw [if_neg h1, if_neg (by omega)]; exact h
theorem GU_scale (N k t : Nat) : GU (T (k + t)) (N * T t) = cutUp N k * T (k + t) := by
  unfold GU cutUp
  rw [T_add, Nat.mul_mod_mul_right, Nat.mul_div_mul_right _ _ (T_pos t)]
  congr 1
  refine ite_iff _ _ ?_
  rw [← Nat.mul_assoc]
  exact ⟨fun h => Nat.le_of_mul_le_mul_right h (T_pos t), fun h => Nat.mul_le_mul_right _ h⟩
theorem HI_mono {U : Nat} {a b : Int} (hU : 0 < U) (hd : U ∣ MX) (h : a ≤ b) (ha : a.natAbs < MX) (hb : b.natAbs < MX) : HI U a ≤ HI U b := by
  unfold HI
  split <;> split
  · have := HU_mono (a := b.natAbs) (b := a.natAbs) hU hd (by omega) ha; omega
  · omega
  · omega
  · have := HU_mono (a := a.natAbs) (b := b.natAbs) hU hd (by omega) hb; omega
theorem sc_abs (m e : Int) : (sc m e).natAbs = m.natAbs * T (e + 100).toNat := by unfold sc; rw [Int.natAbs_mul, Int.natAbs_natCast]
theorem sc_lt {m e : Int} (h : Rt m e) : (sc m e).natAbs < MX := by
  rw [sc_abs]
  obtain ⟨b1, b2, b3⟩ := Rt_bd h
  rcases h with ⟨h1, h2⟩ | ⟨h1, h2, h3, h4, h5⟩
  · rw [h1, show (0 : Int).natAbs = 0 from rfl, Nat.zero_mul]; exact MX_pos
  · have hn := nd_mul_T (e + 100).toNat (show m.natAbs ≠ 0 by omega)
    exact (nd_le_iff _ 140).1 (by rw [hn]; omega)
theorem sc_sign {m e : Int} : sc m e < 0 ↔ m < 0 := by
  unfold sc
  have hp : (0 : Int) < ((T (e + 100).toNat : Nat) : Int) := by have := T_pos (e + 100).toNat; omega
  constructor
  · intro h
    rcases Int.lt_or_le m 0 with h1 | h1
    · exact h1
    · have := Int.mul_nonneg h1 (Int.le_of_lt hp); omega
  · intro h; exact Int.mul_neg_of_neg_of_pos h hp
theorem sc_nought : sc 0 0 = 0 := Int.zero_mul _
theorem round_sc {m e p : Int} (h : Rt m e) (h1 : -40 ≤ p) (h2 : p < 40) : sc (roundS m e p).1 (roundS m e p).2 = HI (T (100 - p).toNat) (sc m e) := by
  obtain ⟨b1, b2, b3⟩ := Rt_bd h
  have hU := T_pos (100 - p).toNat
  have hlt := sc_lt h
  have hsc : sc m e = sg (decide (m < 0)) (sc m e).natAbs := by
    have := sg_nat (sc m e)
    rw [show decide (sc m e < 0) = decide (m < 0) by rw [Bool.eq_iff_iff, decide_eq_true_eq, decide_eq_true_eq]; exact sc_sign] at this
    exact this.symm
  have hHI : HI (T (100 - p).toNat) (sc m e) = sg (decide (m < 0)) (HU (T (100 - p).toNat) (sc m e).natAbs) := by
    unfold HI sg
    by_cases hm : m < 0
    · rw [if_pos (sc_sign.2 hm), if_pos (decide_eq_true hm)]
    · rw [if_neg (fun hh => hm (sc_sign.1 hh)), if_neg (by simp [hm])]
  rw [hHI]
  rcases round_cases (p := p) h with ⟨_, _⟩ | ⟨_, h3, hr⟩ | ⟨_, _, h3, hr⟩
  · omega
  · rw [hr]
    have hd : T (100 - p).toNat ∣ (sc m e).natAbs := by
      rw [sc_abs]
      exact Nat.dvd_trans ⟨T ((e + 100).toNat - (100 - p).toNat), by rw [← T_add]; congr 1; omega⟩ (Nat.dvd_mul_left _ _)
    have : HU (T (100 - p).toNat) (sc m e).natAbs = (sc m e).natAbs := by
      unfold HU; rw [GU_mul hU hd, if_pos hlt]
    rw [this]
    exact hsc
  · rw [hr]
    have hG : GU (T (100 - p).toNat) (sc m e).natAbs = cutUp m.natAbs (-p - e).toNat * T (100 - p).toNat := by
      have := GU_scale m.natAbs (-p - e).toNat (e + 100).toNat
      rw [show (-p - e).toNat + (e + 100).toNat = (100 - p).toNat by omega] at this
      rw [sc_abs]; exact this
    unfold HU
    rw [hG]
    unfold fin
    by_cases h0 : cutUp m.natAbs (-p - e).toNat = 0
    · rw [if_pos h0, h0, Nat.zero_mul, if_pos MX_pos]
      show sc 0 0 = sg (decide (m < 0)) 0
      rw [sc_nought, sg_nought]
    · rw [if_neg h0]
      have hnd := nd_mul_T (100 - p).toNat h0
      have hlt2 : 140 < nd (cutUp m.natAbs (-p - e).toNat * T (100 - p).toNat) ↔ MX ≤ cutUp m.natAbs (-p - e).toNat * T (100 - p).toNat := lt_nd_iff (cutUp m.natAbs (-p - e).toNat * T (100 - p).toNat) 140
      rw [hnd] at hlt2
      by_cases h40 : 40 < nd (cutUp m.natAbs (-p - e).toNat) + -p
      · rw [if_pos h40, if_neg (by have := hlt2.1 (by omega); omega)]
        exact hsc
      · rw [if_neg h40, if_pos (by
          rcases Nat.lt_or_ge (cutUp m.natAbs (-p - e).toNat * T (100 - p).toNat) (MX) with hh | hh
          · exact hh
          · have := hlt2.2 hh; omega)]
        show sc (sg (decide (m < 0)) (trim (cutUp m.natAbs (-p - e).toNat) (-p)).1) (trim (cutUp m.natAbs (-p - e).toNat) (-p)).2 = _
        rw [sc_sg, sc_trim h0 (by omega), show (-p + 100).toNat = (100 - p).toNat by omega]
theorem round_mono {ma ea mb eb p : Int} (h1 : Rt ma ea) (h2 : Rt mb eb) (h : sc ma ea ≤ sc mb eb) : sc (roundS ma ea p).1 (roundS ma ea p).2 ≤ sc (roundS mb eb p).1 (roundS mb eb p).2 := by
  by_cases hp : -40 ≤ p ∧ p < 40
  · rw [round_sc h1 hp.1 hp.2, round_sc h2 hp.1 hp.2]
    exact HI_mono (T_pos _) ⟨T (140 - (100 - p).toNat), by unfold MX; rw [← T_add]; congr 1; omega⟩ h (sc_lt h1) (sc_lt h2)
  · rcases round_cases (p := p) h1 with ⟨ha, hr⟩ | ⟨ha, _, hr⟩ | ⟨_, _, _, _⟩
    · rcases round_cases (p := p) h2 with ⟨_, hr2⟩ | ⟨_, _, _⟩ | ⟨_, _, _, _⟩
      · rw [hr, hr2]; exact Int.le_refl _
      · omega
      · omega
    · rcases round_cases (p := p) h2 with ⟨_, _⟩ | ⟨_, _, hr2⟩ | ⟨_, _, _, _⟩
      · omega
      · rw [hr, hr2]; exact h
      · omega
    · omega
end Go.Proofs.YteecmifjbeojeaaGreatDoor
namespace Go.Proofs.YteecmifjbeojeaaGreatDoor
open Go.RowKit NM
theorem int_go : ∀ (k : Nat) (n : Int), (n * (T k : Nat)).natAbs ≤ 1000000000000000 → intGo n k = some (n * (T k : Nat))
  | 0, n, _ => by simp [intGo, T]
  | k + 1, n, h => by
    have h1 : n * ((T (k + 1) : Nat) : Int) = n * 10 * ((T k : Nat) : Int) := by rw [T_succ, Int.natCast_mul, ← Int.mul_assoc]; rfl
    rw [h1] at h ⊢
    have h2 : n.natAbs * 10 ≤ 1000000000000000 := by
      have h3 : (n * 10 * ((T k : Nat) : Int)).natAbs = n.natAbs * 10 * T k := by rw [Int.natAbs_mul, Int.natAbs_mul, Int.natAbs_natCast]; rfl
      rw [h3] at h
      exact Nat.le_trans (Nat.le_mul_of_pos_right _ (T_pos k)) h
    rw [intGo, if_neg (by omega)]
    exact int_go k (n * 10) h
end Go.Proofs.YteecmifjbeojeaaGreatDoor
namespace Go.Proofs.YteecmifjbeojeaaGreatDoor
open Go.RowKit NM
/-- A value's whole number, and a fault. -/
def wholeO (v : Val) : Int × Int := if tnF v = 0 then ((intS (floorS (tnP v).1 (tnP v).2).1 (floorS (tnP v).1 (tnP v).2).2).getD 0, if (intS (floorS (tnP v).1 (tnP v).2).1 (floorS (tnP v).1 (tnP v).2).2).isSome then 0 else 5) else (0, tnF v)
end Go.Proofs.YteecmifjbeojeaaGreatDoor
namespace Go.Proofs.YteecmifjbeojeaaGreatDoor
open Go.RowKit NM
def absN (p : Nm) : Nm := if p.1 < 0 then (-p.1, p.2) else p
def signN (p : Nm) : Nm := wholeN (cmpS p.1 p.2 0 0)
def roundV (x y : Val) : Val := if tnF x ≠ 0 then bad_ (tnF x) else if (wholeO y).2 ≠ 0 then bad_ (wholeO y).2 else nV (roundS (tnP x).1 (tnP x).2 (wholeO y).1)
end Go.Proofs.YteecmifjbeojeaaGreatDoor
namespace Go.Proofs.YteecmifjbeojeaaGreatDoor
open Go.RowKit NM
set_option maxHeartbeats 1000000 in
theorem wholeNumber_any (x : Val) (w : World) (hr : x.right) (y : Int × Int) (hy : wholeO x = y) :
    Calls Tryz.prog 253 #[VV x.kind x.mant x.exp x.text x.truth x.fault] w fun e w' => e = .returned (.tuple #[.int .i64 y.1, .int .i64 y.2]) ∧ Ext w w' := by
  have ht := fun W => toNum_any x W hr
  have hi1 : I64 (tnP x).1 := rt_i64 (tn_rt hr)
  subst hy
  unfold wholeO
  generalize htp : tnP x = p at *
  generalize htf : tnF x = f at *
  by_cases hf : f = 0
  · subst hf
    rw [if_pos rfl]
    have hfl := fun W => floor_any p.1 p.2 W hi1
    have hi2 : I64 (floorS p.1 p.2).1 := rt_i64 (by exact (floor_spec (by rw [← htp]; exact tn_rt hr)).1)
    generalize hq : floorS p.1 p.2 = q at *
    have hin := fun W => int_any q.1 q.2 W hi2
    cases hI : intS q.1 q.2 with
    | none =>
      rw [hI] at hin
      simp only [inV, Option.getD_none, Option.isSome_none] at hin ⊢
      simp only [tnV, htp, htf] at ht
      clear hI hq htp htf hr hi1 hi2
      go_enter Tryz.func253, Tryz.ntmps253
      go_wp2_with (first | (go_at_call 196; (with_reducible refine (ht _).mono ?_); rintro e w' ⟨rfl, hb⟩; obtain ⟨os, d, rfl⟩ := hb.more; clear hb) | (go_at_call 147; (with_reducible refine (hfl _).mono ?_); rintro e w' ⟨rfl, hb⟩; obtain ⟨os, d, rfl⟩ := hb.more; clear hb) | (go_at_call 232; (with_reducible refine (hin _).mono ?_); rintro e w' ⟨rfl, hb⟩; obtain ⟨os, d, rfl⟩ := hb.more; clear hb))
      exact bodyPost_ret (v := .tuple #[.int .i64 0, .int .i64 5]) (by simp [results, Tryz.results253, go_sem]) rfl ⟨rfl, by with_reducible repeat (first | exact Ext.refl _ | apply Ext.drew | apply Ext.alloc | apply Ext.more_)⟩
    | some i =>
      rw [hI] at hin
      simp only [inV, Option.getD_some, Option.isSome_some] at hin ⊢
      simp only [tnV, htp, htf] at ht
      clear hI hq htp htf hr hi1 hi2
      go_enter Tryz.func253, Tryz.ntmps253
      go_wp2_with (first | (go_at_call 196; (with_reducible refine (ht _).mono ?_); rintro e w' ⟨rfl, hb⟩; obtain ⟨os, d, rfl⟩ := hb.more; clear hb) | (go_at_call 147; (with_reducible refine (hfl _).mono ?_); rintro e w' ⟨rfl, hb⟩; obtain ⟨os, d, rfl⟩ := hb.more; clear hb) | (go_at_call 232; (with_reducible refine (hin _).mono ?_); rintro e w' ⟨rfl, hb⟩; obtain ⟨os, d, rfl⟩ := hb.more; clear hb))
      exact bodyPost_ret (v := .tuple #[.int .i64 i, .int .i64 0]) (by simp [results, Tryz.results253, go_sem]) rfl ⟨rfl, by with_reducible repeat (first | exact Ext.refl _ | apply Ext.drew | apply Ext.alloc | apply Ext.more_)⟩
  · rw [if_neg hf]
    have hf' : (f != 0) = true := by simpa using hf
    simp only [tnV, htp, htf] at ht
    clear htp htf hr hi1
    go_enter Tryz.func253, Tryz.ntmps253
    go_wp2_with (first | (go_at_call 196; (with_reducible refine (ht _).mono ?_); rintro e w' ⟨rfl, hb⟩; obtain ⟨os, d, rfl⟩ := hb.more; clear hb))
    exact bodyPost_ret (v := .tuple #[.int .i64 0, .int .i64 f]) (by simp [results, Tryz.results253, go_sem]) rfl ⟨rfl, by with_reducible repeat (first | exact Ext.refl _ | apply Ext.drew | apply Ext.alloc | apply Ext.more_)⟩
theorem abs_fn (w : World) : NmFn 145 absN w := by
  intro p W _ hp
  obtain ⟨m, ex⟩ := p
  have hi := rt_i64 hp
  have hng := fun W => neg_any m ex W hi
  unfold absN
  simp only
  by_cases h : m < 0
  · rw [if_pos h]
    rw [(neg_yes hp).1, (neg_yes hp).2] at hng
    simp only
    go_enter Tryz.func145, Tryz.ntmps145
    go_wp2_with (first | (go_at_call 224; (with_reducible refine (hng _).mono ?_); rintro e w' ⟨rfl, hb⟩; obtain ⟨os, d, rfl⟩ := hb.more; clear hb))
    exact bodyPost_ret (v := NV (-m) ex) (by simp [results, Tryz.results145, go_sem]) rfl ⟨rfl, by with_reducible repeat (first | exact Ext.refl _ | apply Ext.drew | apply Ext.alloc | apply Ext.more_)⟩
  · rw [if_neg h]
    simp only
    go_enter Tryz.func145, Tryz.ntmps145
    go_wp2_with fail
    exact bodyPost_ret (v := NV m ex) (by simp [results, Tryz.results145, go_sem]) rfl ⟨rfl, by with_reducible repeat (first | exact Ext.refl _ | apply Ext.drew | apply Ext.alloc | apply Ext.more_)⟩
theorem cmpS_small (a b c d : Int) : (cmpS a b c d).natAbs < T 15 := by
  have := cmpS_tri a b c d
  have hT : T 15 = 1000000000000000 := by decide
  rcases this with h | h | h <;> rw [h, hT] <;> decide
theorem sign_fn (w : World) (htab : Tab w) : NmFn 146 signN w := by
  intro p W hl hp
  obtain ⟨m, ex⟩ := p
  have hT := Lib.hid (hl.tab htab)
  have hc := fun W => cmp_any m ex 0 0 W (rt_i64 hp) (by unfold I64; omega)
  have hwh := fun W h => kwhole_any (cmpS m ex 0 0) W h (cmpS_small _ _ _ _)
  show Calls _ _ _ _ fun e W' => e = .returned (NV (wholeN (cmpS m ex 0 0)).1 (wholeN (cmpS m ex 0 0)).2) ∧ Ext W W'
  generalize cmpS m ex 0 0 = c at *
  generalize (wholeN c).1 = m1 at *
  generalize (wholeN c).2 = e1 at *
  clear htab hp hl
  go_enter Tryz.func146, Tryz.ntmps146
  go_wp2_with (first | (go_at_call 140; (with_reducible refine (hc _).mono ?_); rintro e w' ⟨rfl, hb⟩; obtain ⟨os, d, rfl⟩ := hb.more; clear hb) | (go_at_call 248; (with_reducible refine (hwh _ (hT.out.ext (by with_reducible repeat (first | exact Ext.refl _ | apply Ext.drew | apply Ext.alloc | apply Ext.more_)))).mono ?_); rintro e w' ⟨rfl, hb⟩; obtain ⟨os, d, rfl⟩ := hb.more; clear hb))
  exact bodyPost_ret (v := NV m1 e1) (by simp [results, Tryz.results146, go_sem]) rfl ⟨rfl, by with_reducible repeat (first | exact Ext.refl _ | apply Ext.drew | apply Ext.alloc | apply Ext.more_)⟩
theorem kwholeO_i64 {v : Val} (h : v.right) : I64 (wholeO v).1 := by
  unfold wholeO
  split
  · simp only
    have hr := (floor_spec (tn_rt h)).1
    generalize floorS (tnP v).1 (tnP v).2 = q at *
    cases hI : intS q.1 q.2 with
    | none => show I64 0; unfold I64; omega
    | some i => exact intS_i64 hI
  · show I64 0; unfold I64; omega
theorem right_roundV {x y : Val} (hx : x.right) : (roundV x y).right := by
  unfold roundV
  split
  · exact right_bad _
  · split
    · exact right_bad _
    · exact right_num (round_rt (tn_rt hx))
set_option maxHeartbeats 1000000 in
theorem rounded_any (x y : Val) (w : World) (hx : x.right) (hy : y.right) (z : Val) (hz : roundV x y = z) :
    Calls Tryz.prog 149 #[VV x.kind x.mant x.exp x.text x.truth x.fault, VV y.kind y.mant y.exp y.text y.truth y.fault] w fun e w' => e = .returned (VV z.kind z.mant z.exp z.text z.truth z.fault) ∧ Ext w w' := by
  have ht := fun W => toNum_any x W hx
  have hw := fun W u hu => wholeNumber_any y W hy u hu
  have hpr := tn_rt hx
  have hwi := kwholeO_i64 hy
  subst hz
  unfold roundV
  generalize htp : tnP x = p at *
  generalize htf : tnF x = f at *
  simp only [tnV, htp, htf] at ht
  have hw2 := fun W => hw W _ rfl
  generalize wholeO y = u at *
  clear hw
  by_cases hf : f = 0
  · subst hf
    rw [if_neg (by simp)]
    by_cases hu : u.2 = 0
    · rw [if_neg (by simp [hu])]
      rw [hu] at hw2
      have hrd := fun W => round_all p.1 p.2 u.1 W (rt_i64 hpr) hwi
      generalize hq : roundS p.1 p.2 u.1 = q at *
      show Calls _ _ _ _ fun e W' => e = .returned (VV 1 q.1 q.2 ⟨#[]⟩ false 0) ∧ Ext w W'
      clear htp htf hx hy hpr hwi hq hu
      go_enter Tryz.func149, Tryz.ntmps149
      go_wp2_with (first | (go_at_call 196; (with_reducible refine (ht _).mono ?_); rintro e w' ⟨rfl, hb⟩; obtain ⟨os1, d1, rfl⟩ := hb.more; clear hb) | (go_at_call 253; (with_reducible refine (hw2 _).mono ?_); rintro e w' ⟨rfl, hb⟩; obtain ⟨os2, d2, rfl⟩ := hb.more; clear hb) | (go_at_call 263; (with_reducible refine (hrd _).mono ?_); rintro e w' ⟨rfl, hb⟩; obtain ⟨os3, d3, rfl⟩ := hb.more; clear hb) | (go_at_call 183; (with_reducible refine (of_any _ _ _).mono ?_); rintro e w' ⟨rfl, hb⟩; obtain ⟨os4, d4, rfl⟩ := hb.more; clear hb))
      exact bodyPost_ret (v := VV 1 q.1 q.2 ⟨#[]⟩ false 0) (by simp [results, Tryz.results149, go_sem]) rfl ⟨rfl, by with_reducible repeat (first | exact Ext.refl _ | apply Ext.drew | apply Ext.alloc | apply Ext.more_)⟩
    · rw [if_pos hu]
      have hb := fun W => bad_any u.2 W
      have hu' : (u.2 != 0) = true := by simpa using hu
      show Calls _ _ _ _ fun e W' => e = .returned (VV 4 0 0 ⟨#[]⟩ false (badF u.2)) ∧ Ext w W'
      clear htp htf hx hy hpr hwi hu
      go_enter Tryz.func149, Tryz.ntmps149
      go_wp2_with (first | (go_at_call 196; (with_reducible refine (ht _).mono ?_); rintro e w' ⟨rfl, hb⟩; obtain ⟨os1, d1, rfl⟩ := hb.more; clear hb) | (go_at_call 253; (with_reducible refine (hw2 _).mono ?_); rintro e w' ⟨rfl, hb⟩; obtain ⟨os2, d2, rfl⟩ := hb.more; clear hb) | (go_at_call 121; (with_reducible refine (hb _).mono ?_); rintro e w' ⟨rfl, hb⟩; obtain ⟨os3, d3, rfl⟩ := hb.more; clear hb))
      exact bodyPost_ret (v := VV 4 0 0 ⟨#[]⟩ false (badF u.2)) (by simp [results, Tryz.results149, go_sem]) rfl ⟨rfl, by with_reducible repeat (first | exact Ext.refl _ | apply Ext.drew | apply Ext.alloc | apply Ext.more_)⟩
  · rw [if_pos hf]
    have hf' : (f != 0) = true := by simpa using hf
    have hb := fun W => bad_any f W
    show Calls _ _ _ _ fun e W' => e = .returned (VV 4 0 0 ⟨#[]⟩ false (badF f)) ∧ Ext w W'
    clear htp htf hx hy hpr hwi hf
    go_enter Tryz.func149, Tryz.ntmps149
    go_wp2_with (first | (go_at_call 196; (with_reducible refine (ht _).mono ?_); rintro e w' ⟨rfl, hb⟩; obtain ⟨os1, d1, rfl⟩ := hb.more; clear hb) | (go_at_call 121; (with_reducible refine (hb _).mono ?_); rintro e w' ⟨rfl, hb⟩; obtain ⟨os3, d3, rfl⟩ := hb.more; clear hb))
    exact bodyPost_ret (v := VV 4 0 0 ⟨#[]⟩ false (badF f)) (by simp [results, Tryz.results149, go_sem]) rfl ⟨rfl, by with_reducible repeat (first | exact Ext.refl _ | apply Ext.drew | apply Ext.alloc | apply Ext.more_)⟩
end Go.Proofs.YteecmifjbeojeaaGreatDoor
namespace Go.Proofs.YteecmifjbeojeaaGreatDoor
open Go.RowKit NM
theorem mcall_round (A : Option Addr) (n cap : Nat) (gs : List GA) (w : World) (htab : Tab w) (h : ArgsG w A n cap gs) : Calls Tryz.prog 29 #[.string ⟨#[82, 79, 85, 78, 68]⟩, .slice A n cap] w (CallG w (callX 2 2 gs (bothO roundV (arsOf gs)))) :=
  kcall_any ⟨#[82, 79, 85, 78, 68]⟩ 2 2 262 (fun p => #[.pointer (some ⟨p 13, 0, none⟩)]) (by decide) (fun _ => rfl) (fun args W => by go_simp) (by decide) (by decide) A n cap gs w h _ (fun hr h1 h2 p W hW hB => by
    obtain ⟨a, b, hx, hn, ha, hb⟩ := two_args (arsOf_in h hr) h1 h2
    have hi := (arsOf_in h hr).ext hW
    have hT := htab.ext hW
    unfold bothO
    rw [ha, hb]
    rw [hx] at hi
    subst hn
    exact kofBoth_any A cap a b 149 roundV (p 13) W hi (fun x y V hl _ _ hx hy => rounded_any x y V hx hy _ rfl) (fun x y hx _ => (right_roundV hx).ok) (fun args W => by go_simp) (box_cell (t := 70) hB (by simp [fmathB])))
theorem abs_rt : ∀ p : Nm, Rt p.1 p.2 → Rt (absN p).1 (absN p).2 := fun p h => by unfold absN; split; exact Rt_neg h; exact h
theorem mcall_abs (A : Option Addr) (n cap : Nat) (gs : List GA) (w : World) (htab : Tab w) (h : ArgsG w A n cap gs) : Calls Tryz.prog 29 #[.string ⟨#[65, 66, 83]⟩, .slice A n cap] w (CallG w (callX 1 1 gs (eachArg absN (arsOf gs)))) :=
  kcall_any ⟨#[65, 66, 83]⟩ 1 1 257 (fun p => #[.pointer (some ⟨p 10, 0, none⟩)]) (by decide) (fun _ => rfl) (fun args W => by go_simp) (by decide) (by decide) A n cap gs w h _ (fun hr h1 h2 p W hW hB => by
    obtain ⟨a, hx, hn, ha⟩ := one_arg (arsOf_in h hr) h1 h2
    have hi := (arsOf_in h hr).ext hW
    have hT := htab.ext hW
    unfold eachArg
    rw [ha]
    rw [hx] at hi
    subst hn
    exact kofEach_any A cap a 145 absN (p 10) W hi (abs_fn W) abs_rt (fun args W => by go_simp) (box_cell (t := 83) hB (by simp [fmathB])))
end Go.Proofs.YteecmifjbeojeaaGreatDoor
namespace Go.Proofs.YteecmifjbeojeaaGreatDoor
open Go.RowKit NM
theorem int_whole {n : Int} (h : n.natAbs < T 15) : intS (wholeN n).1 (wholeN n).2 = some n := by
  obtain ⟨h1, h2, h3, h4, h5⟩ := wholex h
  generalize wholeN n = p at *
  obtain ⟨m, e⟩ := p
  simp only at *
  have hH := HX_pos
  have hq : m * (T e.toNat : Nat) = n := by
    rw [sc_whole h5, sc_whole (m := n) (e := 0) (by omega)] at h3
    have h6 := Int.eq_of_mul_eq_mul_right (by omega) h3
    rw [h6]
    show n * ((T 0 : Nat) : Int) = n
    simp [T]
  have hT15 : T 15 = 1000000000000000 := by decide
  rw [hT15] at h
  unfold intS
  rw [if_neg (by rintro (h | h); exact h h2; omega), int_go _ _ (by rw [hq]; omega), hq]
end Go.Proofs.YteecmifjbeojeaaGreatDoor
namespace Go.Proofs.YteecmifjbeojeaaGreatDoor
open Go.RowKit NM
theorem sg_not (b : Bool) (N : Nat) : sg (!b) N = -sg b N := by cases b <;> simp [sg]
theorem fin_neg (b : Bool) (N : Nat) (E : Int) : fin (!b) N E = (fin b N E).map fun r => (-r.1, r.2) := by
  unfold fin
  split
  · rfl
  · split
    · rfl
    · simp [sg_not]
theorem round_neg {m e p : Int} (h : Rt m e) : roundS (-m) e p = (-(roundS m e p).1, (roundS m e p).2) := by
  by_cases hm : m = 0
  · subst hm
    obtain rfl : e = 0 := by rcases h with ⟨_, h⟩ | ⟨h, _⟩; exact h; exact absurd rfl h
    rw [show (-0 : Int) = 0 from rfl, round_zero]; rfl
  · have hn := Rt_neg h
    unfold roundS
    have hd : decide (-m < 0) = !decide (m < 0) := by
      by_cases h0 : m < 0
      · rw [decide_eq_true h0, decide_eq_false (by omega)]; rfl
      · rw [decide_eq_false h0, decide_eq_true (by omega)]; rfl
    by_cases h1 : p < -40
    · rw [if_pos (Or.inr h1), if_pos (Or.inr h1)]; rfl
    · have c1 : ¬ (¬ Rt (-m) e ∨ p < -40) := by rintro (h4 | h4); exact h4 hn; omega
      have c2 : ¬ (¬ Rt m e ∨ p < -40) := by rintro (h4 | h4); exact h4 h; omega
      rw [if_neg c1, if_neg c2]
      by_cases h2 : 40 ≤ p ∨ -p ≤ e
      · rw [if_pos h2, if_pos h2]
      · rw [if_neg h2, if_neg h2, hd, fin_neg, Int.natAbs_neg]
        cases fin (decide (m < 0)) (cutUp m.natAbs (-p - e).toNat) (-p) <;> rfl
theorem round_pos {m e p : Int} (h : Rt m e) (h0 : 0 ≤ m) : 0 ≤ (roundS m e p).1 := by
  have h1 := round_mono (p := p) rt_zero h (by rw [sc_nought]; have := @sc_sign m e; omega)
  rw [round_zero] at h1
  have h2 : sc (roundS m e p).1 (roundS m e p).2 < 0 ↔ (roundS m e p).1 < 0 := sc_sign
  have h3 : sc ((0, 0) : Int × Int).1 ((0, 0) : Int × Int).2 = 0 := sc_nought
  rw [h3] at h1
  omega
theorem abs_round {m e p : Int} (h : Rt m e) : absN (roundS m e p) = roundS (absN (m, e)).1 (absN (m, e)).2 p := by
  unfold absN
  by_cases hm : m < 0
  · rw [if_pos (show ((m, e) : Int × Int).1 < 0 from hm)]
    show _ = roundS (-m) e p
    have h1 := round_pos (p := p) (Rt_neg h) (by omega)
    rw [round_neg h] at h1 ⊢
    simp only at h1
    by_cases h2 : (roundS m e p).1 < 0
    · rw [if_pos h2]
    · rw [if_neg h2, show -(roundS m e p).1 = (roundS m e p).1 by omega]
  · rw [if_neg (show ¬ ((m, e) : Int × Int).1 < 0 from hm)]
    have h1 := round_pos (p := p) h (by omega)
    rw [if_neg (by omega)]
theorem RS_small {N i : Nat} (hN : N < T 15) (hi : 60 ≤ i) : RS ((N * T i : Nat) : Int) = (N * T i : Nat) ∧ RS (-((N * T i : Nat) : Int)) = -((N * T i : Nat) : Int) := by
  have h := R_small hN hi
  unfold RS
  constructor
  · rw [if_neg (by omega), Int.natAbs_natCast, h]
  · by_cases h0 : N * T i = 0
    · rw [h0, if_neg (by simp)]; simp [R_zero]
    · rw [if_pos (by omega), Int.natAbs_neg, Int.natAbs_natCast, h]
theorem RS_within {N i : Nat} (hN : N < T 15) (hi : 60 ≤ i) {x : Int} (h : x.natAbs ≤ N * T i) : (RS x).natAbs ≤ N * T i := by
  obtain ⟨a, b⟩ := RS_small hN hi
  have h1 : RS x ≤ RS ((N * T i : Nat) : Int) := RS_mono (by omega)
  have h2 : RS (-((N * T i : Nat) : Int)) ≤ RS x := RS_mono (by omega)
  rw [a] at h1
  rw [b] at h2
  omega
theorem HI_near {U : Nat} (hU : 0 < U) (x : Int) : 2 * (HI U x - x).natAbs ≤ U := by
  have h := GU_near (x := x.natAbs) hU
  unfold HI HU
  by_cases h0 : x < 0
  · rw [if_pos h0]; split <;> omega
  · rw [if_neg h0]; split <;> omega
/-- What is rounded to k places is no more than half a unit off. -/
theorem round_off {m e k : Int} (h : Rt m e) (h1 : -14 ≤ k) (h2 : k ≤ 14) {o t : Int × Int} (ho : subS (roundS m e k).1 (roundS m e k).2 m e = some o) (ht : mulS o.1 o.2 2 0 = some t) :
    Rt 1 (-k) ∧ Rt o.1 o.2 ∧ Rt t.1 t.2 ∧ cmpS (if o.1 < 0 then -t.1 else t.1) t.2 1 (-k) ≤ 0 := by
  have hT15 : T 15 = 1000000000000000 := by decide
  have hu : Rt 1 (-k) := rt_lit (by decide) (by decide) (by decide) (by omega) (by omega)
  obtain ⟨ro, so⟩ := sub_sc (round_rt (p := k) h) h ho
  obtain ⟨rt, st⟩ := mul_sc ro (rt_lit (by decide) (by decide) (by decide) (by omega) (by omega)) ht
  refine ⟨hu, ro, rt, ?_⟩
  obtain ⟨i, hi⟩ : ∃ i : Nat, (100 - k).toNat = i + 1 := ⟨(100 - k).toNat - 1, by omega⟩
  have hn := HI_near (T_pos (100 - k).toNat) (sc m e)
  rw [round_sc h (by omega) (by omega)] at so
  rw [hi, T_succ] at hn
  have h3 := RS_within (N := 5) (i := i) (by omega) (by omega) (x := HI (T (100 - k).toNat) (sc m e) - sc m e) (by rw [hi, T_succ]; omega)
  rw [← so] at h3
  have e1 : o.1 * 2 * ((T (o.2 + 0 + 100).toNat : Nat) : Int) = 2 * sc o.1 o.2 := by
    unfold sc; rw [Int.add_zero, Int.mul_comm o.1 2, Int.mul_assoc]
  rw [e1] at st
  have h4 := RS_within (N := 1) (i := i + 1) (by omega) (by omega) (x := 2 * sc o.1 o.2) (by rw [T_succ]; omega)
  rw [← st] at h4
  have hs1 : sc 1 (-k) = (T (i + 1) : Nat) := by
    unfold sc; rw [show (-k + 100).toNat = i + 1 by omega, Int.one_mul]
  have rt' : Rt (if o.1 < 0 then -t.1 else t.1) t.2 := by split; exact Rt_neg rt; exact rt
  refine (cmp_le rt' hu).2 ?_
  rw [hs1]
  have h5 : sc (-t.1) t.2 = -sc t.1 t.2 := by unfold sc; rw [Int.neg_mul]
  split
  · rw [h5]; omega
  · omega
theorem whole_places {k : Int} (h1 : -14 ≤ k) (h2 : k ≤ 14) : wholeO (nV (wholeN k)) = (k, 0) := by
  have hT15 : T 15 = 1000000000000000 := by decide
  obtain ⟨_, w1, w2, _, _⟩ := wholex (n := k) (by omega)
  have hp := HX_pos
  have hf : floorS (wholeN k).1 (wholeN k).2 = wholeN k := floor_uniq w1 (by omega) (by rw [w2, sc_whole0]; exact Int.le_refl _) (by
    rw [w2, sc_whole0, Int.add_mul, Int.one_mul]
    show k * HX < k * HX + HX
    omega)
  unfold wholeO
  rw [if_pos (show tnF (nV (wholeN k)) = 0 from rfl)]
  show ((intS (floorS (wholeN k).1 (wholeN k).2).1 (floorS (wholeN k).1 (wholeN k).2).2).getD 0, _) = _
  rw [hf, show (tnP (nV (wholeN k))) = wholeN k from rfl, hf, int_whole (by omega)]
  rfl
theorem roundV_num {p : Nm} {k : Int} (h1 : -14 ≤ k) (h2 : k ≤ 14) : roundV (nV p) (nV (wholeN k)) = nV (roundS p.1 p.2 k) := by
  unfold roundV
  rw [whole_places h1 h2, if_neg (show ¬ tnF (nV p) ≠ 0 from fun h => h rfl), if_neg (by simp)]
  rfl
end Go.Proofs.YteecmifjbeojeaaGreatDoor
namespace Go.Proofs.YteecmifjbeojeaaGreatDoor
open Go.RowKit
/-- An operation that may come up at any time: its number, its slot, the object that it makes, what it answers. -/
structure FX where
  i : Nat
  t : Nat
  ob : Obj
  yv : Nat → Value
def putX : List FX → (Nat → Option Nat) → Act → Act
  | [], _, a => a
  | x :: fs, β, a => match β x.i with
    | none => putX fs β a
    | some b => (putX fs β a).put (some x.t) (x.yv b)
def nx (fs : List FX) (β : Nat → Option Nat) : Nat := fs.countP fun x => (β x.i).isNone
theorem putX_congr {β β' : Nat → Option Nat} {a : Act} : ∀ {fs : List FX}, (∀ x ∈ fs, β x.i = β' x.i) → putX fs β a = putX fs β' a
  | [], _ => rfl
  | x :: fs, h => by
    unfold putX
    rw [h x (by simp), putX_congr (fs := fs) fun y hy => h y (by simp [hy])]
theorem putX_put {β : Nat → Option Nat} {a : Act} {d : Option Tmp} {v : Value} : ∀ {fs : List FX}, (∀ x ∈ fs, d ≠ some x.t) → putX fs β (a.put d v) = (putX fs β a).put d v
  | [], _ => rfl
  | x :: fs, h => by
    unfold putX
    rw [putX_put (fs := fs) fun y hy => h y (by simp [hy])]
    cases β x.i with
    | none => rfl
    | some b => exact Act.put_comm _ _ _ fun e he hx => h x (by simp) (by rw [he, hx])
theorem putX_set {β : Nat → Option Nat} {a : Act} {x : FX} {b : Nat} : ∀ {fs : List FX}, x ∈ fs → (fs.map (·.i)).Nodup → (fs.map (·.t)).Nodup → β x.i = none → putX fs (setB β x.i b) a = (putX fs β a).put (some x.t) (x.yv b)
  | [], h, _, _, _ => by cases h
  | y :: fs, h, hn, hs, hb => by
    simp only [List.map_cons, List.nodup_cons, List.mem_map, not_exists, not_and] at hn hs
    unfold putX
    by_cases hxy : y.i = x.i
    · have hyx : y = x := by
        rcases List.mem_cons.1 h with rfl | h'
        · rfl
        · exact absurd hxy.symm (hn.1 x h')
      subst hyx
      have e : putX fs (setB β y.i b) a = putX fs β a := putX_congr fun z hz => by
        unfold setB; rw [if_neg (fun e => hn.1 z hz e)]
      simp only [setB, if_true, hb] at e ⊢
      rw [e]
    · have hx : x ∈ fs := by
        rcases List.mem_cons.1 h with rfl | h'
        · exact absurd rfl hxy
        · exact h'
      have e : setB β x.i b y.i = β y.i := by unfold setB; rw [if_neg hxy]
      rw [e, putX_set hx hn.2 hs.2 hb]
      cases β y.i with
      | none => rfl
      | some b' => exact Act.put_comm _ _ _ fun d hd hd' => hs.1 x hx (by simp_all)
theorem nx_set {β : Nat → Option Nat} {x : FX} {b : Nat} : ∀ {fs : List FX}, x ∈ fs → (fs.map (·.i)).Nodup → β x.i = none → nx fs (setB β x.i b) + 1 = nx fs β
  | [], h, _, _ => by cases h
  | y :: fs, h, hn, hb => by
    simp only [List.map_cons, List.nodup_cons, List.mem_map, not_exists, not_and] at hn
    unfold nx
    rw [List.countP_cons, List.countP_cons]
    by_cases hxy : y.i = x.i
    · have e : fs.countP (fun z => (setB β x.i b z.i).isNone) = fs.countP (fun z => (β z.i).isNone) := by
        refine List.countP_congr fun z hz => ?_
        rw [show setB β x.i b z.i = β z.i by unfold setB; rw [if_neg (fun e => hn.1 z hz (e.trans hxy.symm))]]
      rw [e, show setB β x.i b y.i = some b by unfold setB; rw [if_pos hxy], show β y.i = none by rw [hxy]; exact hb]
      simp
    · have hx : x ∈ fs := by
        rcases List.mem_cons.1 h with rfl | h'
        · exact absurd rfl hxy
        · exact h'
      have ih := nx_set (b := b) hx hn.2 hb
      unfold nx at ih
      rw [show setB β x.i b y.i = β y.i by unfold setB; rw [if_neg hxy]]
      omega
theorem nodup_injX {x y : FX} : ∀ {fs : List FX}, (fs.map (·.i)).Nodup → x ∈ fs → y ∈ fs → x.i = y.i → x = y
  | [], _, h, _, _ => by cases h
  | z :: fs, hn, hx, hy, e => by
    simp only [List.map_cons, List.nodup_cons, List.mem_map, not_exists, not_and] at hn
    rcases List.mem_cons.1 hx with rfl | hx'
    · rcases List.mem_cons.1 hy with rfl | hy'
      · rfl
      · exact absurd e.symm (hn.1 y hy')
    · rcases List.mem_cons.1 hy with rfl | hy'
      · exact absurd e (hn.1 x hx')
      · exact nodup_injX hn.2 hx' hy' e
section
variable {P : Program} {ops : Array Oper} {Q : Exit → Act → World → Prop} {tl : List Nat}
theorem wpOp_putX {j : Nat} {oj : Oper} {β : Nat → Option Nat} (hj : ops[j]? = some oj) (hsj : ∀ cs b, oj.op ≠ .select cs b) (hQ : ∀ c a d v w, Q (.panic c) a w → Q (.panic c) (a.put d v) w)
    {K : Act → World → Prop} {a : Act} {w : World} (h : wpOp P ops Q j K a w) : ∀ {fs : List FX}, (∀ x ∈ fs, x.t ∉ oj.looksAt ops ∧ oj.dst ≠ some x.t) →
    wpOp P ops Q j (fun a' w' => ∃ a'', a' = putX fs β a'' ∧ K a'' w') (putX fs β a) w
  | [], _ => wpOp_mono (fun a' w' h' => ⟨a', rfl, h'⟩) h
  | x :: fs, hx => by
    have ih := wpOp_putX (β := β) hj hsj hQ h (fs := fs) fun y hy => hx y (by simp [hy])
    unfold putX
    cases β x.i with
    | none => exact ih
    | some b =>
      refine wpOp_mono ?_ (wpOp_put1 (v := x.yv b) hj hsj (hx x (by simp)).1 (hx x (by simp)).2 (fun c a w => hQ c a _ _ w) ih)
      rintro a' w' ⟨a1, rfl, a2, rfl, hk⟩
      exact ⟨a2, rfl, hk⟩
theorem yields_putX {S : World → Prop} {o : Oper} {v : Value} {a : Act} {β : Nat → Option Nat} (hs : ∀ cs b, o.op ≠ .select cs b) (hy : YieldsIf P ops S o v a) : ∀ {fs : List FX}, (∀ x ∈ fs, x.t ∉ o.looksAt ops) → YieldsIf P ops S o v (putX fs β a)
  | [], _ => hy
  | x :: fs, hx => by
    have ih := yields_putX (β := β) hs hy (fs := fs) fun y hy => hx y (by simp [hy])
    unfold putX
    cases β x.i with
    | none => exact ih
    | some b =>
      have h1 : ∀ e, (some x.t : Option Tmp) = some e → e ∉ o.looksAt ops := fun e he => by obtain rfl := Option.some.inj he; exact hx x (by simp)
      exact ih.of_same (execOp_put o hs _ _ _ h1) (wanted_put o _ _ _ h1)
theorem wanted_putX {o : Oper} {a : Act} {β : Nat → Option Nat} : ∀ {fs : List FX}, (∀ x ∈ fs, x.t ∉ o.looksAt ops) → Region.wanted o (yielded ops (putX fs β a).tmps) = Region.wanted o (yielded ops a.tmps)
  | [], _ => rfl
  | x :: fs, hx => by
    have ih := wanted_putX (a := a) (β := β) (fs := fs) fun y hy => hx y (by simp [hy])
    unfold putX
    cases β x.i with
    | none => exact ih
    | some b => exact (wanted_put o _ _ _ (fun e he => by obtain rfl := Option.some.inj he; exact hx x (by simp))).trans ih
theorem exec_putX {o : Oper} {a : Act} {β : Nat → Option Nat} (hs : ∀ cs b, o.op ≠ .select cs b) : ∀ {fs : List FX}, (∀ x ∈ fs, x.t ∉ o.looksAt ops) → execOp (putX fs β a).eval o = execOp a.eval o
  | [], _ => rfl
  | x :: fs, hx => by
    have ih := exec_putX (a := a) (β := β) hs (fs := fs) fun y hy => hx y (by simp [hy])
    unfold putX
    cases β x.i with
    | none => exact ih
    | some b =>
      have h1 : ∀ e, (some x.t : Option Tmp) = some e → e ∉ o.looksAt ops := fun e he => by obtain rfl := Option.some.inj he; exact hx x (by simp)
      exact (execOp_put o hs _ _ _ h1).trans ih
/-- Behind an operation the others read what they read, its own slot apart. -/
def sameFor (ops : Array Oper) (d : Option Tmp) (a a' : Act) : Prop := ∀ o : Oper, (∀ cs b, o.op ≠ .select cs b) → (∀ e, d = some e → e ∉ o.looksAt ops) → execOp a'.eval o = execOp a.eval o ∧ Region.wanted o (yielded ops a'.tmps) = Region.wanted o (yielded ops a.tmps)
theorem sameFor_put {d : Option Tmp} {a : Act} {v : Value} : sameFor ops d a (a.put d v) := fun o hs h => ⟨execOp_put o hs _ _ _ h, wanted_put o _ _ _ h⟩
theorem wpOp_same {j : Nat} {oj : Oper} (hj : ops[j]? = some oj) {K : Act → World → Prop} {a : Act} {w : World} (h : wpOp P ops Q j K a w) : wpOp P ops Q j (fun a' w' => sameFor ops oj.dst a a' ∧ K a' w') a w := by
  unfold wpOp at *
  simp only [hj] at *
  split
  · rename_i hw
    simp only [hw, if_true] at h
    rcases h with h | ⟨hasks, hlets⟩
    case inr => exact .inr ⟨hasks, hlets⟩
    refine .inl ?_
    unfold Oper.wp at *
    generalize (execOp a.eval oj).run P w = r at *
    cases r with
    | ok n w' =>
      cases n <;> simp only [Oper.upon] at h ⊢
      case value u => exact ⟨sameFor_put, h⟩
      case skip => exact ⟨sameFor_put, h⟩
      case defer f => exact ⟨fun o hs ho => ⟨execOp_put o hs { a with defers := f :: a.defers } _ _ ho, wanted_put o { a with defers := f :: a.defers } _ _ ho⟩, h⟩
      case enter f args =>
        refine Calls.mono h fun e w'' he => ?_
        cases e with
        | returned u => exact ⟨sameFor_put, he⟩
        | panicked c => exact he
        | outgrown => exact he
      case row row args => exact Rows.mono h fun u w'' he => ⟨sameFor_put, he⟩
    | halt x w' =>
      cases x <;> simp only [Oper.upon] at h ⊢
      case panic u => exact h
      all_goals exact h
  · rename_i hw
    simp only [hw] at h
    exact ⟨sameFor_put, h⟩
def wpFg (P : Program) (ops : Array Oper) (Q : Exit → Act → World → Prop) (W0 : World) (tp : List Nat) : List (Nat × Nat) → List FX → List Nat → Act → (World → Prop) → Prop
  | [], _, _, a, E => ∀ w, Ext W0 w → E w → wpTl P ops Q tp a w
  | (i, 0) :: rest, fs, bs, a, E => ∃ o v, ops[i]? = some o ∧ YieldsIf P ops (Ext W0) o v a ∧ wpFg P ops Q W0 tp rest fs bs (a.put o.dst v) E
  | (i, 2) :: rest, fs, bs, a, E => ∃ o v, ops[i]? = some o ∧ YieldsIf P ops (fun _ => True) o v a ∧ wpFg P ops Q W0 tp rest fs bs (a.put o.dst v) E
  | (_, 3) :: rest, fs, bs, a, E => ∃ x fs', fs = x :: fs' ∧ ∀ b, W0.heap.size ≤ b → b ∉ bs → (∀ w1 w2, Ext w1 w2 → E w1 → E w2) → ∃ E' : World → Prop, (∀ w1 w2, Ext w1 w2 → E' w1 → E' w2) ∧ (∀ w, Ext W0 w → E w → w.heap[b]? = some x.ob → E' w) ∧ wpFg P ops Q W0 tp rest fs' (b :: bs) (a.put (some x.t) (x.yv b)) E'
  | (i, 4) :: rest, fs, bs, a, E => ∃ x o, x.i = i ∧ ops[i]? = some o ∧ o.dst = some x.t ∧ Region.wanted o (yielded ops a.tmps) = true ∧ (∀ w, (execOp a.eval o).run P w = .ok (.value (x.yv w.heap.size)) (w.alloc x.ob)) ∧ wpFg P ops Q W0 tp rest (x :: fs) bs a E
  | (i, 5) :: rest, fs, bs, a, E => ∀ w, Ext W0 w → E w → wpOp P ops Q i (fun a' w' => Ext W0 w' ∧ w.heap.size ≤ w'.heap.size ∧ ∃ E' : World → Prop, (∀ w1 w2, Ext w1 w2 → E' w1 → E' w2) ∧ E' w' ∧ wpFg P ops Q W0 tp rest fs bs a' E') a w
  | (i, _) :: rest, fs, bs, a, E => ∀ w, Ext W0 w → E w → wpOp P ops Q i (fun a' w' => Ext w w' ∧ ∃ E' : World → Prop, (∀ w1 w2, Ext w1 w2 → E' w1 → E' w2) ∧ E' w' ∧ wpFg P ops Q W0 tp rest fs bs a' E') a w
def awayB (ops : Array Oper) (o : Oper) (F : List Nat) : Bool :=
  o.after.all (fun e => !Region.binds .any e || !F.contains e.on) && F.all (fun k => match ops[k]? with
    | some ok => (match ok.dst with | some t => !(o.looksAt ops).contains t && o.dst != some t | none => false) && (match o.dst with | some d => !(ok.looksAt ops).contains d | none => true) && o.apart ops ok
    | none => false)
def planG (ops : Array Oper) (tl pu : List Nat) : Array Bool → List Nat → List (Nat × Nat) → Bool
  | lF, F, [] => F.isEmpty
  | lF, F, (i, 0) :: rest => Region.free .any ops lF i && (Region.ready .any ops lF).contains i && !tl.contains i && !F.contains i &&
      tl.all (fun j => lF.getD j true || match ops[j]? with | some oj => oj.after.any (fun e => Region.binds .any e && depB ops F lF i 4 e.on) | none => true) &&
      (match ops[i]? with | some o => awayB ops o F | none => false) && planG ops tl pu (lF.setIfInBounds i true) F rest
  | lF, F, (i, 2) :: rest => Region.free .any ops lF i && (Region.ready .any ops lF).contains i && !tl.contains i && !F.contains i && pu.contains i &&
      (match ops[i]? with | some o => awayB ops o F | none => false) && planG ops tl pu (lF.setIfInBounds i true) F rest
  | lF, F, (i, 3) :: rest => (F.head? == some i) && (Region.ready .any ops lF).all (fun j => match ops[j]? with | some oj => oj.after.any (fun e => Region.binds .any e && e.on == i) | none => false) && planG ops tl pu lF F.tail rest
  | lF, F, (i, 4) :: rest => (lF[i]? == some false) && !tl.contains i && !F.contains i &&
      (match ops[i]? with | some o => o.after.all (fun e => !Region.binds .any e || lF.getD e.on false) && (match o.dst with | some t => !(o.looksAt ops).contains t | none => false) && awayB ops o F | none => false) && planG ops tl pu (lF.setIfInBounds i true) (i :: F) rest
  | lF, F, (i, 5) :: rest => F.isEmpty && (Region.ready .any ops lF == [i]) && !tl.contains i && !pu.contains i &&
      (match ops[i]? with | some o => awayB ops o F | none => false) && planG ops tl pu (lF.setIfInBounds i true) F rest
  | lF, F, (i, _) :: rest => (Region.ready .any ops lF == [i]) && !tl.contains i && !F.contains i && !pu.contains i &&
      (match ops[i]? with | some o => awayB ops o F | none => false) && planG ops tl pu (lF.setIfInBounds i true) F rest
def listG (listed : Array Bool) (pl : List (Nat × Nat)) : Array Bool := pl.foldl (fun l x => if x.2 = 3 then l else l.setIfInBounds x.1 true) listed
def cost (pl : List (Nat × Nat)) : Nat := pl.countP fun x => x.2 != 3
theorem cost_ne {i k : Nat} {rest : List (Nat × Nat)} (h : k ≠ 3) : cost ((i, k) :: rest) = cost rest + 1 := by
  unfold cost; rw [List.countP_cons, if_pos (by simpa using h)]
theorem cost_eq {i : Nat} {rest : List (Nat × Nat)} : cost ((i, 3) :: rest) = cost rest := by
  unfold cost; rw [List.countP_cons, if_neg (by simp), Nat.add_zero]
/-- How far they have come up. -/
structure RelX (fs : List FX) (listed lF : Array Bool) (β : Nat → Option Nat) : Prop where
  size : listed.size = lF.size
  main : ∀ j, j ∉ fs.map (·.i) → listed[j]? = lF[j]?
  done : ∀ x ∈ fs, listed[x.i]? = some (β x.i).isSome ∧ lF[x.i]? = some true
theorem RelX.step {fs : List FX} {listed lF : Array Bool} {β : Nat → Option Nat} (h : RelX fs listed lF β) {i : Nat} (hi : i ∉ fs.map (·.i)) : RelX fs (listed.setIfInBounds i true) (lF.setIfInBounds i true) β := by
  refine ⟨by simp [h.size], fun j hj => ?_, fun x hx => ?_⟩
  · rw [Array.getElem?_setIfInBounds, Array.getElem?_setIfInBounds, h.size, h.main j hj]
  · have hne : i ≠ x.i := fun e => hi (by rw [e]; exact List.mem_map.2 ⟨x, hx, rfl⟩)
    rw [Array.getElem?_setIfInBounds_ne hne, Array.getElem?_setIfInBounds_ne hne]
    exact h.done x hx
theorem RelX.float {fs : List FX} {listed lF : Array Bool} {β : Nat → Option Nat} (h : RelX fs listed lF β) {x : FX} (hx : x ∈ fs) (b : Nat) : RelX fs (listed.setIfInBounds x.i true) lF (setB β x.i b) := by
  refine ⟨by simp [h.size], fun j hj => ?_, fun y hy => ?_⟩
  · rw [Array.getElem?_setIfInBounds_ne (fun e => hj (by rw [← e]; exact List.mem_map.2 ⟨x, hx, rfl⟩))]; exact h.main j hj
  · refine ⟨?_, (h.done y hy).2⟩
    have hl := (h.done y hy).1
    by_cases hxy : x.i = y.i
    · rw [← hxy, Array.getElem?_setIfInBounds_self]
      have : x.i < listed.size := by rw [hxy]; exact (Array.getElem?_eq_some_iff.1 hl).1
      simp [this, setB]
    · rw [Array.getElem?_setIfInBounds_ne hxy, hl]
      unfold setB; rw [if_neg (fun e => hxy e.symm)]
theorem RelX.wait {x : FX} {fs : List FX} {listed lF : Array Bool} {β : Nat → Option Nat} (h : RelX (x :: fs) listed lF β) (hb : (β x.i).isSome = true) : RelX fs listed lF β := by
  refine ⟨h.size, fun j hj => ?_, fun y hy => h.done y (by simp [hy])⟩
  by_cases e : j = x.i
  · subst e; rw [(h.done x (by simp)).1, (h.done x (by simp)).2, hb]
  · exact h.main j (by simp only [List.map_cons, List.mem_cons, not_or]; exact ⟨e, hj⟩)
theorem RelX.launch {x : FX} {fs : List FX} {listed lF : Array Bool} {β : Nat → Option Nat} (h : RelX fs listed lF β) (hi : x.i ∉ fs.map (·.i)) (hl : lF[x.i]? = some false) (hb : β x.i = none) : RelX (x :: fs) listed (lF.setIfInBounds x.i true) β := by
  refine ⟨by simp [h.size], fun j hj => ?_, fun y hy => ?_⟩
  · simp only [List.map_cons, List.mem_cons, not_or] at hj
    rw [Array.getElem?_setIfInBounds_ne (fun e => hj.1 e.symm)]; exact h.main j hj.2
  · rcases List.mem_cons.1 hy with rfl | hy
    · refine ⟨by rw [h.main _ hi, hl, hb]; rfl, ?_⟩
      have := (Array.getElem?_eq_some_iff.1 hl).1
      simp [this]
    · have hne : x.i ≠ y.i := fun e => hi (by rw [e]; exact List.mem_map.2 ⟨y, hy, rfl⟩)
      refine ⟨(h.done y hy).1, ?_⟩
      rw [Array.getElem?_setIfInBounds_ne hne]; exact (h.done y hy).2
theorem depX_of {fs : List FX} {listed lF : Array Bool} {β : Nat → Option Nat} (hR : RelX fs listed lF β) {i : Nat} : ∀ (n k : Nat), depB ops (fs.map (·.i)) lF i n k = true → dep ops listed i n k
  | 0, k, h => by show k = i; simpa [depB] using h
  | n + 1, k, h => by
    simp only [depB, Bool.or_eq_true, beq_iff_eq, Bool.and_eq_true, Bool.not_eq_true'] at h
    rcases h with h | ⟨⟨hF, hun⟩, h⟩
    · exact .inl h
    · right
      refine ⟨by rw [getD_same (hR.main k (by simpa using hF))]; exact hun, ?_⟩
      cases hom : ops[k]? with
      | none => rw [hom] at h; cases h
      | some om =>
        rw [hom] at h
        obtain ⟨e', he', hb'⟩ := Array.any_eq_true'.1 h
        simp only [Bool.and_eq_true] at hb'
        exact ⟨om, rfl, e', he', hb'.1, depX_of hR n _ hb'.2⟩
/-- What is known of those under way. -/
structure FgOk (P : Program) (ops : Array Oper) (tl : List Nat) (fs : List FX) (lF : Array Bool) (a : Act) : Prop where
  fl : ∀ x ∈ fs, ∃ o, ops[x.i]? = some o ∧ Region.wanted o (yielded ops a.tmps) = true ∧ o.dst = some x.t ∧ tl.contains x.i = false ∧ (∀ e ∈ o.after, Region.binds .any e = true → lF[e.on]? = some true ∧ e.on ∉ fs.map (·.i)) ∧
    (∀ y ∈ fs, y.t ∉ o.looksAt ops) ∧ ∀ w, (execOp a.eval o).run P w = .ok (.value (x.yv w.heap.size)) (w.alloc x.ob)
  n1 : (fs.map (·.i)).Nodup
  n2 : (fs.map (·.t)).Nodup
theorem away {o : Oper} {F : List Nat} (h : awayB ops o F = true) : (∀ e ∈ o.after, Region.binds .any e = true → e.on ∉ F) ∧ ∀ k ∈ F, ∀ ok, ops[k]? = some ok → ∃ t, ok.dst = some t ∧ t ∉ o.looksAt ops ∧ o.dst ≠ some t ∧ (∀ d, o.dst = some d → d ∉ ok.looksAt ops) ∧ o.apart ops ok = true := by
  simp only [awayB, Bool.and_eq_true, List.all_eq_true, Array.all_eq_true_iff_forall_mem] at h
  refine ⟨fun e he hb hin => ?_, fun k hk ok hok => ?_⟩
  · have := h.1 e he
    rw [hb] at this
    simp only [Bool.not_true, Bool.false_or, Bool.not_eq_true'] at this
    exact absurd hin (by simpa using this)
  · have := h.2 k hk
    rw [hok] at this
    simp only [Bool.and_eq_true] at this
    obtain ⟨⟨h1, h2⟩, h3⟩ := this
    cases hd : ok.dst with
    | none => rw [hd] at h1; cases h1
    | some t =>
      rw [hd] at h1
      simp only [Bool.and_eq_true] at h1
      refine ⟨t, rfl, by simpa using h1.1, by simpa using h1.2, fun d hd' => ?_, h3⟩
      rw [hd'] at h2
      simpa using h2
theorem FgOk.step {fs : List FX} {lF : Array Bool} {a a' : Act} {i : Nat} {o : Oper} (h : FgOk P ops tl fs lF a) (hsel : Region.noSelect ops = true) (haw : awayB ops o (fs.map (·.i)) = true) (hs : sameFor ops o.dst a a') : FgOk P ops tl fs (lF.setIfInBounds i true) a' := by
  refine ⟨fun x hx => ?_, h.n1, h.n2⟩
  obtain ⟨ox, h1, h2, h3, h4, h5, h6, h7⟩ := h.fl x hx
  obtain ⟨t, _, _, _, hd, _⟩ := (away haw).2 x.i (List.mem_map.2 ⟨x, hx, rfl⟩) ox h1
  have hsx := hs ox (fun cs b => Region.noSelect_spec hsel x.i ox cs b h1) hd
  refine ⟨ox, h1, hsx.2.trans h2, h3, h4, fun e he hb => ⟨?_, (h5 e he hb).2⟩, h6, fun w => ?_⟩
  · have := (h5 e he hb).1
    by_cases hie : i = e.on
    · have hlt := (Array.getElem?_eq_some_iff.1 this).1
      subst hie
      simp [hlt]
    · rw [Array.getElem?_setIfInBounds_ne hie]; exact this
  · rw [hsx.1]
    exact h7 w
theorem wpFg_sound {W0 : World} {tp pu : List Nat} (hsel : Region.noSelect ops = true) (hQ : ∀ c a d v w, Q (.panic c) (a.put d v) w → Q (.panic c) a w) (hQ' : ∀ c a d v w, Q (.panic c) a w → Q (.panic c) (a.put d v) w) :
    ∀ (m : Nat) (pl : List (Nat × Nat)) (fs : List FX) (bs : List Nat) (listed lF : Array Bool) (β : Nat → Option Nat) (a : Act) (E : World → Prop) (w : World), 2 * pl.length + nx fs β ≤ m → RelX fs listed lF β → FgOk P ops tl fs lF a →
      planG ops tl pu lF (fs.map (·.i)) pl = true → tailOk ops tl (listG lF pl) tp = true → Ext W0 w → (∀ w1 w2, Ext w1 w2 → E w1 → E w2) → E w →
      (∀ x ∈ fs, ∀ b, β x.i = some b → w.heap[b]? = some x.ob ∧ W0.heap.size ≤ b ∧ b ∉ bs) → (∀ x ∈ fs, ∀ y ∈ fs, ∀ b, β x.i = some b → β y.i = some b → x.i = y.i) → (∀ b ∈ bs, b < w.heap.size) → (∀ j, (∃ b, β j = some b) → lF[j]? = some true) →
      wpFg P ops Q W0 tp pl fs bs a E → wpAnyU P ops Q (Ext W0) tl pu (cost pl + nx fs β + tp.length) listed (putX fs β a) w := by
  intro m
  induction m with
  | zero =>
    intro pl fs bs listed lF β a E w hm hR hok hpl htp hX hst hE hbl hinj hbs hβ h
    obtain rfl : pl = [] := List.eq_nil_of_length_eq_zero (by omega)
    obtain rfl : fs = [] := by simpa [planG] using hpl
    have hl : listed = lF := Array.ext_getElem? fun j => hR.main j (by simp)
    subst hl
    rw [show cost [] + nx [] β + tp.length = tp.length by simp [cost, nx]]
    exact wpTl_sound tp _ _ _ htp (h w hX hE)
  | succ m ih =>
    intro pl fs bs listed lF β a E w hm hR hok hpl htp hX hst hE hbl hinj hbs hβ h
    have hal : ∀ x ∈ fs, β x.i = none → ∀ f, cost pl + nx fs β + tp.length = f + 1 → wpOp P ops Q x.i (fun a' w' => (tl.contains x.i = false → (pu.contains x.i = true → Ext W0 w) → Ext W0 w') ∧ wpAnyU P ops Q (Ext W0) tl pu f (listed.setIfInBounds x.i true) a' w') (putX fs β a) w := by
      intro x hx hb f hf
      obtain ⟨o, ho, hg, hd, _, _, hl, hrun⟩ := hok.fl x hx
      unfold wpOp
      simp only [ho]
      rw [if_pos ((wanted_putX hl).trans hg)]
      refine .inl ?_
      unfold Oper.wp
      rw [exec_putX (fun cs b => Region.noSelect_spec hsel x.i o cs b ho) hl, hrun w]
      have hnp := nx_set (b := w.heap.size) hx hok.n1 hb
      have hXa : Ext w (w.alloc x.ob) := (Ext.refl w).alloc _
      have hlt : ∀ u ∈ fs, ∀ b, β u.i = some b → b < w.heap.size := fun u hu b hub => by
        obtain ⟨h1, _⟩ := hbl u hu b hub
        rcases Nat.lt_or_ge b w.heap.size with hl | hl
        · exact hl
        · rw [Array.getElem?_eq_none hl] at h1; cases h1
      have key := ih pl fs bs (listed.setIfInBounds x.i true) lF (setB β x.i w.heap.size) a E (w.alloc x.ob) (by omega) (hR.float hx _) hok hpl htp (hX.trans hXa) hst (hst _ _ hXa hE) ?_ ?_ (fun b hb' => by have := hbs b hb'; have := hXa.size; omega) ?_ h
      · rw [putX_set hx hok.n1 hok.n2 hb, show cost pl + nx fs (setB β x.i w.heap.size) + tp.length = f by omega] at key
        simp only [Oper.upon, hd]
        exact ⟨fun _ _ => hX.trans hXa, key⟩
      · intro y hy b hyb
        by_cases hxy : y.i = x.i
        · have hyx : y = x := nodup_injX hok.n1 hy hx hxy
          subst hyx
          simp only [setB, if_true, Option.some.injEq] at hyb
          subst hyb
          exact ⟨heap_alloc_new _ _, hX.size, fun hin => by have := hbs _ hin; omega⟩
        · simp only [setB, hxy, if_false] at hyb
          obtain ⟨h1, h2, h3⟩ := hbl y hy b hyb
          exact ⟨by rw [hXa.block (hlt y hy b hyb)]; exact h1, h2, h3⟩
      · intro y hy z hz b hyb hzb
        unfold setB at hyb hzb
        split at hyb
        · rename_i e1
          split at hzb
          · rename_i e2; rw [e1, e2]
          · have := hlt z hz b hzb
            simp only [Option.some.injEq] at hyb
            omega
        · split at hzb
          · have := hlt y hy b hyb
            simp only [Option.some.injEq] at hzb
            omega
          · exact hinj y hy z hz b hyb hzb
      · rintro j ⟨b, hj⟩
        unfold setB at hj
        split at hj
        · rename_i e; subst e; exact (hR.done x hx).2
        · exact hβ j ⟨b, hj⟩
    have hfr : ∀ x ∈ fs, β x.i = none → x.i ∈ Region.ready .any ops listed := by
      intro x hx hb
      obtain ⟨o, ho, _, _, _, ha, _⟩ := hok.fl x hx
      refine mem_ready.2 ⟨?_, o, ho, fun e he hbi => ?_⟩
      · rw [getD_of (hR.done x hx).1, hb]; rfl
      · obtain ⟨h1, h2⟩ := ha e he hbi
        rw [getD_same (hR.main _ h2), getD_of h1]
    have hfl : ∀ x ∈ fs, x.i ∈ Region.ready .any ops listed → β x.i = none := by
      intro x hx hr
      have h0 := (mem_ready.1 hr).1
      rw [getD_of (hR.done x hx).1] at h0
      cases hb : β x.i with
      | none => rfl
      | some b => rw [hb] at h0; cases h0
    have hto : ∀ j, j ∉ fs.map (·.i) → j ∈ Region.ready .any ops listed → j ∈ Region.ready .any ops lF := by
      intro j hj hr
      obtain ⟨h0, o, ho, ha⟩ := mem_ready.1 hr
      refine mem_ready.2 ⟨by rw [← getD_same (hR.main j hj)]; exact h0, o, ho, fun e he hb => ?_⟩
      have h1 := ha e he hb
      by_cases hin : e.on ∈ fs.map (·.i)
      · obtain ⟨x, hx, hxe⟩ := List.mem_map.1 hin
        rw [← hxe, getD_of (hR.done x hx).2]
      · rw [← getD_same (hR.main _ hin)]; exact h1
    have hfrom : ∀ j oj, ops[j]? = some oj → j ∉ fs.map (·.i) → (∀ e ∈ oj.after, Region.binds .any e = true → e.on ∉ fs.map (·.i)) → j ∈ Region.ready .any ops lF → j ∈ Region.ready .any ops listed := by
      intro j oj hoj hj hno hr
      obtain ⟨h0, o, ho, ha⟩ := mem_ready.1 hr
      obtain rfl : oj = o := by rw [hoj] at ho; exact Option.some.inj ho
      refine mem_ready.2 ⟨by rw [getD_same (hR.main j hj)]; exact h0, oj, hoj, fun e he hb => ?_⟩
      rw [getD_same (hR.main _ (hno e he hb))]
      exact ha e he hb
    have hβ' : ∀ {i : Nat}, ∀ j, (∃ b, β j = some b) → (lF.setIfInBounds i true)[j]? = some true := fun {i} j hj => by
      have h1 := hβ j hj
      by_cases e : i = j
      · subst e
        have := (Array.getElem?_eq_some_iff.1 h1).1
        simp [this]
      · rw [Array.getElem?_setIfInBounds_ne e]; exact h1
    match pl, hm, hpl, htp, h, hal with
    | [], hm, hpl, htp, h, hal =>
      obtain rfl : fs = [] := by simpa [planG] using hpl
      have hl : listed = lF := Array.ext_getElem? fun j => hR.main j (by simp)
      subst hl
      rw [show cost [] + nx [] β + tp.length = tp.length by simp [cost, nx]]
      exact wpTl_sound tp _ _ _ htp (h w hX hE)
    | (i, 0) :: rest, hm, hpl, htp, h, hal =>
      obtain ⟨o, v, hi, hy, h⟩ := h
      simp only [planG, hi, Bool.and_eq_true, Bool.not_eq_true'] at hpl
      obtain ⟨⟨⟨⟨⟨⟨h1, h2⟩, h3⟩, h3'⟩, h4⟩, haw⟩, h5⟩ := hpl
      have hiF : i ∉ fs.map (·.i) := by simpa using h3'
      have hA := away haw
      have hx2 : ∀ x ∈ fs, x.t ∉ o.looksAt ops ∧ o.dst ≠ some x.t ∧ ∀ ox, ops[x.i]? = some ox → o.apart ops ox = true := fun x hx => by
        obtain ⟨ox, g1, _, g3, _⟩ := hok.fl x hx
        obtain ⟨t, e1, e2, e3, _, e5⟩ := hA.2 x.i (List.mem_map.2 ⟨x, hx, rfl⟩) ox g1
        rw [g3] at e1
        obtain rfl := Option.some.inj e1
        exact ⟨e2, e3, fun ox' h' => by rw [g1] at h'; obtain rfl := Option.some.inj h'; exact e5⟩
      have key := ih rest fs bs (listed.setIfInBounds i true) (lF.setIfInBounds i true) β (a.put o.dst v) E w (by simp only [List.length_cons] at hm; omega) (hR.step hiF) (hok.step hsel haw sameFor_put) h5 htp hX hst hE hbl hinj hbs hβ' h
      rw [putX_put fun x hx => (hx2 x hx).2.1] at key
      rw [show cost ((i, 0) :: rest) + nx fs β + tp.length = (cost rest + nx fs β + tp.length) + 1 by rw [cost_ne (by decide)]; omega]
      refine wpAnyU_first hi (Region.noSelect_spec hsel) (fun c a w => hQ c a _ _ w) _ _ _ _ ?_ ?_ (hfrom i o hi hiF hA.1 (by simpa using h2)) (yields_putX (Region.noSelect_spec hsel i o · · hi) hy fun x hx => (hx2 x hx).1) hX key
      · intro j oj hj hji hun hno
        by_cases hin : j ∈ fs.map (·.i)
        · obtain ⟨x, hx, rfl⟩ := List.mem_map.1 hin
          exact (hx2 x hx).2.2 oj hj
        · exact Region.free_spec hi h1 j oj hj hji (by rw [← getD_same (hR.main j hin)]; exact hun) hno
      · intro j oj hj htj hun
        have hjF : j ∉ fs.map (·.i) := fun hin => by
          obtain ⟨x, hx, rfl⟩ := List.mem_map.1 hin
          obtain ⟨_, _, _, _, ht, _⟩ := hok.fl x hx
          rw [ht] at htj; cases htj
        have h6 := List.all_eq_true.1 h4 j (by simpa using htj)
        rw [getD_same (hR.main j hjF)] at hun
        rw [hj] at h6
        simp only [hun, Bool.false_or] at h6
        obtain ⟨e, he, hb⟩ := Array.any_eq_true'.1 h6
        simp only [Bool.and_eq_true] at hb
        exact ⟨e, he, hb.1, depX_of hR _ _ hb.2⟩
    | (i, 2) :: rest, hm, hpl, htp, h, hal =>
      obtain ⟨o, v, hi, hy, h⟩ := h
      simp only [planG, hi, Bool.and_eq_true, Bool.not_eq_true'] at hpl
      obtain ⟨⟨⟨⟨⟨⟨h1, h2⟩, h3⟩, h3'⟩, h4⟩, haw⟩, h5⟩ := hpl
      have hiF : i ∉ fs.map (·.i) := by simpa using h3'
      have hA := away haw
      have hx2 : ∀ x ∈ fs, x.t ∉ o.looksAt ops ∧ o.dst ≠ some x.t ∧ ∀ ox, ops[x.i]? = some ox → o.apart ops ox = true := fun x hx => by
        obtain ⟨ox, g1, _, g3, _⟩ := hok.fl x hx
        obtain ⟨t, e1, e2, e3, _, e5⟩ := hA.2 x.i (List.mem_map.2 ⟨x, hx, rfl⟩) ox g1
        rw [g3] at e1
        obtain rfl := Option.some.inj e1
        exact ⟨e2, e3, fun ox' h' => by rw [g1] at h'; obtain rfl := Option.some.inj h'; exact e5⟩
      have key := ih rest fs bs (listed.setIfInBounds i true) (lF.setIfInBounds i true) β (a.put o.dst v) E w (by simp only [List.length_cons] at hm; omega) (hR.step hiF) (hok.step hsel haw sameFor_put) h5 htp hX hst hE hbl hinj hbs hβ' h
      rw [putX_put fun x hx => (hx2 x hx).2.1] at key
      rw [show cost ((i, 2) :: rest) + nx fs β + tp.length = (cost rest + nx fs β + tp.length) + 1 by rw [cost_ne (by decide)]; omega]
      refine wpAnyU_pure hi (Region.noSelect_spec hsel) h4 (fun c a w => hQ c a _ _ w) _ _ _ _ ?_ (hfrom i o hi hiF hA.1 (by simpa using h2)) (yields_putX (Region.noSelect_spec hsel i o · · hi) hy fun x hx => (hx2 x hx).1) key
      intro j oj hj hji hun hno
      by_cases hin : j ∈ fs.map (·.i)
      · obtain ⟨x, hx, rfl⟩ := List.mem_map.1 hin
        exact (hx2 x hx).2.2 oj hj
      · exact Region.free_spec hi h1 j oj hj hji (by rw [← getD_same (hR.main j hin)]; exact hun) hno
    | (i, 3) :: rest, hm, hpl, htp, h, hal =>
      obtain ⟨x, fs', hfs, h9⟩ := h
      subst hfs
      simp only [planG, List.map_cons, List.head?_cons, List.tail_cons, Bool.and_eq_true, beq_iff_eq, Option.some.injEq, List.all_eq_true] at hpl
      obtain ⟨⟨h1, h2⟩, h3⟩ := hpl
      cases hb : β x.i with
      | some b =>
        obtain ⟨g1, g2, g3⟩ := hbl x (by simp) b hb
        obtain ⟨E', hst', hE', hk⟩ := h9 b g2 g3 hst
        have hn := hok.n1
        have hn2 := hok.n2
        simp only [List.map_cons, List.nodup_cons, List.mem_map, not_exists, not_and] at hn hn2
        have hlt : b < w.heap.size := by
          rcases Nat.lt_or_ge b w.heap.size with hl | hl
          · exact hl
          · rw [Array.getElem?_eq_none hl] at g1; cases g1
        have hok' : FgOk P ops tl fs' lF (a.put (some x.t) (x.yv b)) := by
          refine ⟨fun y hy => ?_, hn.2, hn2.2⟩
          obtain ⟨oy, k1, k2, k3, k4, k5, k6, k7⟩ := hok.fl y (by simp [hy])
          refine ⟨oy, k1, (wanted_put oy _ _ _ (fun e he => by obtain rfl := Option.some.inj he; exact k6 x (by simp))).trans k2, k3, k4, fun e he hb' => ⟨(k5 e he hb').1, fun hin => (k5 e he hb').2 (by simp only [List.map_cons, List.mem_cons]; exact .inr hin)⟩, fun z hz => k6 z (by simp [hz]), fun w => ?_⟩
          rw [execOp_put oy (fun cs b => Region.noSelect_spec hsel y.i oy cs b k1) _ _ _ (fun e he => by obtain rfl := Option.some.inj he; exact k6 x (by simp))]
          exact k7 w
        have key := ih rest fs' (b :: bs) listed lF β (a.put (some x.t) (x.yv b)) E' w (by
            have : nx fs' β ≤ nx (x :: fs') β := by unfold nx; rw [List.countP_cons]; omega
            simp only [List.length_cons] at hm; omega) (hR.wait (by rw [hb]; rfl)) hok' h3 htp hX hst' (hE' w hX hE g1)
          (fun y hy b' hyb => by
            obtain ⟨k1, k2, k3⟩ := hbl y (by simp [hy]) b' hyb
            refine ⟨k1, k2, fun hin => ?_⟩
            rcases List.mem_cons.1 hin with rfl | hin
            · exact hn.1 y hy (hinj y (by simp [hy]) x (by simp) _ hyb hb)
            · exact k3 hin)
          (fun y hy z hz b' hyb hzb => hinj y (by simp [hy]) z (by simp [hz]) b' hyb hzb)
          (fun b' hb' => by
            rcases List.mem_cons.1 hb' with rfl | hb'
            · exact hlt
            · exact hbs b' hb') hβ hk
        rw [putX_put fun y hy e => hn2.1 y hy (Option.some.inj e).symm] at key
        rw [show cost ((i, 3) :: rest) + nx (x :: fs') β + tp.length = cost rest + nx fs' β + tp.length by rw [cost_eq]; unfold nx; rw [List.countP_cons, hb]; rfl]
        unfold putX
        rw [hb]
        exact key
      | none =>
        have hnp : 1 ≤ nx (x :: fs') β := by unfold nx; rw [List.countP_cons, hb]; simp
        obtain ⟨f, hf⟩ : ∃ f, cost ((i, 3) :: rest) + nx (x :: fs') β + tp.length = f + 1 := ⟨cost ((i, 3) :: rest) + nx (x :: fs') β + tp.length - 1, by omega⟩
        rw [hf]
        refine ⟨fun h0 => (by have := hfr x (by simp) hb; rw [h0] at this; cases this), fun j hj => ?_⟩
        by_cases hin : j ∈ (x :: fs').map (·.i)
        · obtain ⟨y, hy, rfl⟩ := List.mem_map.1 hin
          exact hal y hy (hfl y hy hj) f hf
        · exfalso
          have h4 := h2 j (hto j hin hj)
          obtain ⟨_, oj, hoj, ha⟩ := mem_ready.1 hj
          rw [hoj] at h4
          obtain ⟨e, he, hb'⟩ := Array.any_eq_true'.1 h4
          simp only [Bool.and_eq_true, beq_iff_eq] at hb'
          have h5 := ha e he hb'.1
          rw [hb'.2, ← h1, getD_of (hR.done x (by simp)).1, hb] at h5
          cases h5
    | (i, 4) :: rest, hm, hpl, htp, h, hal =>
      obtain ⟨x, o, rfl, hi, hd, hwa, hrun, h⟩ := h
      simp only [planG, hi, Bool.and_eq_true, Bool.not_eq_true', beq_iff_eq, Array.all_eq_true_iff_forall_mem] at hpl
      obtain ⟨⟨⟨⟨h1, h2⟩, h3⟩, ⟨h5, hself⟩, haw⟩, h6⟩ := hpl
      rw [hd] at hself
      have hself' : x.t ∉ o.looksAt ops := by simpa using hself
      have hiF : x.i ∉ fs.map (·.i) := by simpa using h3
      have hA := away haw
      have hbn : β x.i = none := by
        cases hb : β x.i with
        | none => rfl
        | some b => have := hβ x.i ⟨b, hb⟩; rw [h1] at this; cases this
      have hx2 : ∀ y ∈ fs, y.t ∉ o.looksAt ops ∧ y.t ≠ x.t ∧ ∀ oy, ops[y.i]? = some oy → x.t ∉ oy.looksAt ops := fun y hy => by
        obtain ⟨oy, g1, _, g3, _⟩ := hok.fl y hy
        obtain ⟨t, e1, e2, e3, e4, _⟩ := hA.2 y.i (List.mem_map.2 ⟨y, hy, rfl⟩) oy g1
        rw [g3] at e1
        obtain rfl := Option.some.inj e1
        exact ⟨e2, fun e => e3 (by rw [hd, e]), fun oy' h' => by rw [g1] at h'; obtain rfl := Option.some.inj h'; exact e4 _ hd⟩
      have hnx : nx (x :: fs) β = nx fs β + 1 := by unfold nx; rw [List.countP_cons, hbn]; simp
      have hokL : FgOk P ops tl (x :: fs) (lF.setIfInBounds x.i true) a := by
        have hup : ∀ k : Nat, lF[k]? = some true → (lF.setIfInBounds x.i true)[k]? = some true := fun k hk => by
          have hne : x.i ≠ k := fun e => by rw [e, hk] at h1; cases h1
          rw [Array.getElem?_setIfInBounds_ne hne]; exact hk
        have hno : ∀ k : Nat, lF[k]? = some true → k ∉ fs.map (·.i) → k ∉ (x :: fs).map (·.i) := fun k hk hn hin => by
          simp only [List.map_cons, List.mem_cons] at hin
          rcases hin with rfl | hin
          · rw [hk] at h1; cases h1
          · exact hn hin
        refine ⟨fun y hy => ?_, ?_, ?_⟩
        · rcases List.mem_cons.1 hy with rfl | hy
          · refine ⟨o, hi, hwa, hd, h2, fun e he hb => ?_, fun z hz => ?_, hrun⟩
            · have h7 := h5 e he
              rw [hb] at h7
              simp only [Bool.not_true, Bool.false_or] at h7
              have h8 : lF[e.on]? = some true := by
                cases hg : lF[e.on]? with
                | none => simp [hg] at h7
                | some c => simp [hg] at h7; rw [h7]
              exact ⟨hup _ h8, hno _ h8 (hA.1 e he hb)⟩
            · rcases List.mem_cons.1 hz with rfl | hz
              · exact hself'
              · exact (hx2 z hz).1
          · rename_i hy9
            have hy8 : y ∈ fs := by assumption
            obtain ⟨oy, k1, k2, k3, k4, k5, k6, k7⟩ := hok.fl y hy8
            have hy7 := (hx2 y hy8).2.2 oy k1
            refine ⟨oy, k1, k2, k3, k4, fun e he hb => ⟨hup _ (k5 e he hb).1, hno _ (k5 e he hb).1 (k5 e he hb).2⟩, fun z hz => ?_, k7⟩
            rcases List.mem_cons.1 hz with rfl | hz
            · exact hy7
            · exact k6 z hz
        · simp only [List.map_cons, List.nodup_cons]; exact ⟨hiF, hok.n1⟩
        · simp only [List.map_cons, List.nodup_cons, List.mem_map, not_exists, not_and]; exact ⟨fun y hy e => (hx2 y hy).2.1 e, hok.n2⟩
      have key := ih rest (x :: fs) bs listed (lF.setIfInBounds x.i true) β a E w (by simp only [List.length_cons] at hm; omega) (hR.launch hiF h1 hbn) hokL h6 htp hX hst hE
        (fun y hy b hyb => by
          rcases List.mem_cons.1 hy with rfl | hy
          · rw [hbn] at hyb; cases hyb
          · exact hbl y hy b hyb)
        (fun y hy z hz b hyb hzb => by
          rcases List.mem_cons.1 hy with rfl | hy
          · rw [hbn] at hyb; cases hyb
          · rcases List.mem_cons.1 hz with rfl | hz
            · rw [hbn] at hzb; cases hzb
            · exact hinj y hy z hz b hyb hzb) hbs hβ' h
      rw [show cost ((x.i, 4) :: rest) + nx fs β + tp.length = cost rest + nx (x :: fs) β + tp.length by rw [hnx, cost_ne (by decide)]; omega]
      unfold putX at key
      rw [hbn] at key
      exact key
    | (i, 5) :: rest, hm, hpl, htp, h, hal =>
      simp only [planG, Bool.and_eq_true, Bool.not_eq_true', beq_iff_eq] at hpl
      obtain ⟨⟨⟨⟨⟨h0, h1⟩, h2⟩, h4⟩, haw⟩, h5⟩ := hpl
      obtain rfl : fs = [] := by simpa using h0
      have hiF : i ∉ ([] : List FX).map (·.i) := by simp
      have hir : i ∈ Region.ready .any ops lF := by rw [h1]; simp
      obtain ⟨_, o, hi, _⟩ := mem_ready.1 hir
      rw [hi] at haw
      have hA := away haw
      obtain ⟨f, hf⟩ : ∃ f, cost rest + nx [] β + tp.length = f := ⟨_, rfl⟩
      have hf1 : ∀ k, k ≠ 3 → cost ((i, k) :: rest) + nx [] β + tp.length = f + 1 := fun k hk => by rw [← hf, cost_ne hk]; omega
      rw [hf1 _ (by omega)]
      refine ⟨fun h0 => (by have := hfrom i o hi hiF hA.1 hir; rw [h0] at this; cases this), fun j hj => ?_⟩
      have hjr := hto j (by simp) hj
      rw [h1] at hjr
      obtain rfl : j = i := by simpa using hjr
      refine wpOp_mono ?_ (wpOp_putX (β := β) hi (Region.noSelect_spec hsel j o · · hi) hQ' (wpOp_same hi (h w hX hE)) (fs := []) (fun x hx => by cases hx))
      rintro a' w' ⟨a'', rfl, hsm, hXw, hsz, E', hst', hE', hk⟩
      have key := ih rest [] bs (listed.setIfInBounds j true) (lF.setIfInBounds j true) β _ E' w' (by simp only [List.length_cons] at hm; omega) (hR.step hiF) (hok.step hsel haw hsm) h5 htp hXw hst' hE' (fun x hx => by cases hx) (fun x hx => by cases hx) (fun b hb => by have := hbs b hb; omega) hβ' hk
      rw [hf] at key
      exact ⟨fun _ _ => hXw, key⟩
    | (i, 1) :: rest, hm, hpl, htp, h, hal | (i, k + 6) :: rest, hm, hpl, htp, h, hal =>
      simp only [planG, Bool.and_eq_true, Bool.not_eq_true', beq_iff_eq] at hpl
      obtain ⟨⟨⟨⟨⟨h1, h2⟩, h3⟩, h4⟩, haw⟩, h5⟩ := hpl
      have hiF : i ∉ fs.map (·.i) := by simpa using h3
      have hir : i ∈ Region.ready .any ops lF := by rw [h1]; simp
      obtain ⟨_, o, hi, _⟩ := mem_ready.1 hir
      rw [hi] at haw
      have hA := away haw
      have hx2 : ∀ x ∈ fs, x.t ∉ o.looksAt ops ∧ o.dst ≠ some x.t := fun x hx => by
        obtain ⟨ox, g1, _, g3, _⟩ := hok.fl x hx
        obtain ⟨t, e1, e2, e3, _, e5⟩ := hA.2 x.i (List.mem_map.2 ⟨x, hx, rfl⟩) ox g1
        rw [g3] at e1
        obtain rfl := Option.some.inj e1
        exact ⟨e2, e3⟩
      obtain ⟨f, hf⟩ : ∃ f, cost rest + nx fs β + tp.length = f := ⟨_, rfl⟩
      have hf1 : ∀ k, k ≠ 3 → cost ((i, k) :: rest) + nx fs β + tp.length = f + 1 := fun k hk => by rw [← hf, cost_ne hk]; omega
      rw [hf1 _ (by omega)]
      refine ⟨fun h0 => (by have := hfrom i o hi hiF hA.1 hir; rw [h0] at this; cases this), fun j hj => ?_⟩
      by_cases hin : j ∈ fs.map (·.i)
      · obtain ⟨x, hx, rfl⟩ := List.mem_map.1 hin
        exact hal x hx (hfl x hx hj) f (hf1 _ (by omega))
      · have hjr := hto j hin hj
        rw [h1] at hjr
        obtain rfl : j = i := by simpa using hjr
        refine wpOp_mono ?_ (wpOp_putX (β := β) hi (Region.noSelect_spec hsel j o · · hi) hQ' (wpOp_same hi (h w hX hE)) (fs := fs) hx2)
        rintro a' w' ⟨a'', rfl, hsm, hXw, E', hst', hE', hk⟩
        have key := ih rest fs bs (listed.setIfInBounds j true) (lF.setIfInBounds j true) β a'' E' w' (by simp only [List.length_cons] at hm; omega) (hR.step hiF) (hok.step hsel haw hsm) h5 htp (hX.trans hXw) hst' hE' ?_ hinj (fun b hb => by have := hbs b hb; have := hXw.size; omega) hβ' hk
        · rw [hf] at key
          exact ⟨fun _ _ => hX.trans hXw, key⟩
        · intro y hy b hyb
          obtain ⟨g1, g2, g3⟩ := hbl y hy b hyb
          have hlt : b < w.heap.size := by
            rcases Nat.lt_or_ge b w.heap.size with hl | hl
            · exact hl
            · rw [Array.getElem?_eq_none hl] at g1; cases g1
          exact ⟨by rw [hXw.block hlt]; exact g1, g2, g3⟩
/-- **The region, by a plan, with operations that may come up at any time.** -/
theorem wp_floatG {id : Nat} {a : Act} {w : World} (pl : List (Nat × Nat)) (tp tl pu : List Nat) (hm : P.follows .mixedOrders = true) (hsel : Region.noSelect ops = true)
    (hok : (planG ops tl pu (Array.replicate ops.size false) [] pl && tailOk ops tl (listG (Array.replicate ops.size false) pl) tp && cost pl + tp.length == ops.size) = true)
    (hQ : ∀ c a d v w, Q (.panic c) (a.put d v) w → Q (.panic c) a w) (hQ' : ∀ c a d v w, Q (.panic c) a w → Q (.panic c) (a.put d v) w)
    (h : wpFg P ops Q w.drew tp pl [] [] a (fun _ => True)) : (Code.region id ops true).wp P Q a w := by
  simp only [Bool.and_eq_true, beq_iff_eq] at hok
  obtain ⟨⟨h2, h3⟩, h4⟩ := hok
  refine wp_region_any hm (wpAny_of_U (S := Ext w.drew) (tl := tl) (pu := pu) _ _ _ _ ?_)
  have key := wpFg_sound (P := P) (Q := Q) (W0 := w.drew) (tp := tp) (pu := pu) (tl := tl) hsel hQ hQ' (2 * pl.length) pl [] [] (Array.replicate ops.size false) _ (fun _ => none) a (fun _ => True) w.drew (by simp [nx]) ⟨rfl, fun _ _ => rfl, fun x hx => (by cases hx)⟩
    ⟨fun x hx => (by cases hx), by simp, by simp⟩ h2 h3 (Ext.refl _) (fun _ _ _ _ => trivial) trivial (fun x hx => by cases hx) (fun x hx => by cases hx) (fun b hb => by cases hb) (fun j ⟨b, hb⟩ => by cases hb) h
  rw [show cost pl + nx [] (fun _ => none) + tp.length = ops.size by rw [← h4]; simp [nx]] at key
  exact key
variable {W0 : World} {fs : List FX} {bs tp : List Nat} {a : Act} {E : World → Prop} {i : Nat} {rest : List (Nat × Nat)} {o : Oper}
theorem wpFg_read {v : Value} (hi : ops.toList[i]? = some o) (hw : Region.wanted o (yielded ops a.tmps) = true) (h : ∀ w, Ext W0 w → (execOp a.eval o).run P w = .ok (.value v) w) (k : wpFg P ops Q W0 tp rest fs bs (a.put o.dst v) E) :
    wpFg P ops Q W0 tp ((i, 0) :: rest) fs bs a E := ⟨o, v, by simpa using hi, .inl ⟨hw, h⟩, k⟩
theorem wpFg_eff (hi : ops.toList[i]? = some o) (hw : Region.wanted o (yielded ops a.tmps) = true)
    (h : ∀ w, Ext W0 w → E w → ∀ K : Act → World → Prop, (∀ a' w' (E' : World → Prop), Ext w w' → (∀ w1 w2, Ext w1 w2 → E' w1 → E' w2) → E' w' → wpFg P ops Q W0 tp rest fs bs a' E' → K a' w') → o.wp P a w K Q) :
    wpFg P ops Q W0 tp ((i, 1) :: rest) fs bs a E := by
  have hi' : ops[i]? = some o := by simpa using hi
  intro w hX hE
  unfold wpOp
  simp only [hi', hw, if_true]
  exact .inl (h w hX hE _ fun a' w' E' h1 h2 h3 h4 => ⟨h1, E', h2, h3, h4⟩)
theorem wpFg_done (h : ∀ w, Ext W0 w → E w → wpTl P ops Q tp a w) : wpFg P ops Q W0 tp [] fs bs a E := by
  unfold wpFg
  exact h
theorem wpFg_launch {t : Nat} (ob : Obj) (mk : Nat → Value) (hi : ops.toList[i]? = some o) (hd : o.dst = some t) (hw : Region.wanted o (yielded ops a.tmps) = true) (h : ∀ w, (execOp a.eval o).run P w = .ok (.value (mk w.heap.size)) (w.alloc ob)) (k : wpFg P ops Q W0 tp rest (⟨i, t, ob, mk⟩ :: fs) bs a E) :
    wpFg P ops Q W0 tp ((i, 4) :: rest) fs bs a E := ⟨⟨i, t, ob, mk⟩, o, rfl, by simpa using hi, hd, hw, h, k⟩
theorem wpFg_wait {x : FX} (h : ∀ b, W0.heap.size ≤ b → b ∉ bs → (∀ w1 w2, Ext w1 w2 → E w1 → E w2) → ∃ E' : World → Prop, (∀ w1 w2, Ext w1 w2 → E' w1 → E' w2) ∧ (∀ w, Ext W0 w → E w → w.heap[b]? = some x.ob → E' w) ∧ wpFg P ops Q W0 tp rest fs (b :: bs) (a.put (some x.t) (x.yv b)) E') :
    wpFg P ops Q W0 tp ((i, 3) :: rest) (x :: fs) bs a E := ⟨x, fs, rfl, h⟩
end
end Go.Proofs.YteecmifjbeojeaaGreatDoor
namespace Go.Proofs.YteecmifjbeojeaaGreatDoor
open Go.RowKit
theorem kargs_block {w : World} {t : TypeId} {p : Nat} {cs : Array Value} (xs : List Ar) (hb : w.heap[p]? = some (.cells cs t)) (hc : cs = (acells xs).toArray) {n : Nat} (hn : xs.length = n) (hs : n ≤ 9223372036854775807) (h : ∀ a ∈ xs, ArOk w a) :
    ArgsIn w (some ⟨p, 0, none⟩) n n xs :=
  ⟨by subst hc; exact Rd.of_row hb 0 (Nat.zero_le _), hn, Nat.le_refl _, hs, h⟩
theorem kargs_new {w : World} {t : TypeId} {p : Nat} {cs : Array Value} (xs : List Ar) (hp : p = w.heap.size) (hc : cs = (acells xs).toArray) {n : Nat} (hn : xs.length = n) (hs : n ≤ 9223372036854775807) (h : ∀ a ∈ xs, ArOk w a) :
    ArgsIn (w.alloc (.cells cs t)) (some ⟨p, 0, none⟩) n n xs :=
  kargs_block xs (by subst hp; exact heap_alloc_new _ _) hc hn hs fun a ha => (h a ha).ext ((Ext.refl _).alloc _)
theorem karr_block {w : World} {t : TypeId} {p : Nat} {cs : Array Value} (l : List Val) (h : w.heap[p]? = some (.cells cs t)) (hc : cs = (vcells l).toArray) {n : Nat} (hn : l.length = n) (hs : n ≤ 9223372036854775807) (hok : ∀ x ∈ l, x.ok) :
    ArrIn w (some ⟨p, 0, none⟩) n n l :=
  ⟨by subst hc; exact Rd.of_row h 0 (Nat.zero_le _), hn, Nat.le_refl _, hs, hok⟩
theorem karr_new {w : World} {t : TypeId} {p : Nat} {cs : Array Value} (l : List Val) (hp : p = w.heap.size) (hc : cs = (vcells l).toArray) {n : Nat} (hn : l.length = n) (hs : n ≤ 9223372036854775807) (hok : ∀ x ∈ l, x.ok) :
    ArrIn (w.alloc (.cells cs t)) (some ⟨p, 0, none⟩) n n l := by
  subst hp; exact karr_block l (heap_alloc_new _ _) hc hn hs hok
/-- An array of one value. -/
abbrev kOne (y : Val) (p : Nat) : Ar := arAt (rowA [y]) (some ⟨p, 0, none⟩) 1 1
theorem kOne_ok {w : World} {y : Val} {p : Nat} (h : ArrIn w (some ⟨p, 0, none⟩) 1 1 [y]) (hr : y.right) : ArOk w (kOne y p) := ⟨h, one_row hr⟩
end Go.Proofs.YteecmifjbeojeaaGreatDoor
namespace Go.Proofs.YteecmifjbeojeaaGreatDoor
open Go.RowKit NM
set_option maxHeartbeats 4000000 in
theorem fmathRounds_any (m x k : Int) (w : World) (htab : Tab w) (hft : FTab w) (hm : I64 m) (hx : I64 x) (hk : -128 ≤ k ∧ k ≤ 127) :
    Calls Tryz.prog 5 #[NV m x, .int .i8 k] w fun e w' => e = .returned (.bool true) ∧ Ext w w' := by
  have HT := Lib.hid htab
  have HF := Lib.hid hft
  clear htab hft
  by_cases hr : Rt m x
  · have hq := rtB_yes hr
    by_cases h1 : k < -14
    · have h1' : decide (k < -14) = true := decide_eq_true h1
      go_enter Tryz.func5, Tryz.ntmps5
      go_wp2_with (first | (go_at_call 16; (with_reducible refine (awake11_any _ (HT.out.ext (by with_reducible repeat (first | exact Ext.refl _ | apply Ext.drew | apply Ext.alloc | apply Ext.more_))) (HF.out.ext (by with_reducible repeat (first | exact Ext.refl _ | apply Ext.drew | apply Ext.alloc | apply Ext.more_)))).mono ?_); rintro e w' ⟨rfl, hb⟩; obtain ⟨osw1, dw1, rfl⟩ := hb.more; clear hb) | (go_at_call 21; (with_reducible refine (rright_rt _ _ _ hm).mono ?_); rintro e w' ⟨rfl, hb⟩; obtain ⟨osq, dq, rfl⟩ := hb.more; clear hb))
      go_ret
      exact ⟨rfl, by with_reducible repeat (first | exact Ext.refl _ | apply Ext.drew | apply Ext.alloc | apply Ext.more_)⟩
    · have h1' : decide (k < -14) = false := decide_eq_false h1
      by_cases h2 : 14 < k
      · have h2' : decide (14 < k) = true := decide_eq_true h2
        go_enter Tryz.func5, Tryz.ntmps5
        go_wp2_with (first | (go_at_call 16; (with_reducible refine (awake11_any _ (HT.out.ext (by with_reducible repeat (first | exact Ext.refl _ | apply Ext.drew | apply Ext.alloc | apply Ext.more_))) (HF.out.ext (by with_reducible repeat (first | exact Ext.refl _ | apply Ext.drew | apply Ext.alloc | apply Ext.more_)))).mono ?_); rintro e w' ⟨rfl, hb⟩; obtain ⟨osw1, dw1, rfl⟩ := hb.more; clear hb) | (go_at_call 21; (with_reducible refine (rright_rt _ _ _ hm).mono ?_); rintro e w' ⟨rfl, hb⟩; obtain ⟨osq, dq, rfl⟩ := hb.more; clear hb))
        go_ret
        exact ⟨rfl, by with_reducible repeat (first | exact Ext.refl _ | apply Ext.drew | apply Ext.alloc | apply Ext.more_)⟩
      · have h2' : decide (14 < k) = false := decide_eq_false h2
        have hT15 : T 15 = 1000000000000000 := by decide
        obtain ⟨r, hrr⟩ : ∃ r, roundS m x k = r := ⟨_, rfl⟩
        obtain ⟨ax, hax⟩ : ∃ p, absN (m, x) = p := ⟨_, rfl⟩
        obtain ⟨ar, har⟩ : ∃ p, absN r = p := ⟨_, rfl⟩
        have rr : Rt r.1 r.2 := by rw [← hrr]; exact round_rt hr
        have rax : Rt ax.1 ax.2 := by rw [← hax]; exact abs_rt (m, x) hr
        have rar : Rt ar.1 ar.2 := by rw [← har]; exact abs_rt r rr
        have f1 : roundV (nV (m, x)) (nV (wholeN k)) = nV r := by rw [roundV_num (by omega) (by omega)]; exact congrArg nV hrr
        have f2 : roundV (nV r) (nV (wholeN k)) = nV r := by rw [roundV_num (by omega) (by omega), ← hrr, round_idem hr]
        have f3 : eachF absN (nV r) = nV ar := by rw [← har]; rfl
        have f4 : eachF absN (nV (m, x)) = nV ax := by rw [← hax]; rfl
        have f5 : roundV (nV ax) (nV (wholeN k)) = nV ar := by rw [roundV_num (by omega) (by omega), ← hax, ← abs_round hr, hrr, har]
        have ck := fun W => kcount_any k W (by omega)
        have hof := fun (o t : Int × Int) => round_off (k := k) (o := o) (t := t) hr (by omega) (by omega)
        rw [hrr] at hof
        have hxr : (nV (m, x)).right := right_num hr
        have hpr : (nV (wholeN k)).right := right_num (wholex (by omega)).2.1
        have hRr : (nV r).right := right_num rr
        have hAr : (nV ax).right := right_num rax
        have hwk : IntKind.i64.wrap k = k := by rw [IntKind.wrap_i64]; omega
        have hwn : IntKind.i64.wrap (-k) = -k := by rw [IntKind.wrap_i64]; omega
        have hes := eql_same
        have HFS := Lib.hid (And.intro f1 (And.intro f2 (And.intro f3 (And.intro f4 f5))))
        have HOF := Lib.hid hof
        have HRR := Lib.hid (And.intro hr (And.intro rr (And.intro rax rar)))
        have hu : Rt 1 (-k) := rt_lit (by decide) (by decide) (by decide) (by omega) (by omega)
        have i1 : I64 1 := by unfold I64; omega
        have i2 : I64 2 := by unfold I64; omega
        have cmk : ∀ W, Calls Tryz.prog 22 #[.int .i64 1, .int .i64 (-k)] W fun e w' => e = .returned (.tuple #[NV 1 (-k), .bool true]) ∧ Ext W w' := fun W => by
          have h := rmake_any 1 (-k) W i1
          rw [show rnd (decide ((1 : Int) < 0)) (1 : Int).natAbs false (-k) = some (1, -k) from rndx_right hu] at h
          exact h
        obtain ⟨so, hso⟩ : ∃ so, subS r.1 r.2 m x = so := ⟨_, rfl⟩
        obtain ⟨st, hst⟩ : ∃ st, mulS (rm so) (re so) 2 0 = st := ⟨_, rfl⟩
        have rso : Rt (rm so) (re so) := by
          cases so with
          | none => exact rt_zero
          | some o => exact (sub_sc rr hr hso).1
        have rst : Rt (rm st) (re st) := by
          cases st with
          | none => exact rt_zero
          | some t => exact (mul_sc rso (rt_lit (by decide) (by decide) (by decide) (by omega) (by omega)) hst).1
        have csu : ∀ W, Calls Tryz.prog 23 #[NV r.1 r.2, NV m x] W fun e w' => e = .returned (.tuple #[NV (rm so) (re so), .bool so.isSome]) ∧ Ext W w' := fun W => by
          have h := rsub_any r.1 r.2 m x W (Rt_i64 rr).1 (Rt_i64 hr).1
          rw [hso] at h
          exact h
        have cmu : ∀ W, Calls Tryz.prog 24 #[NV (rm so) (re so), NV 2 0] W fun e w' => e = .returned (.tuple #[NV (rm st) (re st), .bool st.isSome]) ∧ Ext W w' := fun W => by
          have h := rmul_any (rm so) (re so) 2 0 W (Rt_i64 rso).1 i2
          rw [hst] at h
          exact h
        have hwt : IntKind.i64.wrap (-rm st) = -rm st := by have := (Rt_i64 (Rt_neg rst)).1; unfold I64 at this; rw [IntKind.wrap_i64]; omega
        have ccm : ∀ z W, (if rm so < 0 then -rm st else rm st) = z → Calls Tryz.prog 25 #[NV z (re st), NV 1 (-k)] W fun e w' => e = .returned (.int .i64 (cmpS z (re st) 1 (-k))) ∧ Ext W w' := fun z W hz => rcmp_any z (re st) 1 (-k) W (by rw [← hz]; split; exact (Rt_i64 (Rt_neg rst)).1; exact (Rt_i64 rst).1) i1
        have hle : so.isSome = true → st.isSome = true → ∀ z, (if rm so < 0 then -rm st else rm st) = z → decide (cmpS z (re st) 1 (-k) ≤ 0) = true := fun h1 h2 z hz => by
          cases so with
          | none => cases h1
          | some o =>
            cases st with
            | none => cases h2
            | some t =>
              rw [← hz]
              exact decide_eq_true (hof o t hso hst).2.2.2
        have HCM := Lib.hid (And.intro cmk (And.intro csu (And.intro cmu (And.intro ccm hle))))
        clear cmk csu cmu ccm hle hso hst rso rst i1 i2 hu f1 f2 f3 f4 f5 hof hrr hax har rr rax rar h1 h2 hk hT15
        generalize rm so = so1 at *
        generalize re so = so2 at *
        generalize rm st = st1 at *
        generalize re st = st2 at *
        generalize so.isSome = g1 at *
        generalize st.isSome = g2 at *
        generalize wholeN k = P at *
        go_enter Tryz.func5, Tryz.ntmps5
        go_upto_region 4 with (first | (go_at_call 16; (with_reducible refine (awake11_any _ (HT.out.ext (by with_reducible repeat (first | exact Ext.refl _ | apply Ext.drew | apply Ext.alloc | apply Ext.more_))) (HF.out.ext (by with_reducible repeat (first | exact Ext.refl _ | apply Ext.drew | apply Ext.alloc | apply Ext.more_)))).mono ?_); rintro e w' ⟨rfl, hb⟩; obtain ⟨osw1, dw1, rfl⟩ := hb.more; clear hb) | (go_at_call 21; (with_reducible refine (rright_rt _ _ _ hm).mono ?_); rintro e w' ⟨rfl, hb⟩; obtain ⟨osq, dq, rfl⟩ := hb.more; clear hb) | (go_at_call 18; (with_reducible refine (krow_in (l := [nV (m, x)]) (n := 1) _ ?_).mono ?_); refine karr1 (x := nV (m, x)) ⟨?_, ?_, ?_, ?_, ?_, ?_⟩ hxr.ok; (focus (go_simp; done)); (focus (go_simp; done)); (focus (go_simp; done)); (focus (go_simp; done)); (focus (go_simp; done)); (focus (go_simp; done)); rintro e w' ⟨rfl, hA1, hb⟩; obtain ⟨osr1, dr1, rfl⟩ := hb.more; clear hb) | (go_at_call 19; (with_reducible refine (ck _).mono ?_); rintro e w' ⟨rfl, hb⟩; obtain ⟨osc1, dc1, rfl⟩ := hb.more; clear hb) | (go_at_call 18; (with_reducible refine (krow_in (l := [nV P]) (n := 1) _ ?_).mono ?_); refine karr1 (x := nV P) ⟨?_, ?_, ?_, ?_, ?_, ?_⟩ hpr.ok; (focus (go_simp; done)); (focus (go_simp; done)); (focus (go_simp; done)); (focus (go_simp; done)); (focus (go_simp; done)); (focus (go_simp; done)); rintro e w' ⟨rfl, hA2, hb⟩; obtain ⟨osr2, dr2, rfl⟩ := hb.more; clear hb))
        go_upto_region 5 with (first | (go_at_call 17; (with_reducible refine (kone_in (krows2 (hA1.ext (by repeat (first | (with_reducible (first | exact Ext.refl _ | exact ext_d _ _ _ _ | exact ext_app _ _ _ _ _ | exact ext_app2 _ _ _ _ _ _)) | ((with_reducible refine ext_suffix ⟨_, ?_⟩); (try simp only [Array.append_assoc]); rfl) | (with_reducible (first | apply Ext.drew | apply Ext.alloc | apply Ext.more_))))) (one_row hxr) (hA2.ext (by repeat (first | (with_reducible (first | exact Ext.refl _ | exact ext_d _ _ _ _ | exact ext_app _ _ _ _ _ | exact ext_app2 _ _ _ _ _ _)) | ((with_reducible refine ext_suffix ⟨_, ?_⟩); (try simp only [Array.append_assoc]); rfl) | (with_reducible (first | apply Ext.drew | apply Ext.alloc | apply Ext.more_))))) (one_row hpr) (by (go_simp; done)) (by (go_simp; done)) (by (go_simp; done)) (by (go_simp; done)) (by (go_simp; done)) (by (go_simp; done)) ) (by decide) (by decide) (by rw [both_oneV hxr hpr (right_roundV hxr), HFS.out.1]) (fun W hW g => mcall_round _ _ _ _ _ ((HT.out.ext (by repeat (first | (with_reducible (first | exact Ext.refl _ | exact ext_d _ _ _ _ | exact ext_app _ _ _ _ _ | exact ext_app2 _ _ _ _ _ _)) | ((with_reducible refine ext_suffix ⟨_, ?_⟩); (try simp only [Array.append_assoc]); rfl) | (with_reducible (first | apply Ext.drew | apply Ext.alloc | apply Ext.more_))))).ext hW) g)).mono ?_); rintro e w' ⟨rfl, hb⟩; obtain ⟨oso1, do1, rfl⟩ := hb.more; clear hb))
        refine wp_world fun U hU => ?_
        have hx0 : Ext w U := by rw [hU]; exact (by repeat (first | (with_reducible (first | exact Ext.refl _ | exact ext_d _ _ _ _ | exact ext_app _ _ _ _ _ | exact ext_app2 _ _ _ _ _ _)) | ((with_reducible refine ext_suffix ⟨_, ?_⟩); (try simp only [Array.append_assoc]); rfl) | (with_reducible (first | apply Ext.drew | apply Ext.alloc | apply Ext.more_))))
        have hXu : ArrIn U (some ⟨w.heap.size + 1 + (osw1.size + osq.size), 0, none⟩) 1 1 [nV (m, x)] := hA1.ext (by rw [hU]; exact (by repeat (first | (with_reducible (first | exact Ext.refl _ | exact ext_d _ _ _ _ | exact ext_app _ _ _ _ _ | exact ext_app2 _ _ _ _ _ _)) | ((with_reducible refine ext_suffix ⟨_, ?_⟩); (try simp only [Array.append_assoc]); rfl) | (with_reducible (first | apply Ext.drew | apply Ext.alloc | apply Ext.more_)))))
        have hPu : ArrIn U (some ⟨w.heap.size + 1 + (osw1.size + osq.size) + 1 + (osr1.size + osc1.size), 0, none⟩) 1 1 [nV P] := hA2.ext (by rw [hU]; exact (by repeat (first | (with_reducible (first | exact Ext.refl _ | exact ext_d _ _ _ _ | exact ext_app _ _ _ _ _ | exact ext_app2 _ _ _ _ _ _)) | ((with_reducible refine ext_suffix ⟨_, ?_⟩); (try simp only [Array.append_assoc]); rfl) | (with_reducible (first | apply Ext.drew | apply Ext.alloc | apply Ext.more_)))))
        have a0 : U.cell? ⟨w.heap.size, 0, none⟩ = some (.int .i64 m) := by rw [hU]; go_simp
        have a1 : U.cell? ⟨w.heap.size, 1, none⟩ = some (.int .i64 x) := by rw [hU]; go_simp
        have b0 : U.cell? ⟨w.heap.size + 1 + (osw1.size + osq.size) + 1 + (osr1.size + osc1.size) + 1 + osr2.size, 0, none⟩ = some (.int .i64 1) := by rw [hU]; go_simp
        have b1 : U.cell? ⟨w.heap.size + 1 + (osw1.size + osq.size) + 1 + (osr1.size + osc1.size) + 1 + osr2.size, 1, none⟩ = some (.int .i64 1) := by rw [hU]; go_simp
        have b2 : U.cell? ⟨w.heap.size + 1 + (osw1.size + osq.size) + 1 + (osr1.size + osc1.size) + 1 + osr2.size, 2, none⟩ = some (.slice (some ⟨w.heap.size + 1 + (osw1.size + osq.size), 0, none⟩) 1 1) := by rw [hU]; go_simp
        have c0 : U.cell? ⟨w.heap.size + 1 + (osw1.size + osq.size) + 1 + (osr1.size + osc1.size) + 1 + osr2.size + 1, 0, none⟩ = some (.int .i64 1) := by rw [hU]; go_simp
        have c1 : U.cell? ⟨w.heap.size + 1 + (osw1.size + osq.size) + 1 + (osr1.size + osc1.size) + 1 + osr2.size + 1, 1, none⟩ = some (.int .i64 1) := by rw [hU]; go_simp
        have c2 : U.cell? ⟨w.heap.size + 1 + (osw1.size + osq.size) + 1 + (osr1.size + osc1.size) + 1 + osr2.size + 1, 2, none⟩ = some (.slice (some ⟨w.heap.size + 1 + (osw1.size + osq.size) + 1 + (osr1.size + osc1.size), 0, none⟩) 1 1) := by rw [hU]; go_simp
        have d0 : U.cell? ⟨w.heap.size + 1 + (osw1.size + osq.size) + 1 + (osr1.size + osc1.size) + 1 + osr2.size + 1 + 1 + 1 + oso1.size, 0, none⟩ = some (.int .i64 1) := by rw [hU]; go_simp
        have d1 : U.cell? ⟨w.heap.size + 1 + (osw1.size + osq.size) + 1 + (osr1.size + osc1.size) + 1 + osr2.size + 1 + 1 + 1 + oso1.size, 1, none⟩ = some (.int .i64 r.1) := by rw [hU]; go_simp
        have d2 : U.cell? ⟨w.heap.size + 1 + (osw1.size + osq.size) + 1 + (osr1.size + osc1.size) + 1 + osr2.size + 1 + 1 + 1 + oso1.size, 2, none⟩ = some (.int .i64 r.2) := by rw [hU]; go_simp
        have d3 : U.cell? ⟨w.heap.size + 1 + (osw1.size + osq.size) + 1 + (osr1.size + osc1.size) + 1 + osr2.size + 1 + 1 + 1 + oso1.size, 3, none⟩ = some (.string ⟨#[]⟩) := by rw [hU]; go_simp
        have d4 : U.cell? ⟨w.heap.size + 1 + (osw1.size + osq.size) + 1 + (osr1.size + osc1.size) + 1 + osr2.size + 1 + 1 + 1 + oso1.size, 4, none⟩ = some (.bool false) := by rw [hU]; go_simp
        have d5 : U.cell? ⟨w.heap.size + 1 + (osw1.size + osq.size) + 1 + (osr1.size + osc1.size) + 1 + osr2.size + 1 + 1 + 1 + oso1.size, 5, none⟩ = some (.int .i64 0) := by rw [hU]; go_simp
        have la := lt_of_cell a0
        have lb := lt_of_cell b0
        have lc := lt_of_cell c0
        have ld := lt_of_cell d0
        have HTU := Lib.hid (HT.out.ext hx0)
        have HX0 := Lib.hid hx0
        clear hU hA1 hA2 hx0
        generalize w.heap.size + 1 + (osw1.size + osq.size) + 1 + (osr1.size + osc1.size) + 1 + osr2.size + 1 + 1 + 1 + oso1.size = bR at *
        generalize w.heap.size + 1 + (osw1.size + osq.size) + 1 + (osr1.size + osc1.size) + 1 + osr2.size + 1 = b6 at *
        generalize w.heap.size + 1 + (osw1.size + osq.size) + 1 + (osr1.size + osc1.size) + 1 + osr2.size = b5 at *
        generalize w.heap.size + 1 + (osw1.size + osq.size) + 1 + (osr1.size + osc1.size) = p2 at *
        generalize w.heap.size + 1 + (osw1.size + osq.size) = p1 at *
        generalize w.heap.size = bA at *
        refine wp_floatG [(0, 0), (1, 0), (2, 0), (3, 0), (4, 0), (7, 0), (10, 0), (5, 1), (6, 1), (8, 1), (9, 1), (11, 0), (12, 0), (13, 0), (14, 0), (19, 0), (24, 0), (20, 4), (15, 4), (15, 3), (16, 1), (17, 1), (18, 1), (20, 3), (21, 1), (22, 1), (23, 1), (25, 1), (26, 1), (27, 0), (28, 0)] [] [] [] (by kernel_rfl) (by kernel_rfl) (by kernel_rfl) (fun _ _ d _ _ h => by cases d <;> exact h) (fun _ _ d _ _ h => by cases d <;> exact h) ?_
        iterate 7 ((refine wpFg_read (v := ?_) rfl ?_ (fun w1 h1 => ?_) ?_; rotate_left 1; rfl; (obtain ⟨os1, d1, rfl⟩ := h1.more; go_simp; first | done | rfl)); try simp only [Act.put, zqA, zqB, zqC])
        (refine wpFg_eff rfl ?_ (fun wf hXf hE K hK => ?_); rfl; obtain ⟨osf, df, rfl⟩ := hXf.more; go_simp; generalize hq1 : U.heap.size + osf.size = q1; refine hK _ _ (fun W => ArrIn W (some ⟨q1, 0, none⟩) 1 1 [nV r]) (by (try simp only [drew_more]); exact (Ext.refl _).alloc _) (fun _ _ hx h => h.ext hx) (karr_new [nV r] (by rw [← hq1]; simp) rfl rfl (by decide) (by simpa using hRr.ok)) ?_)
        try simp only [Act.put, zqA, zqB, zqC]
        (refine wpFg_eff rfl ?_ (fun wf hXf hE K hK => ?_); rfl; obtain ⟨osf, df, rfl⟩ := hXf.more; go_simp; refine (krow_any _ _ _ _ (by decide)).mono ?_; rintro e w' ⟨rfl, hb⟩; refine hK _ _ (fun W => ArrIn W (some ⟨q1, 0, none⟩) 1 1 [nV r]) (by (try simp only [more_drew, more_more, Array.append_assoc]); exact hb) (fun _ _ hx h => h.ext hx) (hE.ext (by (try simp only [more_drew, more_more, Array.append_assoc]); exact hb)) ?_)
        try simp only [Act.put, zqA, zqB, zqC]
        (refine wpFg_eff rfl ?_ (fun wf hXf hE K hK => ?_); rfl; obtain ⟨osf, df, rfl⟩ := hXf.more; go_simp; generalize hq2 : U.heap.size + osf.size = q2; refine hK _ _ (fun W => ArgsIn W (some ⟨q2, 0, none⟩) 2 2 [kOne (nV r) q1, kOne (nV P) p2]) (by (try simp only [drew_more]); exact (Ext.refl _).alloc _) (fun _ _ hx h => h.ext hx) (kargs_new (n := 2) [kOne (nV r) q1, kOne (nV P) p2] (by rw [← hq2]; simp) rfl rfl (by decide) (by intro a ha; simp only [List.mem_cons, List.not_mem_nil, or_false] at ha; rcases ha with rfl | rfl; exact kOne_ok hE hRr; exact kOne_ok (hPu.ext (by with_reducible repeat (first | exact Ext.refl _ | apply Ext.drew | apply Ext.alloc | apply Ext.more_))) hpr)) ?_)
        try simp only [Act.put, zqA, zqB, zqC]
        (refine wpFg_eff rfl ?_ (fun wf hXf hE K hK => ?_); rfl; obtain ⟨osf, df, rfl⟩ := hXf.more; go_simp; refine (kone_in hE (by decide) (by decide) (by rw [both_oneV hRr hpr (right_roundV hRr), HFS.out.2.1]) (fun W hW g => mcall_round _ _ _ _ _ ((HTU.out.ext (by with_reducible repeat (first | exact Ext.refl _ | apply Ext.drew | apply Ext.alloc | apply Ext.more_))).ext hW) g)).mono ?_; rintro e w' ⟨rfl, hb⟩; refine hK _ _ (fun _ => True) (by (try simp only [more_drew, more_more, Array.append_assoc]); exact hb) (fun _ _ _ _ => trivial) trivial ?_)
        try simp only [Act.put, zqA, zqB, zqC]
        iterate 6 ((refine wpFg_read (v := ?_) rfl ?_ (fun w1 h1 => ?_) ?_; rotate_left 1; rfl; (obtain ⟨os1, d1, rfl⟩ := h1.more; go_simp; first | done | rfl)); try simp only [Act.put, zqA, zqB, zqC])
        (refine wpFg_launch (t := 63) ?_ (fun b => .slice (some ⟨b, 0, none⟩) 1 1) rfl rfl rfl (fun w1 => ?_) ?_; rotate_left 1; (go_simp; first | done | rfl))
        (refine wpFg_launch (t := 58) ?_ (fun b => .slice (some ⟨b, 0, none⟩) 1 1) rfl rfl rfl (fun w1 => ?_) ?_; rotate_left 1; (go_simp; first | done | rfl))
        refine wpFg_wait fun q3 _ _ _ => ?_; refine ⟨fun W => ArrIn W (some ⟨q3, 0, none⟩) 1 1 [nV r], fun _ _ hx h => h.ext hx, fun W _ hE h1 => karr_block [nV r] h1 rfl rfl (by decide) (by simpa using hRr.ok), ?_⟩
        try simp only [Act.put, zqA, zqB, zqC]
        (refine wpFg_eff rfl ?_ (fun wf hXf hE K hK => ?_); rfl; obtain ⟨osf, df, rfl⟩ := hXf.more; go_simp; refine (krow_any _ _ _ _ (by decide)).mono ?_; rintro e w' ⟨rfl, hb⟩; refine hK _ _ (fun W => ArrIn W (some ⟨q3, 0, none⟩) 1 1 [nV r]) (by (try simp only [more_drew, more_more, Array.append_assoc]); exact hb) (fun _ _ hx h => h.ext hx) (hE.ext (by (try simp only [more_drew, more_more, Array.append_assoc]); exact hb)) ?_)
        try simp only [Act.put, zqA, zqB, zqC]
        (refine wpFg_eff rfl ?_ (fun wf hXf hE K hK => ?_); rfl; obtain ⟨osf, df, rfl⟩ := hXf.more; go_simp; generalize hq4 : U.heap.size + osf.size = q4; refine hK _ _ (fun W => ArgsIn W (some ⟨q4, 0, none⟩) 1 1 [kOne (nV r) q3]) (by (try simp only [drew_more]); exact (Ext.refl _).alloc _) (fun _ _ hx h => h.ext hx) (kargs_new (n := 1) [kOne (nV r) q3] (by rw [← hq4]; simp) rfl rfl (by decide) (by intro a ha; obtain rfl := List.mem_singleton.1 ha; exact kOne_ok hE hRr)) ?_)
        try simp only [Act.put, zqA, zqB, zqC]
        (refine wpFg_eff rfl ?_ (fun wf hXf hE K hK => ?_); rfl; obtain ⟨osf, df, rfl⟩ := hXf.more; go_simp; refine (kone_in hE (by decide) (by decide) (by rw [each_oneV, HFS.out.2.2.1]) (fun W hW g => mcall_abs _ _ _ _ _ ((HTU.out.ext (by with_reducible repeat (first | exact Ext.refl _ | apply Ext.drew | apply Ext.alloc | apply Ext.more_))).ext hW) g)).mono ?_; rintro e w' ⟨rfl, hb⟩; refine hK _ _ (fun _ => True) (by (try simp only [more_drew, more_more, Array.append_assoc]); exact hb) (fun _ _ _ _ => trivial) trivial ?_)
        try simp only [Act.put, zqA, zqB, zqC]
        refine wpFg_wait fun q5 _ _ _ => ?_; refine ⟨fun W => ArgsIn W (some ⟨q5, 0, none⟩) 1 1 [kOne (nV (m, x)) p1], fun _ _ hx h => h.ext hx, fun W hXW _ hw => kargs_block [kOne (nV (m, x)) p1] hw rfl rfl (by decide) (by intro a ha; obtain rfl := List.mem_singleton.1 ha; exact kOne_ok (hXu.ext ((Ext.refl _).drew.trans hXW)) hxr), ?_⟩
        try simp only [Act.put, zqA, zqB, zqC]
        (refine wpFg_eff rfl ?_ (fun wf hXf hE K hK => ?_); rfl; obtain ⟨osf, df, rfl⟩ := hXf.more; go_simp; refine (kone_in hE (by decide) (by decide) (by rw [each_oneV, HFS.out.2.2.2.1]) (fun W hW g => mcall_abs _ _ _ _ _ ((HTU.out.ext (by with_reducible repeat (first | exact Ext.refl _ | apply Ext.drew | apply Ext.alloc | apply Ext.more_))).ext hW) g)).mono ?_; rintro e w' ⟨rfl, hb⟩; refine hK _ _ (fun _ => True) (by (try simp only [more_drew, more_more, Array.append_assoc]); exact hb) (fun _ _ _ _ => trivial) trivial ?_)
        try simp only [Act.put, zqA, zqB, zqC]
        (refine wpFg_eff rfl ?_ (fun wf hXf hE K hK => ?_); rfl; obtain ⟨osf, df, rfl⟩ := hXf.more; go_simp; generalize hq6 : U.heap.size + osf.size = q6; refine hK _ _ (fun W => ArrIn W (some ⟨q6, 0, none⟩) 1 1 [nV ax]) (by (try simp only [drew_more]); exact (Ext.refl _).alloc _) (fun _ _ hx h => h.ext hx) (karr_new [nV ax] (by rw [← hq6]; simp) rfl rfl (by decide) (by simpa using hAr.ok)) ?_)
        try simp only [Act.put, zqA, zqB, zqC]
        (refine wpFg_eff rfl ?_ (fun wf hXf hE K hK => ?_); rfl; obtain ⟨osf, df, rfl⟩ := hXf.more; go_simp; refine (krow_any _ _ _ _ (by decide)).mono ?_; rintro e w' ⟨rfl, hb⟩; refine hK _ _ (fun W => ArrIn W (some ⟨q6, 0, none⟩) 1 1 [nV ax]) (by (try simp only [more_drew, more_more, Array.append_assoc]); exact hb) (fun _ _ hx h => h.ext hx) (hE.ext (by (try simp only [more_drew, more_more, Array.append_assoc]); exact hb)) ?_)
        try simp only [Act.put, zqA, zqB, zqC]
        (refine wpFg_eff rfl ?_ (fun wf hXf hE K hK => ?_); rfl; obtain ⟨osf, df, rfl⟩ := hXf.more; go_simp; generalize hq7 : U.heap.size + osf.size = q7; refine hK _ _ (fun W => ArgsIn W (some ⟨q7, 0, none⟩) 2 2 [kOne (nV ax) q6, kOne (nV P) p2]) (by (try simp only [drew_more]); exact (Ext.refl _).alloc _) (fun _ _ hx h => h.ext hx) (kargs_new (n := 2) [kOne (nV ax) q6, kOne (nV P) p2] (by rw [← hq7]; simp) rfl rfl (by decide) (by intro a ha; simp only [List.mem_cons, List.not_mem_nil, or_false] at ha; rcases ha with rfl | rfl; exact kOne_ok hE hAr; exact kOne_ok (hPu.ext (by with_reducible repeat (first | exact Ext.refl _ | apply Ext.drew | apply Ext.alloc | apply Ext.more_))) hpr)) ?_)
        try simp only [Act.put, zqA, zqB, zqC]
        (refine wpFg_eff rfl ?_ (fun wf hXf hE K hK => ?_); rfl; obtain ⟨osf, df, rfl⟩ := hXf.more; go_simp; refine (kone_in hE (by decide) (by decide) (by rw [both_oneV hAr hpr (right_roundV hAr), HFS.out.2.2.2.2]) (fun W hW g => mcall_round _ _ _ _ _ ((HTU.out.ext (by with_reducible repeat (first | exact Ext.refl _ | apply Ext.drew | apply Ext.alloc | apply Ext.more_))).ext hW) g)).mono ?_; rintro e w' ⟨rfl, hb⟩; refine hK _ _ (fun _ => True) (by (try simp only [more_drew, more_more, Array.append_assoc]); exact hb) (fun _ _ _ _ => trivial) trivial ?_)
        try simp only [Act.put, zqA, zqB, zqC]
        iterate 2 ((refine wpFg_read (v := ?_) rfl ?_ (fun w1 h1 => ?_) ?_; rotate_left 1; rfl; (obtain ⟨os1, d1, rfl⟩ := h1.more; go_simp; first | done | rfl)); try simp only [Act.put, zqA, zqB, zqC])
        (refine wpFg_done fun wz hXz hE => ?_; obtain ⟨osz, dz, rfl⟩ := hXz.more)
        refine wpTl_nil ?_
        go_upto_region 10 with (first | (go_at_call 22; (with_reducible refine (HCM.out.1 _).mono ?_); rintro e w' ⟨rfl, hb⟩; obtain ⟨osm1, dm1, rfl⟩ := hb.more; clear hb) | (go_at_call 23; (with_reducible refine (HCM.out.2.1 _).mono ?_); rintro e w' ⟨rfl, hb⟩; obtain ⟨oss1, ds1, rfl⟩ := hb.more; clear hb) | (go_at_call 24; (with_reducible refine (HCM.out.2.2.1 _).mono ?_); rintro e w' ⟨rfl, hb⟩; obtain ⟨osu1, du1, rfl⟩ := hb.more; clear hb))
        by_cases hneg : so1 < 0
        · have hneg' : decide (so1 < 0) = true := decide_eq_true hneg
          have hz : (if so1 < 0 then -st1 else st1) = -st1 := if_pos hneg
          have hcc := fun W => HCM.out.2.2.2.1 (-st1) W hz
          have hll := fun a b => HCM.out.2.2.2.2 a b (-st1) hz
          cases g1 with
          | false =>
            go_wp2_with fail
            go_ret
            exact ⟨rfl, HX0.out.trans (by repeat (first | (with_reducible (first | exact Ext.refl _ | exact ext_d _ _ _ _ | exact ext_app _ _ _ _ _ | exact ext_app2 _ _ _ _ _ _)) | ((with_reducible refine ext_suffix ⟨_, ?_⟩); (try simp only [Array.append_assoc]); rfl) | (with_reducible (first | apply Ext.drew | apply Ext.alloc | apply Ext.more_))))⟩
          | true =>
            cases g2 with
            | false =>
              go_wp2_with fail
              go_ret
              exact ⟨rfl, HX0.out.trans (by repeat (first | (with_reducible (first | exact Ext.refl _ | exact ext_d _ _ _ _ | exact ext_app _ _ _ _ _ | exact ext_app2 _ _ _ _ _ _)) | ((with_reducible refine ext_suffix ⟨_, ?_⟩); (try simp only [Array.append_assoc]); rfl) | (with_reducible (first | apply Ext.drew | apply Ext.alloc | apply Ext.more_))))⟩
            | true =>
              have hl := hll rfl rfl
              clear hll
              go_wp2_with (first | (go_at_call 25; (with_reducible refine (hcc _).mono ?_); rintro e w' ⟨rfl, hb⟩; obtain ⟨osp1, dp1, rfl⟩ := hb.more; clear hb))
              go_ret
              exact ⟨rfl, HX0.out.trans (by repeat (first | (with_reducible (first | exact Ext.refl _ | exact ext_d _ _ _ _ | exact ext_app _ _ _ _ _ | exact ext_app2 _ _ _ _ _ _)) | ((with_reducible refine ext_suffix ⟨_, ?_⟩); (try simp only [Array.append_assoc]); rfl) | (with_reducible (first | apply Ext.drew | apply Ext.alloc | apply Ext.more_))))⟩
        · have hneg' : decide (so1 < 0) = false := decide_eq_false hneg
          have hz : (if so1 < 0 then -st1 else st1) = st1 := if_neg hneg
          have hcc := fun W => HCM.out.2.2.2.1 st1 W hz
          have hll := fun a b => HCM.out.2.2.2.2 a b st1 hz
          cases g1 with
          | false =>
            go_wp2_with fail
            go_ret
            exact ⟨rfl, HX0.out.trans (by repeat (first | (with_reducible (first | exact Ext.refl _ | exact ext_d _ _ _ _ | exact ext_app _ _ _ _ _ | exact ext_app2 _ _ _ _ _ _)) | ((with_reducible refine ext_suffix ⟨_, ?_⟩); (try simp only [Array.append_assoc]); rfl) | (with_reducible (first | apply Ext.drew | apply Ext.alloc | apply Ext.more_))))⟩
          | true =>
            cases g2 with
            | false =>
              go_wp2_with fail
              go_ret
              exact ⟨rfl, HX0.out.trans (by repeat (first | (with_reducible (first | exact Ext.refl _ | exact ext_d _ _ _ _ | exact ext_app _ _ _ _ _ | exact ext_app2 _ _ _ _ _ _)) | ((with_reducible refine ext_suffix ⟨_, ?_⟩); (try simp only [Array.append_assoc]); rfl) | (with_reducible (first | apply Ext.drew | apply Ext.alloc | apply Ext.more_))))⟩
            | true =>
              have hl := hll rfl rfl
              clear hll
              go_wp2_with (first | (go_at_call 25; (with_reducible refine (hcc _).mono ?_); rintro e w' ⟨rfl, hb⟩; obtain ⟨osp1, dp1, rfl⟩ := hb.more; clear hb))
              go_ret
              exact ⟨rfl, HX0.out.trans (by repeat (first | (with_reducible (first | exact Ext.refl _ | exact ext_d _ _ _ _ | exact ext_app _ _ _ _ _ | exact ext_app2 _ _ _ _ _ _)) | ((with_reducible refine ext_suffix ⟨_, ?_⟩); (try simp only [Array.append_assoc]); rfl) | (with_reducible (first | apply Ext.drew | apply Ext.alloc | apply Ext.more_))))⟩
  · have hq : rtB m x = false := rtB_no hr
    go_enter Tryz.func5, Tryz.ntmps5
    go_wp2_with (first | (go_at_call 16; (with_reducible refine (awake11_any _ (HT.out.ext (by with_reducible repeat (first | exact Ext.refl _ | apply Ext.drew | apply Ext.alloc | apply Ext.more_))) (HF.out.ext (by with_reducible repeat (first | exact Ext.refl _ | apply Ext.drew | apply Ext.alloc | apply Ext.more_)))).mono ?_); rintro e w' ⟨rfl, hb⟩; obtain ⟨osw1, dw1, rfl⟩ := hb.more; clear hb) | (go_at_call 21; (with_reducible refine (rright_rt _ _ _ hm).mono ?_); rintro e w' ⟨rfl, hb⟩; obtain ⟨osq, dq, rfl⟩ := hb.more; clear hb))
    go_ret
    exact ⟨rfl, by with_reducible repeat (first | exact Ext.refl _ | apply Ext.drew | apply Ext.alloc | apply Ext.more_)⟩
end Go.Proofs.YteecmifjbeojeaaGreatDoor
namespace Go.Proofs.YteecmifjbeojeaaGreatDoor
open Go.ChangeShapes Go.WideShapes Go.ChangeAt Go.RowKit Go.Deep
theorem cells_num : Tryz.prog.cellsOf 29 = 2 := by kernel_rfl
theorem cells_int : Tryz.prog.cellsOf 3 = 1 := by kernel_rfl
set_option maxRecDepth 100000
section
variable {H : Type} {enc : TypeId × Value → H} {w : World} {base : Nat} {spare : Nat → Bool} {held : Bool}
theorem i64_of {n : Int} (h : (Lit.int .i64 n).wf = true) : I64 n := by
  simpa [Lit.wf, IntKind.min, IntKind.max, IntKind.signed, IntKind.bits, I64] using h
theorem open_numV {r : Reach} {b0 : Nat} {v : Value} {d : DataW H} {p : List MemPlace} (hv : Value.okWide Tryz.prog w r b0 29 v) (h : DataW.Trod enc Tryz.prog w base spare held 29 v d p) :
    ∃ m e : Int, v = NV m e ∧ I64 m ∧ I64 e := by
  obtain ⟨cs, rfl, hsz⟩ : ∃ cs, v = .agg cs ∧ cs.size = Tryz.prog.cellsOf 29 := by
    simp only [Value.okWide, Tryz.underlying29] at hv
    obtain ⟨cs, h1, h2, _⟩ := hv
    exact ⟨cs, h1, h2⟩
  rw [cells_num] at hsz
  obtain ⟨fuel, hf⟩ := h
  obtain ⟨cl⟩ := cs
  match cl, hsz with
  | [c1, c2], _ =>
    have hf' : DataW.trod enc Tryz.prog w base spare held fuel 29 [c1, c2] = some (d, p) := by simpa [Value.cells] using hf
    obtain ⟨xs, n, _, _, hl, hxs, hg⟩ := DataW.trod_struct Tryz.underlying29 hf'
    obtain ⟨y0, hy0⟩ : ∃ y, xs[0]? = some y := ⟨_, List.getElem?_eq_getElem (by rw [hxs]; decide)⟩
    have g0 : DataW.trod enc Tryz.prog w base spare held n 3 [c1] = some y0 := by rw [← hy0]; have := hg 0 _ rfl; simpa [cells_int] using this
    obtain ⟨y1, hy1⟩ : ∃ y, xs[1]? = some y := ⟨_, List.getElem?_eq_getElem (by rw [hxs]; decide)⟩
    have g1 : DataW.trod enc Tryz.prog w base spare held n 3 [c2] = some y1 := by rw [← hy1]; have := hg 1 _ rfl; simpa [cells_int] using this
    obtain ⟨m, e0, _, w0⟩ := DataW.trod_int Tryz.underlying3 g0
    obtain ⟨e, e1, _, w1⟩ := DataW.trod_int Tryz.underlying3 g1
    simp only [List.cons.injEq, and_true] at e0 e1
    subst e0 e1
    exact ⟨m, e, rfl, i64_of w0, i64_of w1⟩
end
end Go.Proofs.YteecmifjbeojeaaGreatDoor
namespace Go.Proofs.YteecmifjbeojeaaGreatDoor
open Go.ChangeShapes Go.WideShapes Go.ChangeAt Go.RowKit Go.Deep
set_option maxRecDepth 100000
section
variable {H : Type} {enc : TypeId × Value → H} {w : World} {base : Nat} {spare : Nat → Bool} {held : Bool}
theorem open_i8 {r : Reach} {b0 : Nat} {v : Value} {d : DataW H} {p : List MemPlace} (hv : Value.okWide Tryz.prog w r b0 41 v) (h : DataW.Trod enc Tryz.prog w base spare held 41 v d p) :
    ∃ b : Int, v = .int .i8 b ∧ (-128 ≤ b ∧ b ≤ 127) := by
  obtain ⟨b, rfl⟩ := okWide_int Tryz.underlying41 hv
  obtain ⟨fuel, hf⟩ := h
  obtain ⟨m, e0, _, w0⟩ := DataW.trod_int Tryz.underlying41 hf
  have e1 : b = m := by simpa [Value.cells] using e0
  subst e1
  have : -128 ≤ b ∧ b ≤ 127 := by simpa [Lit.wf, IntKind.min, IntKind.max, IntKind.signed, IntKind.bits] using w0
  exact ⟨b, rfl, this⟩
end
end Go.Proofs.YteecmifjbeojeaaGreatDoor
