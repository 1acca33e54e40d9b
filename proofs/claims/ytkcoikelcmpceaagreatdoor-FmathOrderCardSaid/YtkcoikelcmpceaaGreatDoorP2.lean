/- What the rows' proofs lean on: the contracts of the functions that they reach, and plain facts (part P2). -/
import Derived.WalkKit
import Derived.WalkLawsBesides
import Derived.WalkSpells
import Derived.Outline
import Derived.Below
import Derived.Deep.RegionHeld3
import Derived.Deep.DeepCutAuto
import Derived.Deep.AppendLies
import Derived.Maps.AppendAt
import Derived.Lib.Hide
import Derived.OrdersHeld
import Derived.Test.YtkcoikelcmpceaaGreatDoorProg
import Derived.Shelf.Strings.Builder1
import Derived.Shelf.Strings.Builder2
import Derived.Shelf.Small.Bits
import Derived.Shelf.Small.Strs
import Derived.Shelf.Small.Wraps
import Derived.Shelf.Strings.BuilderF
import Derived.Shelf.Strconv.Itoa0
import Derived.Shelf.Strconv.Itoa1
import Derived.Shelf.LaysM
import Derived.Shelf.Strconv.Itoa2
import Derived.Shelf.Strings.Prefix
import Derived.Shelf.Bits.Mul64
import Derived.Shelf.Strings.Repeat
import Derived.Lib.ItoaMem
import Derived.Lib.OthersKept
import Derived.Deep.CutBlock
import Derived.Laws.Bits64b
import Derived.Lib.AppendZeros
import Derived.Lib.Bytealg
import Derived.Test.YtkcoikelcmpceaaGreatDoorP1
set_option linter.unusedSimpArgs false
set_option linter.unusedVariables false
set_option maxRecDepth 100000
namespace Go.Proofs.YtkcoikelcmpceaaGreatDoor
open Go.RowKit NM
theorem zeroCells_one (z : Value) (n : Nat) : Builtin.zeroCells #[z] n = (List.replicate n z).toArray := by
  apply Array.ext_getElem?
  intro j
  unfold Builtin.zeroCells
  by_cases h : j < n
  · rw [Array.getElem?_eq_getElem (by simpa using h), Array.getElem?_eq_getElem (by simpa using h)]
    simp [Nat.mod_one]
  · rw [Array.getElem?_eq_none (by simp; omega), Array.getElem?_eq_none (by simp; omega)]
/-- append of so many noughts onto a list of one's own. -/
theorem append_zeros {P : Program} (w : World) (base : Nat) (t tn ty e : TypeId) (i : TypeInfo) (z : Value) (kn : IntKind) (bytes : Nat) (ht : P.underlying t = some (.slice e)) (htn : P.underlying tn = some (.int kn)) (hi : P.info? e = some i) (hz : i.zero = some z)
    (hsize : i.size = 1) (hby : i.bytes = bytes) (hzc : z.cells = #[z]) (h1 : z.oneCell' = true)
    (v : Value) (n : Nat) (xs : List Value) (hown : w.ownsRow base e 1 v n xs) (hn0 : 0 < n) (m : Nat) (h63 : n + m ≤ 1000000) (hbytes : bytes ≤ 1000) (hbase : base ≤ w.heap.size) :
    ∃ v' w', (Builtin.append_ #[t, tn] ty #[v, .int .i64 (m : Int)]).run P w = .ok v' w' ∧ w'.ownsRow base e 1 v' (n + m) (xs ++ List.replicate m z) ∧ w.grownBy w' v.ownBlock := by
  have hw : IntKind.i64.wrap (m : Int) = m := by rw [IntKind.wrap_i64]; omega
  have hneg : ¬ ((m : Int) < 0) := by omega
  have hmb : m * i.bytes ≤ 1000000 * 1000 := Nat.mul_le_mul (by omega) (by omega)
  have h48i : ¬ (281474976710656 < (m : Int) * (i.bytes : Int)) := by rw [← Int.natCast_mul]; omega
  rcases hown.2 with ⟨_, h0⟩ | ⟨g, cap, cur, rfl, hbg, hg, hnc, hcm, hcs, htake⟩
  · omega
  have hlen : (xs ++ List.replicate m z).length = (n + m) * 1 := by rw [List.length_append, hown.1, List.length_replicate]; omega
  by_cases hm : m = 0
  · subst hm
    have hw0 : IntKind.i64.wrap 0 = 0 := by decide
    refine ⟨.slice (some ⟨g, 0, none⟩) n cap, w, ?_, by simpa using hown, ⟨rfl, rfl, rfl, Nat.le_refl _, fun _ _ _ => rfl⟩⟩
    simp [Builtin.append_, run_underlying ht, run_underlying htn, sizeOf, typeInfo, hi, asInt, asIntOf, hw0, hnc, storeCells]
  · have hms : ¬ (m * i.size = 0) := by rw [hsize]; omega
    have hms1 : ¬ (m = 0) := hm
    by_cases hroom : n + m ≤ cap
    · have hst := run_storeCells_at P g n e (List.replicate m z) 0 cur w hg (by rw [List.length_replicate]; omega) (fun u hu => by rw [List.eq_of_mem_replicate hu]; exact h1)
      simp only [Nat.add_zero] at hst
      refine ⟨.slice (some ⟨g, 0, none⟩) (n + m) cap, _, ?_, ⟨hlen, .inr ⟨g, cap, (cur.toList.take n ++ List.replicate m z ++ cur.toList.drop (n + (List.replicate m z).length)).toArray, rfl, hbg, setRow_heap w g cur _ e _ hg, hroom, hcm, ?_, ?_⟩⟩, ⟨rfl, rfl, rfl, by simp, fun k _ hk => setRow_other w g k _ (fun e => hk (by simp [Value.ownBlock, e]))⟩⟩
      · simp [Builtin.append_, run_underlying ht, run_underlying htn, sizeOf, typeInfo, zeroValue, hi, hz, asInt, asIntOf, hw, hneg, h48i, hms1, hroom, hsize, hzc, zeroCells_one, Addr.add_lit]
        rw [hst]
        simp
      · simp only [List.size_toArray, List.length_append, List.length_take, List.length_drop, Array.length_toList, List.length_replicate]
        omega
      · rw [Nat.mul_one] at htake
        rw [htake, ← hlen]
        exact List.take_left
    · have holds : ∀ j u, xs[j]? = some u → w.cell? ((⟨g, 0, none⟩ : Addr).add j) = some u := hown.cells (g := g) rfl
      have hf := run_firstCells_some (P := P) w.drew i.size n ⟨g, 0, none⟩ n cap xs (by rw [hsize]; exact hown.1) (by simpa using holds)
      rw [hsize] at hf
      have h63' : ¬ (9223372036854775807 < ((n : Int) + (m : Int))) := by omega
      have hfit := growslice_fits (need := n + m) (old := cap) (bytes := i.bytes) (by omega) (Nat.le_trans (Nat.mul_le_mul (show n + m ≤ 1000000 by omega) (show i.bytes ≤ 1000 by omega)) (by decide))
      have h48' : ¬ (281474976710656 < Builtin.nextslicecap (n + m) cap * i.bytes) := by omega
      have hge := grownCap_ge w (n + m) cap e
      have hcm' : grownCap w (n + m) cap e ≤ maxLen := grownCap_le_maxLen w (n + m) cap e (by simp [maxLen]; omega)
      refine ⟨.slice (some ⟨w.heap.size, 0, none⟩) (n + m) (grownCap w (n + m) cap e), w.drew.alloc (.cells (xs.toArray ++ (List.replicate m z).toArray ++ Builtin.zeroCells z.cells (grownCap w (n + m) cap e - (n + m))) e), ?_, ⟨hlen, .inr ⟨w.heap.size, _, _, rfl, hbase, heap_alloc_new w.drew _, hge, hcm', ?_, ?_⟩⟩, ⟨rfl, rfl, rfl, by simp, fun j hj _ => RowKit.Below.heap_alloc w.drew _ j hj⟩⟩
      · simp [Builtin.append_, run_underlying ht, run_underlying htn, sizeOf, typeInfo, zeroValue, hi, hz, asInt, asIntOf, hw, hneg, h48i, hms1, hroom, hsize, hzc, zeroCells_one, h63', h48', Question.forced, hf, newRow, grownCap]
      · simp only [Array.size_append, List.size_toArray, size_zeroCells, hzc, hown.1, List.length_replicate]
        simp; omega
      · simp only [Array.toList_append, List.append_assoc]
        rw [← List.append_assoc, ← hlen]
        exact List.take_left
theorem own_mono {w : World} {base base' : Nat} {e : TypeId} {v : Value} {n : Nat} {xs : List Value} (h : w.ownsRow base e 1 v n xs) (hb : base' ≤ base) : w.ownsRow base' e 1 v n xs := by
  refine ⟨h.1, ?_⟩
  rcases h.2 with h2 | ⟨g, cap, cur, h3, h4, h5⟩
  · exact Or.inl h2
  · exact Or.inr ⟨g, cap, cur, h3, by omega, h5⟩
theorem b8_zeros (l : List Nat) (k : Nat) : b8 l ++ List.replicate k (Value.int .u8 0) = b8 (l ++ List.replicate k 0) := by unfold b8; simp
theorem und_int : Tryz.prog.underlying 3 = some (.int .i64) := Tryz.underlying3
/-- The digits of a number down to 10 to the power of low. -/
def sprd (m : Int) (k : Nat) : List Nat := dig0 m.natAbs ++ List.replicate k 0
set_option maxHeartbeats 2000000 in
theorem spread_any (m ex low : Int) (k : Nat) (w : World) (htab : Tab w) (hm : I64 m) (hk : ex - low = (k : Int)) (hkb : k ≤ 1000) :
    Calls Tryz.prog 152 #[NV m ex, .int .i64 low] w fun e w' => ∃ v, e = .returned v ∧ w'.ownsRow w.heap.size 5 1 v (sprd m k).length (b8 (sprd m k)) ∧ Ext w w' := by
  have hu : m.natAbs < 18446744073709551616 := by obtain ⟨h1, h2⟩ := hm; omega
  have hl20 : (dig0 m.natAbs).length ≤ 20 := by rw [dig0_length]; have := (nd_le_iff m.natAbs 20).2 (Nat.lt_of_lt_of_le hu (by decide)); omega
  have hl1 : 1 ≤ (dig0 m.natAbs).length := by rw [dig0_length]; omega
  have hdg := fun W hW => digitsOf_any m.natAbs hu W hW
  have hsz := fun W => size_nat m W hm
  have hsp : sprd m k = dig0 m.natAbs ++ List.replicate k 0 := rfl
  obtain ⟨i0, hi, hz0, hz1, hz2⟩ := info_parts info_byte
  generalize dig0 m.natAbs = D at *
  generalize sprd m k = R at *
  generalize m.natAbs = N at *
  have HT := Lib.hid htab
  have HSP := Lib.hid hsp
  have w1 : IntKind.i64.wrap (ex - low) = (k : Int) := by rw [hk]; exact i64w (by omega) (by omega)
  have w2 : wrap64 (ex - low) = (k : Int) := by rw [hk]; exact IntWalk.wrap64_in _ (by omega)
  have w3 : IntKind.i64.wrap (k : Int) = (k : Int) := i64w (by omega) (by omega)
  clear htab hsp
  go_enter Tryz.func152, Tryz.ntmps152
  go_wp2
  refine wp_world fun W hW => ?_
  have c0 : W.cell? ⟨w.heap.size, 0, none⟩ = some (.int .i64 m) := by rw [hW]; go_simp
  have c1 : W.cell? ⟨w.heap.size, 1, none⟩ = some (.int .i64 ex) := by rw [hW]; go_simp
  have hz : w.heap.size < W.heap.size := by rw [hW]; simp
  have hxW : Ext w W := by rw [hW]; exact by with_reducible repeat (first | exact Ext.refl _ | apply Ext.drew | apply Ext.alloc | apply Ext.more_)
  clear hW
  have hdgW := hdg W.drew (HT.out.ext hxW.drew)
  clear hdg
  refine wp_plan (S := Ext _) [(0, 0), (1, 0), (4, 0), (5, 0), (6, 0), (7, 0), (2, 1), (3, 1), (8, 1), (9, 0)] [] (by kernel_rfl) (by kernel_rfl) (by kernel_rfl) (fun _ _ d _ _ h => by cases d <;> exact h) (Ext.drew (Ext.refl _)) ?_
  iterate 6 ((refine wpPl_read (v := ?_) rfl ?_ (fun _ h => ?_) ?_; rotate_left 1; rfl; (obtain ⟨_, _, rfl⟩ := h.more; go_simp; try rfl)); try simp only [Act.put, zqA, zqB, zqC])
  (refine wpPl_eff rfl ?_ (fun K hK => ?_); rfl; go_simp; (go_at_call 119; (with_reducible refine (hsz _).mono ?_); rintro e w' ⟨rfl, rfl⟩); refine hK _ _ ?_ ?_; (repeat (first | (with_reducible (first | exact Ext.refl _ | exact ext_d _ _ _ _ | exact ext_app _ _ _ _ _ | exact ext_app2 _ _ _ _ _ _ | exact ext_app3 _ _ _ _ _ _ _ | exact ext_app4 _ _ _ _ _ _ _ _ | exact ext_app5 _ _ _ _ _ _ _ _ _)) | ((with_reducible refine ext_suffix ⟨_, ?_⟩); (try simp only [Array.append_assoc]); rfl) | (with_reducible (first | apply Ext.drew | apply Ext.alloc | apply Ext.more_)) | apply Ext.drew | apply Ext.alloc | apply Ext.more_)))
  try simp only [Act.put, zqA, zqB, zqC]
  (refine wpPl_eff rfl ?_ (fun K hK => ?_); rfl; go_simp; (go_at_call 149; (with_reducible refine hdgW.mono ?_); rintro e w' ⟨v, rfl, ho, hx⟩; obtain ⟨os, d, rfl⟩ := hx.more); refine hK _ _ ?_ ?_; (repeat (first | (with_reducible (first | exact Ext.refl _ | exact ext_d _ _ _ _ | exact ext_app _ _ _ _ _ | exact ext_app2 _ _ _ _ _ _ | exact ext_app3 _ _ _ _ _ _ _ | exact ext_app4 _ _ _ _ _ _ _ _ | exact ext_app5 _ _ _ _ _ _ _ _ _)) | ((with_reducible refine ext_suffix ⟨_, ?_⟩); (try simp only [Array.append_assoc]); rfl) | (with_reducible (first | apply Ext.drew | apply Ext.alloc | apply Ext.more_)) | apply Ext.drew | apply Ext.alloc | apply Ext.more_)))
  try simp only [Act.put, zqA, zqB, zqC]
  (refine wpPl_eff rfl ?_ (fun K hK => ?_); rfl; obtain ⟨v2, w2, hr, ho2, hg2⟩ := append_zeros (P := Tryz.prog) _ W.heap.size 135 3 135 5 i0 (.int .u8 0) .i64 1 Tryz.underlying135 und_int hi hz0 hz1 hz2 rfl rfl _ _ _ ho hl1 k (by omega) (by omega) (by simp); refine Lib.wp_append_run _ _ _ _ _ rfl _ _ rfl rfl _ _ hr ?_; have hx2 : Ext W _ := ext_grown (Ext.trans (Ext.drew (Ext.refl W)) hx) ho hg2; refine hK _ _ hx2 ?_)
  try simp only [Act.put, zqA, zqB, zqC]
  (refine wpPl_read (v := ?_) rfl ?_ (fun _ h => ?_) ?_; rotate_left 1; rfl; (obtain ⟨_, _, rfl⟩ := h.more; go_simp; try rfl))
  try simp only [Act.put, zqA, zqB, zqC]
  refine wpPl_nil ?_
  go_wp2
  go_ret
  rw [b8_zeros] at ho2
  have hl2 : D.length + k = R.length := by rw [HSP.out]; simp
  rw [hl2, ← HSP.out] at ho2
  exact ⟨_, rfl, own_mono ho2 (by omega), hxW.trans hx2⟩
end Go.Proofs.YtkcoikelcmpceaaGreatDoor
namespace Go.Proofs.YtkcoikelcmpceaaGreatDoor.NM
/-- A value with its sign, rounded. -/
def rndI (x : Int) (e : Int) : Option (Int × Int) := rnd (decide (x < 0)) x.natAbs false e
theorem rnd_nought (neg more : Bool) (e : Int) : rnd neg 0 more e = some (0, 0) := rnd_of_zero (n2_zero _ _)
theorem rnd_sg (neg : Bool) (N : Nat) (e : Int) : rnd neg N false e = rndI (sg neg N) e := by
  unfold rndI
  rw [sg_natAbs]
  by_cases h : N = 0
  · subst h; rw [rnd_nought, rnd_nought]
  · congr 1
    cases neg <;> simp [sg] <;> omega
theorem rndI_neg (x e : Int) : rndI (-x) e = (rndI x e).map fun r => (-r.1, r.2) := by
  have h := rnd_neg (decide (x < 0)) x.natAbs false e
  have h1 : sg (!decide (x < 0)) x.natAbs = -x := by unfold sg; by_cases hx : x < 0 <;> simp [hx] <;> omega
  rw [rnd_sg, h1] at h
  exact h
theorem sg_nat (x : Int) : sg (decide (x < 0)) x.natAbs = x := by unfold sg; by_cases hx : x < 0 <;> simp [hx] <;> omega
/-- The sum of two numbers, as so many of 10 to the power of the lower power. -/
def sumI (ma ea mb eb : Int) : Int := ma * (T (ea - min ea eb).toNat : Nat) + mb * (T (eb - min ea eb).toNat : Nat)
def addS (ma ea mb eb : Int) : Option (Int × Int) := if Rt ma ea ∧ Rt mb eb then rndI (sumI ma ea mb eb) (min ea eb) else none
def mulS (ma ea mb eb : Int) : Option (Int × Int) := if Rt ma ea ∧ Rt mb eb then rndI (ma * mb) (ea + eb) else none
theorem sg_mul_nat (neg : Bool) (N k : Nat) : sg neg (N * k) = sg neg N * (k : Int) := by
  cases neg <;> simp [sg, Int.neg_mul]
/-- What a list of signed digits tells. -/
def valI (l : List Int) : Int := l.foldl (fun a d => 10 * a + d) 0
theorem foldl_valI (l : List Int) : ∀ a : Int, l.foldl (fun a d => 10 * a + d) a = a * (T l.length : Nat) + valI l := by
  induction l with
  | nil => intro a; simp [valI, T]
  | cons d l ih =>
    intro a
    have h1 := ih (10 * a + d)
    have h2 := ih (10 * 0 + d)
    simp only [valI, List.foldl_cons, List.length_cons] at *
    rw [h1, h2, T_succ, Int.natCast_mul, Int.add_mul, Int.add_mul, Int.mul_comm 10 a, Int.mul_assoc]
    simp; omega
theorem valI_cons (d : Int) (l : List Int) : valI (d :: l) = d * (T l.length : Nat) + valI l := by
  have := foldl_valI l (10 * 0 + d)
  simp only [valI, List.foldl_cons] at *
  rw [this]; simp
theorem valI_nil : valI [] = 0 := rfl
theorem valI_nat (l : List Nat) : valI (l.map fun d : Nat => (d : Int)) = (val l : Int) := by
  induction l with
  | nil => rfl
  | cons d l ih => rw [List.map_cons, valI_cons, val_cons, ih, List.length_map, Int.natCast_add, Int.natCast_mul]
theorem valI_neg (l : List Int) : valI (l.map fun d => -d) = - valI l := by
  induction l with
  | nil => rfl
  | cons d l ih => rw [List.map_cons, valI_cons, valI_cons, ih, List.length_map, Int.neg_mul]; omega
theorem valI_rep0 (n : Nat) : valI (List.replicate n 0) = 0 := by
  induction n with
  | zero => rfl
  | succ n ih => rw [List.replicate_succ, valI_cons, ih]; omega
/-- Digits added up, place by place. -/
theorem valI_zip : ∀ (a b : List Int), a.length = b.length → valI (List.zipWith (· + ·) a b) = valI a + valI b
  | [], [], _ => rfl
  | x :: a, y :: b, h => by
    have h' : a.length = b.length := by simpa using h
    rw [List.zipWith_cons_cons, valI_cons, valI_cons, valI_cons, valI_zip a b h', List.length_zipWith, h', Nat.min_self, Int.add_mul]; omega
/-- Signed digits from -9 to 9: less than the next place. -/
theorem valI_small {l : List Int} (h : ∀ d ∈ l, -9 ≤ d ∧ d ≤ 9) : -((T l.length : Nat) : Int) < valI l ∧ valI l < (T l.length : Nat) := by
  induction l with
  | nil => simp [valI_nil, T]
  | cons d l ih =>
    have h1 := ih (fun x hx => h x (List.mem_cons_of_mem _ hx))
    have h2 := h d (List.mem_cons_self ..)
    rw [valI_cons, List.length_cons, T_succ, Int.natCast_mul]
    have a1 : d * ((T l.length : Nat) : Int) ≤ 9 * ((T l.length : Nat) : Int) := Int.mul_le_mul_of_nonneg_right h2.2 (by omega)
    have a2 : (-9) * ((T l.length : Nat) : Int) ≤ d * ((T l.length : Nat) : Int) := Int.mul_le_mul_of_nonneg_right h2.1 (by omega)
    generalize ((T l.length : Nat) : Int) = t at *
    omega
/-- Are they such digits as a sum, or a difference, has? -/
def DOk (l : List Int) : Prop := (∀ d ∈ l, -9 ≤ d ∧ d ≤ 9) ∨ (∀ d ∈ l, 0 ≤ d ∧ d ≤ 18) ∨ (∀ d ∈ l, -18 ≤ d ∧ d ≤ 0)
theorem valI_nonneg {l : List Int} (h : ∀ d ∈ l, 0 ≤ d) : 0 ≤ valI l := by
  induction l with
  | nil => simp [valI_nil]
  | cons d l ih =>
    have h1 := ih (fun x hx => h x (List.mem_cons_of_mem _ hx))
    have h2 := Int.mul_nonneg (h d (List.mem_cons_self ..)) (show (0 : Int) ≤ (T l.length : Nat) by omega)
    rw [valI_cons]; omega
theorem valI_nonpos {l : List Int} (h : ∀ d ∈ l, d ≤ 0) : valI l ≤ 0 := by
  have := valI_nonneg (l := l.map fun d => -d) (by
    intro d hd
    obtain ⟨x, hx, rfl⟩ := List.mem_map.1 hd
    have := h x hx; omega)
  rw [valI_neg] at this; omega
theorem DOk.tail {d : Int} {l : List Int} (h : DOk (d :: l)) : DOk l := by
  rcases h with h | h | h
  · exact Or.inl fun x hx => h x (List.mem_cons_of_mem _ hx)
  · exact Or.inr (Or.inl fun x hx => h x (List.mem_cons_of_mem _ hx))
  · exact Or.inr (Or.inr fun x hx => h x (List.mem_cons_of_mem _ hx))
/-- The sign by the first digit that isn't 0. -/
def sgn : List Int → Bool
  | [] => false
  | d :: l => if d = 0 then sgn l else decide (d < 0)
theorem sgn_spec {l : List Int} (h : DOk l) : sgn l = decide (valI l < 0) := by
  induction l with
  | nil => simp [sgn, valI_nil]
  | cons d l ih =>
    rw [sgn, valI_cons]
    by_cases h0 : d = 0
    · rw [if_pos h0, ih h.tail, h0]; simp
    · rw [if_neg h0]
      have hT := T_pos l.length
      rcases h with h | h | h
      · have h1 := valI_small (l := l) (fun x hx => h x (List.mem_cons_of_mem _ hx))
        generalize ((T l.length : Nat) : Int) = t at *
        by_cases hd : d < 0
        · have := Int.mul_le_mul_of_nonneg_right (show d ≤ -1 by omega) (show 0 ≤ t by omega)
          simp [hd]; omega
        · have := Int.mul_le_mul_of_nonneg_right (show 1 ≤ d by omega) (show 0 ≤ t by omega)
          simp [hd]; omega
      · have h1 := valI_nonneg (l := l) (fun x hx => (h x (List.mem_cons_of_mem _ hx)).1)
        have h2 := (h d (List.mem_cons_self ..)).1
        have := Int.mul_nonneg h2 (show (0 : Int) ≤ (T l.length : Nat) by omega)
        have e1 : ¬ d < 0 := by omega
        simp only [e1, decide_false]
        symm
        rw [decide_eq_false_iff_not]
        omega
      · have h1 := valI_nonpos (l := l) (fun x hx => (h x (List.mem_cons_of_mem _ hx)).2)
        have h2 := (h d (List.mem_cons_self ..)).2
        have := Int.mul_le_mul_of_nonneg_right (show d ≤ -1 by omega) (show (0 : Int) ≤ (T l.length : Nat) by omega)
        have e1 : d < 0 := by omega
        have hT' : (0 : Int) < ((T l.length : Nat) : Int) := by omega
        simp only [e1, decide_true]
        symm
        rw [decide_eq_true_eq]
        omega
theorem drop_at {l : List Nat} {j x : Nat} (h : l[j]? = some x) : l.drop j = x :: l.drop (j + 1) := by
  have hj : j < l.length := by
    rcases Nat.lt_or_ge j l.length with h1 | h1
    · exact h1
    · rw [List.getElem?_eq_none h1] at h; cases h
  rw [List.drop_eq_getElem_cons hj]
  rw [List.getElem?_eq_getElem hj] at h
  rw [Option.some.inj h]
theorem lt_at {α : Type} {l : List α} {j : Nat} {x : α} (h : l[j]? = some x) : j < l.length := by
  rcases Nat.lt_or_ge j l.length with h1 | h1
  · exact h1
  · rw [List.getElem?_eq_none h1] at h; cases h
end Go.Proofs.YtkcoikelcmpceaaGreatDoor.NM
namespace Go.Proofs.YtkcoikelcmpceaaGreatDoor
open Go.RowKit NM
/-- The world with blocks behind (the name 'more' is taken by a parameter). -/
abbrev moreW := @more
/-- A value of type Dec. -/
abbrev DecV (neg : Bool) (A : Option Addr) (len cap : Nat) (ex : Int) : Value := .agg #[.bool neg, .slice A len cap, .int .i64 ex]
def NSt (base : Nat) (W0 : World) (M : Nat) (E : Int) (s6 s7 : Value) (wx : World) : Prop :=
  ∃ A1 c1 E', s6 = .slice A1 (nd M) c1 ∧ s7 = .int .i64 E' ∧ (M ≠ 0 → E' = E) ∧ -2000000 ≤ E' ∧ E' ≤ 2000000 ∧ Rd base wx A1 (i6 (dig M)) ∧ nd M ≤ c1 ∧ Ext W0 wx
theorem nd_n1 (N : Nat) (more : Bool) : nd (n1 N more) ≤ 16 := (nd_le_iff _ 16).2 (Nat.lt_of_le_of_lt (n1_le N more) (T_lt (by omega)))
theorem nd_n2 (N : Nat) (more : Bool) (e : Int) : nd (n2 N more e) ≤ 16 := (nd_le_iff _ 16).2 (Nat.lt_of_le_of_lt (n2_le N more e) (T_lt (by omega)))
theorem n2_of_n1_zero {N : Nat} {more : Bool} {e : Int} (h : n1 N more = 0) : n2 N more e = 0 := by
  unfold n2; rw [h]; exact cutN_false_zero _
/-- What the loop that leaves out noughts at the end keeps. -/
def NRel (M2 : Nat) (E2 : Int) (M : Nat) (E' : Int) : Prop := M = 0 ∧ M2 = 0 ∨ M ≠ 0 ∧ M2 ≠ 0 ∧ trim M E' = trim M2 E2 ∧ (nd M : Int) + E' = nd M2 + E2 ∧ M ≤ M2
theorem NRel.step {M2 : Nat} {E2 : Int} {M : Nat} {E' : Int} (h : NRel M2 E2 M E') (h0 : M ≠ 0) (h1 : M % 10 = 0) : NRel M2 E2 (M / 10) (E' + 1) := by
  rcases h with ⟨h2, _⟩ | ⟨_, h3, h4, h5, h6⟩
  · exact absurd h2 h0
  · right
    refine ⟨by omega, h3, ?_, ?_, by omega⟩
    · rw [← h4, trim_ten E' h0 h1]
    · rw [nd_pos h0] at h5; omega
theorem dig_last {M : Nat} (h : M ≠ 0) : (dig M)[nd M - 1]? = some (M % 10) := by
  rw [dig_pos h, nd_pos h, Nat.add_sub_cancel, ← dig_length (M / 10), List.getElem?_append_right (Nat.le_refl _), Nat.sub_self]; rfl
theorem dig_init {M : Nat} (h : M ≠ 0) : (dig M).take (nd M - 1) = dig (M / 10) := by
  rw [dig_pos h, nd_pos h, Nat.add_sub_cancel, ← dig_length (M / 10), List.take_left]
set_option maxHeartbeats 4000000 in
theorem near_any (base : Nat) (neg : Bool) (A : Option Addr) (len cap : Nat) (l : List Nat) (N : Nat) (ex : Int) (more : Bool) (w : World) (hlen : l.length = len) (h : Rd base w A (i6 l)) (hcp : len ≤ cap) (hbig : len ≤ 1000) (hall : AllD l) (hv : val l = N) (he : -1000000 ≤ ex ∧ ex ≤ 1000000) (hb : base ≤ w.heap.size) :
    Calls Tryz.prog 17 #[DecV neg A len cap ex, .bool more] w fun e w' => e = .returned (rnV (rnd neg N more ex)) ∧ Ext w w' := by
  have hx0 : Ext w ((w.alloc (.cells #[.bool neg, .slice A len cap, .int .i64 ex] 53)).alloc (.cells #[.int .i64 0, .int .i64 0] 26)) := by repeat (first | exact Ext.refl _ | apply Ext.drew | apply Ext.alloc | apply Ext.more_)
  have hst := rstrip_dig base A cap len l N ((w.alloc (.cells #[.bool neg, .slice A len cap, .int .i64 ex] 53)).alloc (.cells #[.int .i64 0, .int .i64 0] 26)) hlen (h.ext hx0) (by omega) hcp hall hv
  have hndN : nd N ≤ 1000 := by
    rw [← hv]
    have := (nd_le_iff (val l) l.length).2 (val_lt hall)
    omega
  have hdl := dig_length N
  clear h hlen hv hall hx0
  go_enter Tryz.func17, Tryz.ntmps17
  go_upto_if 19 with (go_at_call 35; refine hst.mono ?_; rintro e w' ⟨⟨A', cap', rfl, hr, hcp'⟩, rfl⟩; rw [hdl])
  have HR := Lib.hid hr
  have HDL := Lib.hid hdl
  rw [hdl] at hcp'
  clear hr hdl hst
  go_cut [6, 7] (fun s6 s7 wx => NSt base ((w.alloc (.cells #[.bool neg, .slice A len cap, .int .i64 ex] 53)).alloc (.cells #[.int .i64 0, .int .i64 0] 26)) (n1 N more) (ex + (nd N - 15 : Nat)) s6 s7 wx)
  case first =>
    by_cases h15 : 15 < nd N
    · have e15 : decide ((15 : Int) < (nd N : Int)) = true := by simp; omega
      have hsub : (nd N : Int) - 15 = ((nd N - 15 : Nat) : Int) := by omega
      have hct := rcut_any base A' cap' (nd N) (nd N - 15) N more ((w.alloc (.cells #[.bool neg, .slice A len cap, .int .i64 ex] 53)).alloc (.cells #[.int .i64 0, .int .i64 0] 26)) (by omega) rfl HR.out hcp' (by omega) (by simp; omega)
      go_wp2_with (go_at_call 36; refine hct.mono ?_; rintro e w' ⟨⟨A2, c2, rfl, hr2, hc2⟩, hb2⟩; rw [dig_length] at *)
      go_meet
      exact ⟨A2, c2, _, rfl, rfl, fun _ => rfl, by omega, by omega, hr2, hc2, hb2⟩
    · have hn1 : n1 N more = N := by unfold n1; rw [show nd N - 15 = 0 by omega, cutN_zero]
      have HN1 := Lib.hid hn1
      clear hn1
      go_wp2
      go_meet
      rw [HN1.out]
      exact ⟨A', cap', _, rfl, rfl, fun _ => by rw [show nd N - 15 = 0 by omega]; simp, by omega, by omega, HR.out, hcp', Ext.refl _⟩
  case rest =>
    obtain ⟨A1, c1, E1, rfl, rfl, hE1, hE1a, hE1b, hr1, hc1, hx1⟩ := hcut
    obtain ⟨os1, d1, rfl⟩ := hx1.more
    have hnd1 := nd_n1 N more
    have HR1 := Lib.hid hr1
    have HE1 := Lib.hid hE1
    clear hr1 hE1 hx1 HR
    go_upto_region 7 with (fail)
    refine wp_region_lit ?_
    iterate 3 ((refine wpL_read (v := ?_) rfl ?_ ?_; rotate_left 1; (go_simp; first | done | rfl)); try simp only [Act.put, zqA, zqB, zqC])
    iterate 3 ((refine wpL_gread (v := ?_) (c := ?_) rfl rfl rfl ?_ (fun hc => ?_) ?_; rotate_left 2; (first | exact gc_t _ | exact gc_f _ | exact gc_gt _ _ | exact gc_gf _ _); ((try simp only [gv_of hc]); (try (have hc1 := and_l hc; (try simp only [gv_of hc1]); (try (have hc2 := and_l hc1; (try simp only [gv_of hc2]))))); go_simp; first | done | rfl)); try simp only [Act.put, zqA, zqB, zqC])
    first | (refine wpL_pick_and rfl rfl rfl rfl rfl ?_) | (refine wpL_pick_or rfl rfl rfl rfl rfl ?_)
    try simp only [Act.put, zqA, zqB, zqC]
    refine wpList_nil ?_
    try go_simp
    go_upto_if 36 with (fail)
    go_cut [6, 7] (fun s6 s7 wx => NSt base ((w.alloc (.cells #[.bool neg, .slice A len cap, .int .i64 ex] 53)).alloc (.cells #[.int .i64 0, .int .i64 0] 26)) (n2 N more ex) (e2 N ex) s6 s7 wx)
    case first =>
      by_cases hlow : E1 < -40
      · by_cases hpos : n1 N more = 0
        · have hz : nd (n1 N more) = 0 := by rw [hpos, nd_zero]
          have e1 : decide (E1 < -40) = true := by simp; omega
          have e2' : decide (0 < nd (n1 N more)) = false := by simp; omega
          have e3' : ¬ (0 < nd (n1 N more)) := by omega
          have HZ := Lib.hid hpos
          clear hpos hz
          go_wp2_with fail
          go_meet
          have h20 := n2_of_n1_zero (e := ex) HZ.out
          refine ⟨A1, c1, E1, ?_, rfl, fun h0 => absurd h20 h0, hE1a, hE1b, ?_, ?_, by repeat (first | exact Ext.refl _ | apply Ext.drew | apply Ext.alloc | apply Ext.more_)⟩
          · rw [h20, HZ.out]
          · rw [h20, dig_zero]; exact Rd.nil _ _ _
          · rw [h20, nd_zero]; exact Nat.zero_le _
        · obtain ⟨k, rfl⟩ : ∃ k : Nat, E1 = -40 - (k : Int) := ⟨(-40 - E1).toNat, by omega⟩
          have hkk : -40 - (-40 - (k : Int)) = k := by omega
          have hk2 : (-40 - (ex + (nd N - 15 : Nat))).toNat = k := by have := HE1.out hpos; omega
          have he2 : e2 N ex = -40 := by unfold e2; have := HE1.out hpos; omega
          have hnp : 0 < nd (n1 N more) := by rw [nd_pos hpos]; omega
          have e1 : decide (-40 - (k : Int) < -40) = true := by simp; omega
          have e2' : decide (0 < nd (n1 N more)) = true := by simp; omega
          have HK := Lib.hid hk2
          have HE2 := Lib.hid he2
          clear hk2 he2 hpos
          have hct := rcut_any base A1 c1 (nd (n1 N more)) k (n1 N more) false _ (by omega) rfl HR1.out hc1 (by omega) (by simp; omega)
          go_wp2_with (go_at_call 36; refine hct.mono ?_; rintro e w' ⟨⟨A2, c2, rfl, hr2, hc2⟩, hb2⟩; rw [dig_length] at *)
          go_meet
          have hn2 : n2 N more ex = cutN (n1 N more) k false := by unfold n2; rw [HK.out]
          rw [hn2, HE2.out]
          exact ⟨A2, c2, _, rfl, rfl, fun _ => rfl, by omega, by omega, hr2, hc2, (ext_more _ _ _).trans hb2⟩
      · have e1 : decide (E1 < -40) = false := by simp; omega
        go_wp2
        go_meet
        have hn2 : n2 N more ex = n1 N more := by
          by_cases h0 : n1 N more = 0
          · rw [n2_of_n1_zero h0, h0]
          · unfold n2; rw [← HE1.out h0, show (-40 - E1).toNat = 0 by omega, cutN_zero]
        rw [hn2]
        exact ⟨A1, c1, E1, rfl, rfl, fun h0 => by unfold e2; rw [← HE1.out h0]; omega, hE1a, hE1b, HR1.out, hc1, ext_more _ _ _⟩
    case rest =>
      obtain ⟨A2, c2, E2, rfl, rfl, hE2, hE2a, hE2b, hr2, hc2, hx2⟩ := hcut
      obtain ⟨os2, d2, rfl⟩ := hx2.more
      have hnd2 := nd_n2 N more ex
      clear hx2 HR1 HE1
      have HR2 := Lib.hid hr2
      have HE2 := Lib.hid hE2
      clear hr2 hE2
      generalize hM2 : n2 N more ex = M2 at *
      have HM2 := Lib.hid hM2
      clear hM2
      go_wp2_with fail
      go_loop [6, 7] (fun a b => ∃ (M : Nat) (E' : Int) (A3 : Option Addr) (c3 : Nat), nd M ≤ 16 ∧ a = .slice A3 (nd M) c3 ∧ b = .int .i64 E' ∧ nd M ≤ c3 ∧ -2000000 ≤ E' ∧ E' + nd M ≤ 2000016 ∧ Hid (Rd base (moreW ((w.alloc (.cells #[.bool neg, .slice A len cap, .int .i64 ex] 53)).alloc (.cells #[.int .i64 0, .int .i64 0] 26)) os2 d2) A3 (i6 (dig M))) ∧ Hid (NRel M2 E2 M E')) (fun a _ => slen a)
      case atStart => exact ⟨M2, E2, A2, c2, hnd2, rfl, rfl, hc2, hE2a, by omega, HR2, by
        show NRel _ _ _ _
        by_cases h0 : M2 = 0
        · exact Or.inl ⟨h0, h0⟩
        · exact Or.inr ⟨h0, h0, rfl, rfl, Nat.le_refl _⟩⟩
      case round =>
        obtain ⟨M, E', A3, c3, hndM, rfl, rfl, hc3, hEa, hEb, HR3, HN⟩ := hrel
        by_cases hM : M = 0
        · have hz : nd M = 0 := by rw [hM, nd_zero]
          have HZ := Lib.hid hM
          have HM0 : Hid (rnd neg N more ex = some (0, 0)) := by
            show _ = _
            apply rnd_of_zero
            rw [HM2.out]
            rcases HN.out with ⟨_, h2⟩ | ⟨h2, _⟩
            · exact h2
            · exact absurd hM h2
          rw [hz]
          clear hM hz
          go_wp2_with fail
          exact bodyPost_ret (v := .tuple #[NV 0 0, .bool true]) (by simp [results, Tryz.results17, go_sem]) rfl ⟨by rw [HM0.out]; rfl, by repeat (first | exact Ext.refl _ | apply Ext.drew | apply Ext.alloc | apply Ext.more_)⟩
        · have hnp : 1 ≤ nd M := by rw [nd_pos hM]; omega
          obtain ⟨b3, o3, rfl, _, hcl⟩ := Rd.at_ HR3.out (dig_last hM)
          have hnn : ((nd M : Int) - 1) = ((nd M - 1 : Nat) : Int) := by omega
          by_cases h10 : M % 10 = 0
          · have HS := Lib.hid (HN.out.step hM h10)
            have HRt := Lib.hid (Rd.take HR3.out (nd M - 1))
            have hnd10 : nd (M / 10) = nd M - 1 := by rw [nd_pos hM]; omega
            have HI := Lib.hid (dig_init hM)
            have e0 : (((M % 10 : Nat) : Int) == 0) = true := by simp; omega
            have HND := Lib.hid hnd10
            clear hnd10
            go_wp2_with fail
            refine ⟨⟨M / 10, E' + 1, some ⟨b3, o3, none⟩, c3, ?_, ?_, rfl, ?_, by omega, ?_, ?_, HS⟩, by simp [slen]; omega⟩
            · rw [HND.out]; omega
            · rw [HND.out]
            · rw [HND.out]; omega
            · rw [HND.out]; omega
            · show Rd _ _ _ _
              have := HRt.out
              rw [← List.map_take, HI.out] at this
              exact this
          · have e0 : (((M % 10 : Nat) : Int) == 0) = false := by simp; omega
            have e0b : (nd M == 0) = false := by simp; omega
            have e0c : ((nd M : Int) == 0) = false := by simp; omega
            have hlt15 : M < 10000000000000000 := by
              have h1 := lt_T_nd M
              have h2 := T_mono hndM
              have h3 : T 16 = 10000000000000000 := by decide
              omega
            have HF : Hid (rnd neg N more ex = if 40 < (nd M : Int) + E' then none else some (sg neg M, E')) := by
              show _ = _
              rcases HN.out with ⟨h2, _⟩ | ⟨_, h3, h4, h5, _⟩
              · exact absurd h2 hM
              · have hE := HE2.out h3
                rw [trim_done _ h10] at h4
                unfold rnd
                rw [HM2.out, if_neg h3, ← hE, ← h5, ← h4]
            have HALLM := Lib.hid (dig_all M)
            have HVM := Lib.hid (val_dig M)
            have HDM := Lib.hid (dig_length M)
            have HB : Hid (∀ j, val ((dig M).take j) < 10000000000000000) := by
              intro j
              have h1 := val_lt ((dig_all M).take j)
              have h2 : T ((dig M).take j).length ≤ T 16 := T_mono (by rw [List.length_take, dig_length]; omega)
              have h3 : T 16 = 10000000000000000 := by decide
              omega
            clear h10 hM
            by_cases h40 : 40 < (nd M : Int) + E'
            · go_wp2_with fail
              refine bodyPost_ret (v := .tuple #[NV 0 0, .bool false]) (by simp [results, Tryz.results17, go_sem]) rfl ⟨?_, by repeat (first | exact Ext.refl _ | apply Ext.drew | apply Ext.alloc | apply Ext.more_)⟩
              rw [HF.out, if_pos h40]; (try rfl)
            · go_wp2_with fail
              go_loop [10, 11] (fun a b => ∃ j : Nat, j ≤ nd M ∧ b = .int .i64 (j : Int) ∧ a = .int .i64 ((val ((dig M).take j) : Nat) : Int)) (fun _ b => nd M - (intOf b).toNat)
              case atStart => exact ⟨0, Nat.zero_le _, rfl, rfl⟩
              case round =>
                obtain ⟨j, hj, rfl, rfl⟩ := hrel
                have hVb := HB.out j
                by_cases hlt : j < nd M
                · obtain ⟨d, hd⟩ : ∃ d, (dig M)[j]? = some d := ⟨(dig M)[j]'(by have := HDM.out; omega), by rw [List.getElem?_eq_getElem]⟩
                  obtain ⟨b4, o4, hA4, _, hcj⟩ := Rd.at_ HR3.out hd
                  simp only [Option.some.injEq, Addr.mk.injEq, and_true] at hA4
                  obtain ⟨rfl, rfl⟩ := hA4
                  have hd10 := HALLM.out.at hd
                  have hV2 : val ((dig M).take (j + 1)) = 10 * val ((dig M).take j) + d := by rw [take_at hd, val_snoc]
                  have HV3 := Lib.hid hV2
                  clear hV2 hd
                  generalize hV : val ((dig M).take j) = V at *
                  have HV := Lib.hid hV
                  clear hV
                  go_wp2
                  refine ⟨⟨j + 1, by omega, by go_num, ?_⟩, by simp [intOf]; omega⟩
                  rw [HV3.out]; exact congrArg (Value.int .i64) (by omega)
                · have hMv : val ((dig M).take j) = M := by rw [List.take_of_length_le (by have := HDM.out; omega)]; exact HVM.out
                  rw [hMv]
                  clear hMv hVb
                  have w1 : wrap64 (-(M : Int)) = -(M : Int) := IntWalk.wrap64_in _ (by omega)
                  have w2 : IntKind.i64.wrap (-(M : Int)) = -(M : Int) := i64w (by omega) (by omega)
                  cases neg with
                  | false =>
                    go_wp2_with fail
                    refine bodyPost_ret (v := .tuple #[NV (M : Int) E', .bool true]) (by simp [results, Tryz.results17, go_sem]) rfl ⟨?_, by repeat (first | exact Ext.refl _ | apply Ext.drew | apply Ext.alloc | apply Ext.more_)⟩
                    rw [HF.out, if_neg (by omega)]; (try rfl)
                  | true =>
                    go_wp2_with fail
                    refine bodyPost_ret (v := .tuple #[NV (-(M : Int)) E', .bool true]) (by simp [results, Tryz.results17, go_sem]) rfl ⟨?_, by repeat (first | exact Ext.refl _ | apply Ext.drew | apply Ext.alloc | apply Ext.more_)⟩
                    rw [HF.out, if_neg (by omega)]; (try rfl)
end Go.Proofs.YtkcoikelcmpceaaGreatDoor
namespace Go.Proofs.YtkcoikelcmpceaaGreatDoor
open Go.RowKit NM
theorem val_zeros (l : List Nat) (k : Nat) : val (l ++ List.replicate k 0) = val l * T k := by rw [val_append, val_rep0, List.length_replicate]; omega
end Go.Proofs.YtkcoikelcmpceaaGreatDoor
namespace Go.Proofs.YtkcoikelcmpceaaGreatDoor
open Go.RowKit NM
theorem made_dg {k : IntKind} {ty : TypeId} {base n : Nat} {w : World} (L : Nat) (hn : n = w.heap.size) (hb : base ≤ n) : Dg k ty base (w.alloc (.cells (madeCells #[.int k 0] L) ty)) (some ⟨n, 0, none⟩) L (List.replicate L 0) := by
  have hC : madeCells #[.int k 0] L = ((List.replicate L 0).map fun d : Nat => Value.int k (d : Int)).toArray := by
    apply Array.ext'
    rw [toList_madeCells_one]
    simp
  have := Dg.new (k := k) (ty := ty) (base := base) (List.replicate L 0) hC hn hb
  rw [List.length_replicate] at this
  exact this
theorem make_int (n : Nat) (hn : n ≤ 100000) (W : World) : (Instr.makeSlice 50 (.int .i64 (n : Int)) (.int .i64 (n : Int))).run Tryz.prog W = .ok (.slice (some ⟨W.heap.size, 0, none⟩) n n) (W.alloc (.cells (madeCells #[.int .i64 0] n) 3)) := by
  obtain ⟨i0, hi, hz0, hz1, hz2⟩ := info_parts info_int_
  have := run_make (P := Tryz.prog) W 50 3 i0 _ Tryz.underlying50 hi hz0 .i64 .i64 (n : Int) (n : Int) (by omega) (by omega) (by rw [hz2]; omega) (by omega)
  simpa [hz1, Value.cells] using this
end Go.Proofs.YtkcoikelcmpceaaGreatDoor
namespace Go.Proofs.YtkcoikelcmpceaaGreatDoor
open Go.RowKit NM
/-- Block b holds these ints, and nothing else. -/
def IRow (w : World) (b : Nat) (l : List Int) : Prop := w.heap[b]? = some (.cells (l.map (Value.int .i64)).toArray 3 (0, 0))
/-- Only block b may have turned. -/
structure Only (b : Nat) (w w' : World) : Prop where
  os : w'.os = w.os
  tape : w'.tape = w.tape
  output : w'.output = w.output
  size : w'.heap.size = w.heap.size
  block : ∀ j, j ≠ b → w'.heap[j]? = w.heap[j]?
theorem Only.refl (b : Nat) (w : World) : Only b w w := ⟨rfl, rfl, rfl, rfl, fun _ _ => rfl⟩
theorem Only.trans {b : Nat} {w w' w'' : World} (h : Only b w w') (k : Only b w' w'') : Only b w w'' := ⟨k.os.trans h.os, k.tape.trans h.tape, k.output.trans h.output, k.size.trans h.size, fun j hj => (k.block j hj).trans (h.block j hj)⟩
theorem Only.set {b : Nat} {w w' : World} (h : Only b w w') (o : Nat) (v : Value) : Only b w (w'.setCell ⟨b, o, none⟩ v) :=
  h.trans ⟨rfl, rfl, rfl, by simp, fun j hj => RowKit.Below.heap_setCell _ _ _ _ hj⟩
theorem Only.cell {b : Nat} {w w' : World} (h : Only b w w') {p : Addr} (hp : p.block ≠ b) : w'.cell? p = w.cell? p := World.cell?_of_block (h.block _ hp)
theorem Only.ext {b : Nat} {W w w' : World} (h : Only b w w') (hx : Ext W w) (hb : W.heap.size ≤ b) : Ext W w' :=
  ⟨h.os.trans hx.os, h.tape.trans hx.tape, h.output.trans hx.output, by rw [h.size]; exact hx.size, fun j hj => (h.block j (by omega)).trans (hx.block hj)⟩
theorem IRow.at {w : World} {b : Nat} {l : List Int} (h : IRow w b l) {j : Nat} {x : Int} (hx : l[j]? = some x) : w.cell? ⟨b, j, none⟩ = some (.int .i64 x) ∧ w.frozen? ⟨b, j, none⟩ = false := by
  refine ⟨?_, frozen_of_row w b j _ _ h⟩
  rw [cell_of_row w b j _ _ (0, 0) h]
  simp [hx]
theorem IRow.set {w : World} {b : Nat} {l : List Int} (h : IRow w b l) (j : Nat) (x : Int) : IRow (w.setCell ⟨b, j, none⟩ (.int .i64 x)) b (l.set j x) := by
  unfold IRow at *
  rw [heap_setCell_same w b j _ _ _ h]
  congr 2
  apply Array.ext'
  simp
/-- Digits with their sign at the end of a list of n. -/
def pad (neg : Bool) (n i : Nat) (D : List Nat) : List Int := List.replicate (n - D.length) 0 ++ ((D.take i).map (fun d => sg neg d) ++ List.replicate (D.length - i) 0)
theorem pad_length {neg : Bool} {n i : Nat} {D : List Nat} (h : D.length ≤ n) (hi : i ≤ D.length) : (pad neg n i D).length = n := by unfold pad; simp; omega
theorem zip_at {a b : List Int} {j : Nat} {x y : Int} (hx : a[j]? = some x) (hy : b[j]? = some y) : (List.zipWith (· + ·) a b)[j]? = some (x + y) := by
  rw [List.getElem?_zipWith, hx, hy]
theorem pad_at {neg : Bool} {n i : Nat} {D : List Nat} (h : D.length ≤ n) (hi : i < D.length) : (pad neg n i D)[n - D.length + i]? = some 0 := by
  unfold pad
  rw [List.getElem?_append_right (by simp), List.getElem?_append_right (by simp; omega), List.getElem?_replicate, if_pos (by simp; omega)]
theorem pad_step {neg : Bool} {n i d : Nat} {D : List Nat} (h : D.length ≤ n) (hd : D[i]? = some d) : (pad neg n i D).set (n - D.length + i) (sg neg d) = pad neg n (i + 1) D := by
  have hi := lt_at hd
  unfold pad
  rw [List.set_append_right _ _ (by simp)]
  congr 1
  rw [List.set_append_right _ _ (by simp; omega), take_at hd, List.map_append, List.append_assoc]
  congr 1
  rw [show D.length - i = D.length - (i + 1) + 1 by omega, List.replicate_succ]
  have : n - D.length + i - (List.replicate (n - D.length) (0 : Int)).length - ((D.take i).map fun d => sg neg d).length = 0 := by simp; omega
  rw [this]; rfl
theorem zip_set {a b : List Int} {j : Nat} {x y : Int} (hx : a[j]? = some x) (hj : j < b.length) : (List.zipWith (· + ·) a b).set j (x + y) = List.zipWith (· + ·) a (b.set j y) := by
  apply List.ext_getElem?
  intro k
  by_cases hk : j = k
  · subst hk
    rw [List.getElem?_set_self (by rw [List.length_zipWith]; have := lt_at hx; omega), List.getElem?_zipWith, hx, List.getElem?_set_self hj]
  · rw [List.getElem?_set_ne hk, List.getElem?_zipWith, List.getElem?_zipWith, List.getElem?_set_ne hk]
theorem pad_all {neg : Bool} {n i : Nat} {D : List Nat} (hD : AllD D) : ∀ x ∈ pad neg n i D, -9 ≤ x ∧ x ≤ 9 := by
  intro x hx
  unfold pad at hx
  rcases List.mem_append.1 hx with h | h
  · rw [List.eq_of_mem_replicate h]; omega
  · rcases List.mem_append.1 h with h | h
    · obtain ⟨d, hd, rfl⟩ := List.mem_map.1 h
      have := hD d (List.mem_of_mem_take hd)
      unfold sg; split <;> omega
    · rw [List.eq_of_mem_replicate h]; omega
set_option maxHeartbeats 2000000 in
theorem gather_any (b n : Nat) (l : List Int) (A : Option Addr) (c : Nat) (D : List Nat) (neg : Bool) (w : World) (hl : l.length = n) (h : IRow w b l) (hD : Rd 0 w A (b8 D)) (hne : ∀ p, A = some p → D ≠ [] → p.block ≠ b) (hn : D.length ≤ n) (hbig : n ≤ 1000000) (hall : AllD D) (hlb : ∀ x ∈ l, -1000 ≤ x ∧ x ≤ 1000) :
    Calls Tryz.prog 153 #[.slice (some ⟨b, 0, none⟩) n n, .slice A D.length c, .bool neg] w fun e w' => e = .returned (.tuple #[]) ∧ IRow w' b (List.zipWith (· + ·) l (pad neg n D.length D)) ∧ Only b w w' := by
  generalize hR : List.zipWith (· + ·) l (pad neg n D.length D) = R
  have HR := Lib.hid hR
  clear hR
  have HH : Hid (IRow w b (List.zipWith (· + ·) l (pad neg n 0 D))) := by
    show IRow _ _ _
    have : List.zipWith (· + ·) l (pad neg n 0 D) = l := by
      apply List.ext_getElem?
      intro k
      unfold pad
      rw [List.getElem?_zipWith]
      simp
      rw [show n - D.length + D.length = n by omega, List.getElem?_replicate]
      by_cases hk : k < n
      · rw [if_pos hk]
        cases hlk : l[k]? <;> simp
      · rw [if_neg hk, List.getElem?_eq_none (by omega)]
    rw [this]; exact h
  have HD := Lib.hid hD
  have HL := Lib.hid hl
  have HLB := Lib.hid hlb
  have HNE := Lib.hid hne
  have hsub : (n : Int) - (D.length : Int) = ((n - D.length : Nat) : Int) := by omega
  clear h hD hl hlb hne
  go_enter Tryz.func153, Tryz.ntmps153
  go_wp2
  go_loopw [16] (fun i wr => ∃ j : Nat, j ≤ D.length ∧ i = .int .i64 (j : Int) ∧ Hid (IRow wr b (List.zipWith (· + ·) l (pad neg n j D))) ∧ Hid (Only b w wr)) (fun i _ => D.length - (intOf i).toNat)
  case atStart => exact ⟨0, Nat.zero_le _, rfl, HH, Only.refl _ _⟩
  case round =>
    obtain ⟨j, hj, rfl, HI, HO⟩ := hrel
    by_cases hlt : j < D.length
    · obtain ⟨d, hd⟩ : ∃ d, D[j]? = some d := ⟨D[j], by rw [List.getElem?_eq_getElem]⟩
      obtain ⟨ba, oa, rfl, _, hcd⟩ := HD.out j (.int .u8 (d : Int)) (by unfold b8; rw [List.getElem?_map, hd]; rfl)
      have hcd' := (HO.out.cell (p := ⟨ba, oa + j, none⟩) (by show ba ≠ b; exact HNE.out ⟨ba, oa, none⟩ rfl (fun h0 => by rw [h0] at hd; simp at hd))).trans hcd
      obtain ⟨x, hx⟩ : ∃ x, l[n - D.length + j]? = some x := ⟨l[n - D.length + j]'(by have := HL.out; omega), by rw [List.getElem?_eq_getElem]⟩
      have hxb := HLB.out x (List.mem_of_getElem? hx)
      have hd10 := hall.at hd
      have hz := zip_at hx (pad_at (neg := neg) hn hlt)
      rw [Int.add_zero] at hz
      obtain ⟨hc1, hc2⟩ := HI.out.at hz
      have HN : Hid (IRow (wr.setCell ⟨b, n - D.length + j, none⟩ (.int .i64 (x + sg neg d))) b (List.zipWith (· + ·) l (pad neg n (j + 1) D))) := by
        show IRow _ _ _
        have := HI.out.set (n - D.length + j) (x + sg neg d)
        rw [zip_set hx (by rw [pad_length hn hj]; omega), pad_step hn hd] at this
        exact this
      have hidx : ((n - D.length : Nat) : Int) + (j : Int) = ((n - D.length + j : Nat) : Int) := by omega
      have hin : n - D.length + j < n := by omega
      generalize n - D.length + j = q at *
      clear hx hd hz hcd
      cases neg with
      | true =>
        have e1 : x + sg true d = x - (d : Int) := by simp [sg]; omega
        rw [e1] at HN
        go_wp2
        exact ⟨⟨j + 1, by omega, by go_num, HN, HO.out.set _ _⟩, by simp [intOf]; omega⟩
      | false =>
        have e1 : x + sg false d = x + (d : Int) := by simp [sg]
        rw [e1] at HN
        go_wp2
        exact ⟨⟨j + 1, by omega, by go_num, HN, HO.out.set _ _⟩, by simp [intOf]; omega⟩
    · go_wp2
      refine bodyPost_end (v := .tuple #[]) (by simp [results, Tryz.results153]) rfl ⟨rfl, ?_, HO.out⟩
      rw [← HR.out, show D.length = j by omega]
      exact HI.out
end Go.Proofs.YtkcoikelcmpceaaGreatDoor
namespace Go.Proofs.YtkcoikelcmpceaaGreatDoor
open Go.RowKit NM
theorem make_bytes (n : Nat) (hn : n ≤ 100000) (W : World) : (Instr.makeSlice 135 (.int .i64 (n : Int)) (.int .i64 (n : Int))).run Tryz.prog W = .ok (.slice (some ⟨W.heap.size, 0, none⟩) n n) (W.alloc (.cells (madeCells #[.int .u8 0] n) 5)) := by
  obtain ⟨i0, hi, hz0, hz1, hz2⟩ := info_parts info_byte
  have := run_make (P := Tryz.prog) W 135 5 i0 _ Tryz.underlying135 hi hz0 .i64 .i64 (n : Int) (n : Int) (by omega) (by omega) (by rw [hz2]; omega) (by omega)
  simpa [hz1, Value.cells] using this
theorem dropI_at {l : List Int} {j : Nat} {x : Int} (h : l[j]? = some x) : l.drop j = x :: l.drop (j + 1) := by
  have hj := lt_at h
  rw [List.drop_eq_getElem_cons hj]
  rw [List.getElem?_eq_getElem hj] at h
  rw [Option.some.inj h]
/-- The bounds of one place, with the sign of the whole. -/
theorem DOk_bd {l : List Int} (h : DOk l) {x : Int} (hx : x ∈ l) : if sgn l then -18 ≤ x ∧ x ≤ 9 else -9 ≤ x ∧ x ≤ 18 := by
  rcases h with h | h | h
  · have := h x hx; split <;> omega
  · have h1 := h x hx
    have h2 : sgn l = false := by
      have := sgn_spec (l := l) (Or.inr (Or.inl h))
      rw [this]
      have h3 := valI_nonneg (l := l) (fun d hd => (h d hd).1)
      simp; omega
    rw [h2]; simp; omega
  · have h1 := h x hx
    cases hs : sgn l with
    | true => simp; omega
    | false =>
      have h0 : ∀ (m : List Int), (∀ d ∈ m, -18 ≤ d ∧ d ≤ 0) → sgn m = false → ∀ d ∈ m, d = 0 := by
        intro m
        induction m with
        | nil => intro _ _ d hd; cases hd
        | cons y m ih =>
          intro hm hs d hd
          rw [sgn] at hs
          by_cases hy : y = 0
          · rw [if_pos hy] at hs
            rcases List.mem_cons.1 hd with rfl | hd
            · exact hy
            · exact ih (fun d hd => hm d (List.mem_cons_of_mem _ hd)) hs d hd
          · rw [if_neg hy] at hs
            have := hm y (List.mem_cons_self ..)
            simp at hs; omega
      have := h0 l h hs x hx
      simp; omega
/-- What settle keeps: the digits from place j on. -/
structure SetSt (W : World) (L j : Nat) (S : List Nat) (wr : World) : Prop where
  out : Dg .u8 5 W.heap.size wr (some ⟨W.heap.size, 0, none⟩) L (List.replicate j 0 ++ S)
  len : S.length = L - j
  all : AllD S
  ext : Ext W wr
theorem SetSt.step {W wr : World} {L j d : Nat} {S : List Nat} (h : SetSt W L (j + 1) S wr) (hd : d < 10) (hj : j + 1 ≤ L) : SetSt W L j (d :: S) (wr.setCell ⟨W.heap.size, j, none⟩ (.int .u8 (d : Int))) := by
  refine ⟨?_, by simp [h.len]; omega, AllD.cons hd h.all, h.ext.set _ (Nat.le_refl _)⟩
  have := h.out.set (i := j) (d := d) (by simp; omega)
  rw [Nat.zero_add, List.set_append_left _ _ (by simp)] at this
  have he : (List.replicate (j + 1) 0).set j d = List.replicate j 0 ++ [d] := by
    rw [List.replicate_succ', List.set_append_right _ _ (by simp)]; simp
  rw [he, List.append_assoc, List.singleton_append] at this
  exact this
theorem SetSt.at {W wr : World} {L j : Nat} {S : List Nat} (h : SetSt W L (j + 1) S wr) : wr.cell? ⟨W.heap.size, j, none⟩ = some (.int .u8 0) ∧ wr.frozen? ⟨W.heap.size, j, none⟩ = false := by
  obtain ⟨b, off, h1, _, h2, h3⟩ := h.out.at (i := j) (d := 0) (by rw [List.getElem?_append_left (by simp)]; simp [List.getElem?_replicate])
  simp only [Option.some.injEq, Addr.mk.injEq, and_true] at h1
  obtain ⟨rfl, rfl⟩ := h1
  rw [Nat.zero_add] at h2 h3
  exact ⟨h2, h3⟩
/-- One place settled. -/
theorem settle_step {l : List Int} {j : Nat} {x c c' : Int} {d : Nat} {S : List Nat} (s : Int) (hx : l[j]? = some x) (hS : S.length = l.length - (j + 1)) (h : s * valI (l.drop (j + 1)) = c * (T S.length : Nat) + (val S : Int)) (hd : (d : Int) + 10 * c' = s * x + c) :
    s * valI (l.drop j) = c' * (T (S.length + 1) : Nat) + (val (d :: S) : Int) := by
  have hj := lt_at hx
  have hl : (l.drop (j + 1)).length = S.length := by simp; omega
  rw [dropI_at hx, valI_cons, val_cons, hl, T_succ, Int.mul_add, h, Int.natCast_add, Int.natCast_mul, Int.natCast_mul, ← Int.mul_assoc s x]
  generalize ((T S.length : Nat) : Int) = t at *
  have h1 : (d : Int) * t + 10 * c' * t = s * x * t + c * t := by rw [← Int.add_mul, hd, Int.add_mul]
  have h2 : c' * (10 * t) = 10 * c' * t := by rw [← Int.mul_assoc, Int.mul_comm c' 10]
  show _ = c' * (10 * t) + _
  rw [h2]; omega
theorem sgn_zero {l : List Int} {x : Int} {j : Nat} (hx : l[j]? = some x) (h0 : x = 0) : sgn (l.drop j) = sgn (l.drop (j + 1)) := by rw [dropI_at hx, sgn, if_pos h0]
theorem sgn_pos {l : List Int} {x : Int} {j : Nat} (hx : l[j]? = some x) (h0 : x ≠ 0) : sgn (l.drop j) = decide (x < 0) := by rw [dropI_at hx, sgn, if_neg h0]
set_option maxHeartbeats 4000000 in
theorem settle_any (b L : Nat) (l : List Int) (w : World) (hl : l.length = L) (h : IRow w b l) (hok : DOk l) (hbig : L ≤ 10000) (hT : (valI l).natAbs < T L) :
    Calls Tryz.prog 154 #[.slice (some ⟨b, 0, none⟩) L L] w fun e w' => e = .returned (.tuple #[.slice (some ⟨w.heap.size, 0, none⟩) L L, .bool (decide (valI l < 0))]) ∧ (∃ D, Dg .u8 5 w.heap.size w' (some ⟨w.heap.size, 0, none⟩) L D ∧ D.length = L ∧ AllD D ∧ val D = (valI l).natAbs) ∧ Ext w w' := by
  have hs := sgn_spec hok
  have hbd := fun x hx => DOk_bd hok (x := x) hx
  have hmk := make_bytes L (by omega)
  have hb := lt_block h
  rw [← hs]
  have HS := Lib.hid hs
  have HBD := Lib.hid hbd
  have HI := Lib.hid h
  have HL := Lib.hid hl
  have HT := Lib.hid hT
  clear hs hbd h hl hT hok
  generalize hG : sgn l = G at *
  have HG := Lib.hid hG
  clear hG
  go_enter Tryz.func154, Tryz.ntmps154
  go_upto_block 0 with fail
  go_cut [4] (fun s4 wx => s4 = .bool G ∧ wx = w)
  case first =>
    go_wp2_with fail
    go_loop [4, 13] (fun a i => ∃ j : Nat, j ≤ L ∧ i = .int .i64 (j : Int) ∧ a = .bool false ∧ Hid (sgn (l.drop j) = G)) (fun _ i => L - (intOf i).toNat)
    case atStart => exact ⟨0, Nat.zero_le _, rfl, rfl, HG⟩
    case round =>
      obtain ⟨j, hj, rfl, rfl, HJ⟩ := hrel
      by_cases hlt : j < L
      · obtain ⟨x, hx⟩ : ∃ x, l[j]? = some x := ⟨l[j]'(by have := HL.out; omega), by rw [List.getElem?_eq_getElem]⟩
        obtain ⟨hc1, hc2⟩ := HI.out.at hx
        by_cases h0 : x = 0
        · have e0 : (x == 0) = true := by simp [h0]
          have HJ2 : Hid (sgn (l.drop (j + 1)) = G) := by show _ = _; rw [← sgn_zero hx h0]; exact HJ.out
          clear hx h0
          go_wp2
          exact ⟨⟨j + 1, by omega, by go_num, rfl, HJ2⟩, by simp [intOf]; omega⟩
        · have e0 : (x == 0) = false := by simp [h0]
          have HJ2 : Hid (decide (x < 0) = G) := by show _ = _; rw [← sgn_pos hx h0]; exact HJ.out
          clear hx h0
          go_wp2
          go_meet
          exact ⟨by rw [← HJ2.out], rfl⟩
      · go_wp2
        go_meet
        refine ⟨?_, rfl⟩
        have := HJ.out
        rw [List.drop_eq_nil_of_le (by have := HL.out; omega)] at this
        rw [← this]; rfl
  case rest =>
  obtain ⟨rfl, rfl⟩ := hcut
  have HST : Hid (SetSt wc L L [] (wc.alloc (.cells (madeCells #[.int .u8 0] L) 5))) := ⟨by have := made_dg (k := .u8) (ty := 5) (w := wc) L rfl (Nat.le_refl _); simpa using this, by simp, AllD.nil, (Ext.refl _).alloc _⟩
  go_wp2
  go_loopw [8, 9] (fun a i wr => ∃ (j : Nat) (c : Int) (S : List Nat), j ≤ L ∧ -1 ≤ c ∧ c ≤ 1 ∧ i = .int .i64 ((j : Int) - 1) ∧ a = .int .i64 c ∧ Hid (SetSt wc L j S wr) ∧ Hid ((if G then -1 else 1) * valI (l.drop j) = c * (T S.length : Nat) + (val S : Int))) (fun _ i _ => ((intOf i) + 1).toNat)
  case atStart =>
    exact ⟨L, 0, [], Nat.le_refl _, by omega, by omega, by go_num, rfl, HST, by show _ = _; rw [List.drop_eq_nil_of_le (by rw [HL.out]; exact Nat.le_refl _)]; simp [val_nil, valI_nil]⟩
  case round =>
    obtain ⟨j, c, S, hj, hca, hcb, rfl, rfl, H, HV⟩ := hrel
    have hxr := H.out.ext
    have hsz := hxr.size
    cases j with
    | zero =>
      have HF : Hid (val S = (valI l).natAbs) := by
        show _ = _
        have h1 := HV.out
        have h2 := val_lt H.out.all
        have h3 := H.out.len
        have h4 := HT.out
        have h5 := HS.out
        rw [List.drop_zero] at h1
        rw [h3, Nat.sub_zero] at h1 h2
        have hTp := T_pos L
        have hGV : (if G = true then (-1 : Int) else 1) * valI l = ((valI l).natAbs : Int) := by
          cases G with
          | true => simp at h5 ⊢; omega
          | false => simp at h5 ⊢; omega
        rw [hGV] at h1
        have h6 : c = -1 ∨ c = 0 ∨ c = 1 := by omega
        generalize ((valI l).natAbs) = V at *
        generalize T L = t at *
        rcases h6 with h6 | h6 | h6 <;> rw [h6] at h1 <;> omega
      go_wp2
      go_ret2
      exact ⟨rfl, ⟨S, by simpa using H.out.out, by have := H.out.len; omega, H.out.all, HF.out⟩, hxr⟩
    | succ j =>
      have hjL : j < L := by omega
      obtain ⟨x, hx⟩ : ∃ x, l[j]? = some x := ⟨l[j]'(by have := HL.out; omega), by rw [List.getElem?_eq_getElem]⟩
      obtain ⟨hc1, hc2⟩ := HI.out.at hx
      have hc1' := hxr.cell_some hc1
      have hxb := HBD.out x (List.mem_of_getElem? hx)
      obtain ⟨o0, o1⟩ := H.out.at
      have hji : (((j + 1 : Nat) : Int) - 1) = (j : Int) := by omega
      rw [hji]
      have HSP := Lib.hid (fun d (hd1 : d < 10) => H.out.step hd1 hj)
      have HSTEP := Lib.hid (fun (d : Nat) (c' : Int) => settle_step (d := d) (c' := c') (if G then -1 else 1) hx (by rw [H.out.len, HL.out]) HV.out)
      clear hx HV hc1 hc2
      cases G with
      | true =>
        have hxb1 : -9 ≤ -x ∧ -x ≤ 18 := by have : -18 ≤ x ∧ x ≤ 9 := by simpa using hxb
                                            omega
        clear hxb
        by_cases h9 : 9 < -x + c
        · obtain ⟨d, hd⟩ : ∃ d : Nat, -x + c - 10 = (d : Int) := ⟨(-x + c - 10).toNat, by omega⟩
          have w1 : IntKind.u8.wrap (d : Int) = d := by rw [IntKind.wrap_u8]; omega
          go_wp2
          refine ⟨⟨j, 1, d :: S, by omega, by omega, by omega, by go_num, rfl, HSP.out d (by omega), HSTEP.out d 1 (by simp; omega)⟩, by simp [intOf]⟩
        · by_cases h0 : -x + c < 0
          · obtain ⟨d, hd⟩ : ∃ d : Nat, -x + c + 10 = (d : Int) := ⟨(-x + c + 10).toNat, by omega⟩
            have w1 : IntKind.u8.wrap (d : Int) = d := by rw [IntKind.wrap_u8]; omega
            go_wp2
            refine ⟨⟨j, -1, d :: S, by omega, by omega, by omega, by go_num, rfl, HSP.out d (by omega), HSTEP.out d (-1) (by simp; omega)⟩, by simp [intOf]⟩
          · obtain ⟨d, hd⟩ : ∃ d : Nat, -x + c = (d : Int) := ⟨(-x + c).toNat, by omega⟩
            have w1 : IntKind.u8.wrap (d : Int) = d := by rw [IntKind.wrap_u8]; omega
            go_wp2
            refine ⟨⟨j, 0, d :: S, by omega, by omega, by omega, by go_num, rfl, HSP.out d (by omega), HSTEP.out d 0 (by simp; omega)⟩, by simp [intOf]⟩
      | false =>
        have hxb1 : -9 ≤ x ∧ x ≤ 18 := by simpa using hxb
        clear hxb
        by_cases h9 : 9 < x + c
        · obtain ⟨d, hd⟩ : ∃ d : Nat, x + c - 10 = (d : Int) := ⟨(x + c - 10).toNat, by omega⟩
          have w1 : IntKind.u8.wrap (d : Int) = d := by rw [IntKind.wrap_u8]; omega
          go_wp2
          refine ⟨⟨j, 1, d :: S, by omega, by omega, by omega, by go_num, rfl, HSP.out d (by omega), HSTEP.out d 1 (by simp; omega)⟩, by simp [intOf]⟩
        · by_cases h0 : x + c < 0
          · obtain ⟨d, hd⟩ : ∃ d : Nat, x + c + 10 = (d : Int) := ⟨(x + c + 10).toNat, by omega⟩
            have w1 : IntKind.u8.wrap (d : Int) = d := by rw [IntKind.wrap_u8]; omega
            go_wp2
            refine ⟨⟨j, -1, d :: S, by omega, by omega, by omega, by go_num, rfl, HSP.out d (by omega), HSTEP.out d (-1) (by simp; omega)⟩, by simp [intOf]⟩
          · obtain ⟨d, hd⟩ : ∃ d : Nat, x + c = (d : Int) := ⟨(x + c).toNat, by omega⟩
            have w1 : IntKind.u8.wrap (d : Int) = d := by rw [IntKind.wrap_u8]; omega
            go_wp2
            refine ⟨⟨j, 0, d :: S, by omega, by omega, by omega, by go_num, rfl, HSP.out d (by omega), HSTEP.out d 0 (by simp; omega)⟩, by simp [intOf]⟩
end Go.Proofs.YtkcoikelcmpceaaGreatDoor
namespace Go.Proofs.YtkcoikelcmpceaaGreatDoor
open Go.RowKit NM
/-- What Div's loop has after j rounds. -/
structure DivSt (X : World) (P Q j : Nat) (v : Value) (r : Nat) (wr : World) (l : List Nat) : Prop where
  own : wr.ownsRow X.heap.size 5 1 v l.length (b8 l)
  all : AllD l
  len : l.length ≤ 20 + j
  value : val l = P * T j / Q
  rest : r = P * T j % Q
  ext : Ext X wr
theorem div_step {P Q j : Nat} (hQ : 0 < Q) : P * T (j + 1) / Q = 10 * (P * T j / Q) + 10 * (P * T j % Q) / Q ∧ P * T (j + 1) % Q = 10 * (P * T j % Q) % Q ∧ 10 * (P * T j % Q) / Q < 10 := by
  have h1 : P * T (j + 1) = 10 * (P * T j) := by rw [T_succ, Nat.mul_left_comm]
  have h2 := Nat.div_add_mod (P * T j) Q
  have h3 := Nat.mod_lt (P * T j) hQ
  generalize P * T j / Q = q at *
  generalize P * T j % Q = r at *
  have h4 : P * T (j + 1) = Q * (10 * q) + 10 * r := by rw [h1, ← h2, Nat.mul_add, Nat.mul_left_comm]
  refine ⟨by rw [h4, Nat.mul_add_div hQ], by rw [h4, Nat.mul_add_mod], ?_⟩
  rw [Nat.div_lt_iff_lt_mul hQ]; omega
set_option maxHeartbeats 2000000 in
theorem div_yes (ma ea mb eb : Int) (w : World) (htab : Tab w) (h1 : Rt ma ea) (h2 : Rt mb eb) (h3 : mb ≠ 0) :
    Calls Tryz.prog 103 #[NV ma ea, NV mb eb] w fun e w' => e = .returned (rnV (divR (ngB ma mb) ma.natAbs mb.natAbs (ea - eb))) ∧ Ext w w' := by
  obtain ⟨b1, b2, b3⟩ := Rt_bd h1
  obtain ⟨b4, b5, b6⟩ := Rt_bd h2
  have r1 := rtB_yes h1
  have r2 := rtB_yes h2
  have hma : I64 ma := by unfold I64; omega
  have hmb : I64 mb := by unfold I64; omega
  have h3' : (mb == 0) = false := by simp [h3]
  have hQ : 0 < mb.natAbs := by omega
  have HT := Lib.hid htab
  have HR := Lib.hid h3
  clear h1 h2 h3 htab
  go_enter Tryz.func103, Tryz.ntmps103
  go_wp2_with (go_at_call 110; (with_reducible refine (right_rt _ _ _ (by assumption)).mono ?_); rintro e w' ⟨rfl, hbr⟩; obtain ⟨osr, dr, rfl⟩ := hbr.more)
  refine wp_plan (S := Ext _) [(0, 0), (1, 0), (3, 0), (4, 0), (2, 1), (5, 1), (6, 0), (7, 0)] [] (by kernel_rfl) (by kernel_rfl) (by kernel_rfl) (fun _ _ d _ _ h => by cases d <;> exact h) (Ext.drew (Ext.refl _)) ?_
  iterate 4 ((refine wpPl_read (v := ?_) rfl ?_ (fun _ h => ?_) ?_; rotate_left 1; rfl; (obtain ⟨_, _, rfl⟩ := h.more; go_simp; try rfl)); try simp only [Act.put, zqA, zqB, zqC])
  iterate 2 ((refine wpPl_eff rfl ?_ (fun K hK => ?_); rfl; go_simp; (go_at_call 119; (with_reducible refine (size_nat _ _ (by assumption)).mono ?_); rintro e w' ⟨rfl, rfl⟩); refine hK _ _ ?_ ?_; (repeat (first | (with_reducible (first | exact Ext.refl _ | exact ext_d _ _ _ _ | exact ext_app _ _ _ _ _ | exact ext_app2 _ _ _ _ _ _ | exact ext_app3 _ _ _ _ _ _ _ | exact ext_app4 _ _ _ _ _ _ _ _ | exact ext_app5 _ _ _ _ _ _ _ _ _)) | ((with_reducible refine ext_suffix ⟨_, ?_⟩); (try simp only [Array.append_assoc]); rfl) | (with_reducible (first | apply Ext.drew | apply Ext.alloc | apply Ext.more_)) | apply Ext.drew | apply Ext.alloc | apply Ext.more_))); try simp only [Act.put, zqA, zqB, zqC])
  iterate 2 ((refine wpPl_read (v := ?_) rfl ?_ (fun _ h => ?_) ?_; rotate_left 1; rfl; (obtain ⟨_, _, rfl⟩ := h.more; go_simp; try rfl)); try simp only [Act.put, zqA, zqB, zqC])
  refine wpPl_nil ?_
  go_wp2_with fail
  refine wp_world fun W hW => ?_
  have c0 : W.cell? ⟨w.heap.size, 0, none⟩ = some (.int .i64 ma) := by rw [hW]; go_simp
  have c1 : W.cell? ⟨w.heap.size, 1, none⟩ = some (.int .i64 ea) := by rw [hW]; go_simp
  have c2 : W.cell? ⟨w.heap.size + 1, 0, none⟩ = some (.int .i64 mb) := by rw [hW]; go_simp
  have c3 : W.cell? ⟨w.heap.size + 1, 1, none⟩ = some (.int .i64 eb) := by rw [hW]; go_simp
  have c4 : W.cell? ⟨w.heap.size + 1 + 1, 0, none⟩ = some (.int .i64 0) := by rw [hW]; go_simp
  have c5 : W.cell? ⟨w.heap.size + 1 + 1, 1, none⟩ = some (.int .i64 0) := by rw [hW]; go_simp
  have f4 : W.frozen? ⟨w.heap.size + 1 + 1, 0, none⟩ = false := by rw [hW]; go_simp
  have f5 : W.frozen? ⟨w.heap.size + 1 + 1, 1, none⟩ = false := by rw [hW]; go_simp
  have hz : w.heap.size + 1 + 1 < W.heap.size := by rw [hW]; simp; try omega
  have hz1 : w.heap.size + 1 < W.heap.size := by omega
  have hz0 : w.heap.size < W.heap.size := by omega
  have hxW : Ext w W := by rw [hW]; exact by repeat (first | exact Ext.refl _ | apply Ext.drew | apply Ext.alloc | apply Ext.more_)
  clear hW
  generalize hP : ma.natAbs = P at *
  generalize hQQ : mb.natAbs = Q at *
  have hQ0 : ((Q : Int) == 0) = false := by simp; omega
  have hQ1 : (Q == 0) = false := by simp; omega
  have hq : (P : Int) / (Q : Int) = ((P / Q : Nat) : Int) := by omega
  have hqm : (P : Int) % (Q : Int) = ((P % Q : Nat) : Int) := by omega
  have hQne : ¬ Q = 0 := by omega
  have hdg := fun W hW => digitsOf_any (P / Q) (Nat.lt_of_le_of_lt (Nat.div_le_self _ _) (by omega)) W hW
  generalize hq0 : P / Q = q0 at *
  generalize hr0 : P % Q = r0 at *
  have hq0b : q0 < 1000000000000000 := by rw [← hq0]; exact Nat.lt_of_le_of_lt (Nat.div_le_self _ _) (by omega)
  have hr0b : r0 < Q := by rw [← hr0]; exact Nat.mod_lt _ hQ
  have hqw : IntKind.u64.wrap (q0 : Int) = q0 := by rw [IntKind.wrap_u64]; omega
  have hrw : IntKind.u64.wrap (r0 : Int) = r0 := by rw [IntKind.wrap_u64]; omega
  have HQ0 := Lib.hid hq0
  have HR0 := Lib.hid hr0
  have HPQ := Lib.hid hP
  have HQQ := Lib.hid hQQ
  clear hq0 hr0 hP hQQ
  have hwr : IntKind.i64.wrap (ea - eb) = ea - eb := i64w (by omega) (by omega)
  have HTW : Hid (Tab W) := HT.out.ext hxW
  have hdgW := hdg W.drew (HTW.out.ext ((Ext.refl _).drew))
  clear hdg
  refine wp_plan (S := Ext _) [(0, 0), (1, 0), (2, 0), (4, 0), (5, 0), (6, 0), (7, 0), (8, 0), (3, 1), (9, 0), (10, 0)] [] (by kernel_rfl) (by kernel_rfl) (by kernel_rfl) (fun _ _ d _ _ h => by cases d <;> exact h) (Ext.drew (Ext.refl _)) ?_
  iterate 8 ((refine wpPl_read (v := ?_) rfl ?_ (fun _ h => ?_) ?_; rotate_left 1; rfl; (obtain ⟨_, _, rfl⟩ := h.more; go_simp; try rfl)); try simp only [Act.put, zqA, zqB, zqC])
  (refine wpPl_eff rfl ?_ (fun K hK => ?_); rfl; go_simp; (go_at_call 149; (with_reducible refine hdgW.mono ?_); rintro e w' ⟨v, rfl, ho, hx⟩; obtain ⟨os4, d4, rfl⟩ := hx.more); refine hK _ _ ?_ ?_; (repeat (first | (with_reducible (first | exact Ext.refl _ | exact ext_d _ _ _ _ | exact ext_app _ _ _ _ _ | exact ext_app2 _ _ _ _ _ _ | exact ext_app3 _ _ _ _ _ _ _ | exact ext_app4 _ _ _ _ _ _ _ _ | exact ext_app5 _ _ _ _ _ _ _ _ _)) | ((with_reducible refine ext_suffix ⟨_, ?_⟩); (try simp only [Array.append_assoc]); rfl) | (with_reducible (first | apply Ext.drew | apply Ext.alloc | apply Ext.more_)) | apply Ext.drew | apply Ext.alloc | apply Ext.more_)))
  try simp only [Act.put, zqA, zqB, zqC]
  iterate 2 ((refine wpPl_read (v := ?_) rfl ?_ (fun _ h => ?_) ?_; rotate_left 1; rfl; (obtain ⟨_, _, rfl⟩ := h.more; go_simp; try rfl)); try simp only [Act.put, zqA, zqB, zqC])
  refine wpPl_nil ?_
  have hl0 : (dig0 q0).length ≤ 20 := by
    rw [dig0_length]
    have := (nd_le_iff q0 20).2 (Nat.lt_of_le_of_lt (by rw [← HQ0.out]; exact Nat.div_le_self _ _) (Nat.lt_trans (show P < 1000000000000000 by omega) (by decide)))
    omega
  have hst0 : DivSt W P Q 0 v r0 (more W os4 d4) (dig0 q0) := ⟨ho, dig0_all _, by omega, by rw [dig0_val, ← HQ0.out]; simp [T], by rw [← HR0.out]; simp [T], ext_more _ _ _⟩
  obtain ⟨i0, hi, hz0', hz1', hz2'⟩ := info_parts info_byte
  have HS0 := Lib.hid hst0
  have HQM := Lib.hid hqm
  clear hst0 ho hx hq hqm hqw hrw
  go_wp2_with fail
  go_loopw [8, 9, 10, 43] (fun v x r i wr => ∃ (j rr : Nat) (l : List Nat), j ≤ 32 ∧ rr < Q ∧ i = .int .i64 (j : Int) ∧ r = .int .u64 (rr : Int) ∧ x = .int .i64 (ea - eb - (j : Int)) ∧ Hid (DivSt W P Q j v rr wr l)) (fun _ _ _ i _ => 32 - (intOf i).toNat)
  case atStart => exact ⟨0, r0, dig0 q0, by omega, hr0b, rfl, by rw [HQM.out], by simp, HS0⟩
  case round =>
    obtain ⟨j, rr, l, hj, hrb, rfl, rfl, rfl, H⟩ := hrel
    have hX := H.out.ext
    obtain ⟨os, d, rfl⟩ := hX.more
    clear hX
    have hlen : l.length ≤ 60 := by have := H.out.len; omega
    by_cases hr0 : rr = 0
    · have e0 : ((rr : Int) == 0) = true := by simp [hr0]
      have e0b : (rr == 0) = true := by simp [hr0]
      have e1 : ((rr : Int) != 0) = false := by simp [hr0]
      have e1b : (rr != 0) = false := by simp [hr0]
      have HF : Hid (∀ neg, rnd neg (val l) false (ea - eb - (j : Int)) = divR neg P Q (ea - eb)) := by
        intro neg
        rw [H.out.value]
        exact divR_done _ _ hQ (by omega) (by rw [← H.out.rest]; exact hr0)
      clear hr0
      by_cases hj32 : j < 32
      · go_wp2_with (go_at_call 150; refine (round_own W _ _ l _ _ _ H.out.ext H.out.own H.out.all (by omega) (by omega)).mono ?_; rintro e w2' ⟨rfl, os2, d2, rfl⟩; rw [HF.out])
        exact bodyPost_ret (v := rnV (divR (!(decide (ma < 0) == decide (mb < 0))) P Q (ea - eb))) (by simp [results, Tryz.results103, go_sem, c4, c5, hz]) rfl ⟨(by rw [HPQ.out, HQQ.out]; rfl), ((hxW.set _ (by show w.heap.size ≤ w.heap.size + 1 + 1; omega)).set _ (by show w.heap.size ≤ w.heap.size + 1 + 1; omega)).more_ _ _⟩
      · go_wp2_with (go_at_call 150; refine (round_own W _ _ l _ _ _ H.out.ext H.out.own H.out.all (by omega) (by omega)).mono ?_; rintro e w2' ⟨rfl, os2, d2, rfl⟩; rw [HF.out])
        exact bodyPost_ret (v := rnV (divR (!(decide (ma < 0) == decide (mb < 0))) P Q (ea - eb))) (by simp [results, Tryz.results103, go_sem, c4, c5, hz]) rfl ⟨(by rw [HPQ.out, HQQ.out]; rfl), ((hxW.set _ (by show w.heap.size ≤ w.heap.size + 1 + 1; omega)).set _ (by show w.heap.size ≤ w.heap.size + 1 + 1; omega)).more_ _ _⟩
    · have e0 : ((rr : Int) == 0) = false := by simp [hr0]
      have e0b : (rr == 0) = false := by simp [hr0]
      have e1 : ((rr : Int) != 0) = true := by simp [hr0]
      have e1b : (rr != 0) = true := by simp [hr0]
      by_cases hj32 : j < 32
      · have HSTEP := Lib.hid (div_step (P := P) (j := j) hQ)
        rw [← H.out.rest] at HSTEP
        have w1 : IntKind.u64.wrap ((rr : Int) * 10) = (rr : Int) * 10 := by rw [IntKind.wrap_u64]; omega
        have w2 : (rr : Int) * 10 / (Q : Int) = ((10 * rr / Q : Nat) : Int) := by rw [Int.natCast_ediv, Int.natCast_mul, Int.mul_comm]; rfl
        have w3 : (rr : Int) * 10 % (Q : Int) = ((10 * rr % Q : Nat) : Int) := by rw [Int.natCast_emod, Int.natCast_mul, Int.mul_comm]; rfl
        have hd10 : 10 * rr / Q < 10 := HSTEP.out.2.2
        have hr2b : 10 * rr % Q < Q := Nat.mod_lt _ hQ
        generalize 10 * rr / Q = dd at *
        generalize 10 * rr % Q = r2 at *
        have w4 : IntKind.u64.wrap (dd : Int) = dd := by rw [IntKind.wrap_u64]; omega
        have w5 : IntKind.u8.wrap (dd : Int) = dd := by rw [IntKind.wrap_u8]; omega
        have w6 : IntKind.u64.wrap (r2 : Int) = r2 := by rw [IntKind.wrap_u64]; omega
        go_wp2_with (at_builtin; refine wpList_append_own _ rfl _ _ _ rfl W.heap.size 5 i0 (.int .u8 0) 1 1 Tryz.underlying135 hi hz0' hz1' hz2' rfl (by decide) _ l.length (b8 l) rfl (own_alloc H.out.own _) _ 1 1 [.int .u8 (dd : Int)] rfl rfl (Rd.one_ _ _ (by simp)).add (one_u8 _) (by simp [maxLen]; omega) (by omega) (by simp; omega) ?_; intro v3 w3' ho3 hg3 _)
        go_roundw
        case measure => simp [intOf]; omega
        case rel =>
          refine ⟨j + 1, r2, l ++ [dd], by omega, hr2b, by go_num, by rw [w3], by congr 1; omega, ?_⟩
          refine ⟨?_, H.out.all.append (AllD.cons hd10 AllD.nil), by have := H.out.len; simp; omega, ?_, ?_, own_step H.out.ext H.out.own hg3⟩
          · rw [b8, List.map_append]; simpa using ho3
          · rw [val_snoc, H.out.value]; exact HSTEP.out.1.symm
          · exact HSTEP.out.2.1.symm
      · have HF : Hid (∀ neg, rnd neg (val (l ++ [1])) false (ea - eb - (j : Int) - 1) = divR neg P Q (ea - eb)) := by
          intro neg
          obtain rfl : j = 32 := by omega
          have hr1 : P * T 32 % Q ≠ 0 := by rw [← H.out.rest]; exact hr0
          have hP0 : 0 < P := by
            rcases Nat.eq_zero_or_pos P with h0 | h0
            · rw [h0, Nat.zero_mul, Nat.zero_mod] at hr1; exact absurd rfl hr1
            · exact h0
          have hT15 : Q < T 15 := by have : T 15 = 1000000000000000 := by decide
                                     omega
          rw [val_snoc, H.out.value, ← divR_more neg (ea - eb) hP0 hQ hT15 hr1]
          congr 1
          omega
        clear hr0
        go_wp2_with (first | (at_builtin; refine wpList_append_own _ rfl _ _ _ rfl W.heap.size 5 i0 (.int .u8 0) 1 1 Tryz.underlying135 hi hz0' hz1' hz2' rfl (by decide) _ l.length (b8 l) rfl (own_alloc H.out.own _) _ 1 1 [.int .u8 1] rfl rfl (Rd.one_ _ _ (by simp)).add (one_u8 _) (by simp [maxLen]; omega) (by omega) (by simp; omega) ?_; intro v3 w3' ho3 hg3 _; have hx3 := own_step H.out.ext H.out.own hg3; obtain ⟨os3, d3, rfl⟩ := hx3.more; clear hg3) | (go_at_call 150; refine (round_own W _ _ (l ++ [1]) _ _ _ hx3 (by rw [b8, List.map_append]; exact ho3) (H.out.all.append (AllD.cons (by omega) AllD.nil)) (by simp; omega) (by omega)).mono ?_; rintro e w2' ⟨rfl, os2, d2, rfl⟩; rw [HF.out]))
        exact bodyPost_ret (v := rnV (divR (!(decide (ma < 0) == decide (mb < 0))) P Q (ea - eb))) (by simp [results, Tryz.results103, go_sem, c4, c5, hz]) rfl ⟨(by rw [HPQ.out, HQQ.out]; rfl), ((hxW.set _ (by show w.heap.size ≤ w.heap.size + 1 + 1; omega)).set _ (by show w.heap.size ≤ w.heap.size + 1 + 1; omega)).more_ _ _⟩
def divS (ma ea mb eb : Int) : Option (Int × Int) := if Rt ma ea ∧ Rt mb eb ∧ mb ≠ 0 then divR (ngB ma mb) ma.natAbs mb.natAbs (ea - eb) else none
theorem div_any (ma ea mb eb : Int) (w : World) (htab : Tab w) (hma : I64 ma) (hmb : I64 mb) :
    Calls Tryz.prog 103 #[NV ma ea, NV mb eb] w fun e w' => e = .returned (rnV (divS ma ea mb eb)) ∧ Ext w w' := by
  unfold divS
  split
  · rename_i h; exact div_yes ma ea mb eb w htab h.1 h.2.1 h.2.2
  · rename_i h; exact div_no ma ea mb eb w hma hmb h
end Go.Proofs.YtkcoikelcmpceaaGreatDoor
namespace Go.Proofs.YtkcoikelcmpceaaGreatDoor
open Go.RowKit NM
/-- The digits of a number's text. -/
def decB (n : Nat) : ByteArray := ⟨(Lib.decDigits n).toArray⟩
theorem decB_size (n : Nat) : (decB n).size = max 1 (nd n) := by
  show (Lib.decDigits n).toArray.size = _
  rw [dec_dig]; simp [dig0_length]
/-- The text of a right number. -/
def textL (m e : Int) : List UInt8 :=
  (if m < 0 then [45] else []) ++
  if 0 ≤ e then Lib.decDigits m.natAbs ++ List.replicate e.toNat 48
  else if 0 < ((Lib.decDigits m.natAbs).length : Int) + e then (Lib.decDigits m.natAbs).take ((Lib.decDigits m.natAbs).length + e).toNat ++ 46 :: (Lib.decDigits m.natAbs).drop ((Lib.decDigits m.natAbs).length + e).toNat
  else 48 :: 46 :: (List.replicate (-((Lib.decDigits m.natAbs).length + e)).toNat 48 ++ Lib.decDigits m.natAbs)
def textB (m e : Int) : ByteArray := ⟨(textL m e).toArray⟩
theorem bytes_eq {a : ByteArray} {l : List UInt8} (h : a.data.toList = l) : a = ⟨l.toArray⟩ := by
  subst h
  cases a; simp
theorem ret_str {a b : ByteArray} (h : a = b) : Ending.returned (.string a) = .returned (.string b) := by rw [h]
def textS (m e : Int) : ByteArray := if Rt m e then textB m e else ⟨#[]⟩
end Go.Proofs.YtkcoikelcmpceaaGreatDoor
namespace Go.Proofs.YtkcoikelcmpceaaGreatDoor
open Go.RowKit NM
theorem rt_one : Rt 1 0 := Or.inr ⟨by decide, by decide, by decide, by decide, by
  have : nd (1 : Int).natAbs = 1 := nd_eq (k := 0) (by decide) (by decide)
  rw [this]; decide⟩
end Go.Proofs.YtkcoikelcmpceaaGreatDoor
namespace Go.Proofs.YtkcoikelcmpceaaGreatDoor
open Go.RowKit NM
theorem digs_dig (n : Nat) : digs n = dig n := by
  induction n using Nat.strongRecOn with
  | ind n ih =>
    by_cases h : n = 0
    · subst h; rw [digs_zero, dig_zero]
    · rw [digs_pos h, dig_pos h, ih (n / 10) (by omega)]
theorem SlI.i6_ {base : Nat} {w : World} {A : Option Addr} {n : Int} (h : SlI base w A (digsI n)) : Rd base w A (i6 (dig n.natAbs)) := by
  unfold SlI digsI at h
  rw [digs_dig, List.map_map] at h
  exact h
/-- digits, with its room. -/
theorem rdigits (n : Int) (w : World) (h : I64 n) :
    Calls Tryz.prog 18 #[.int .i64 n] w fun e w' => ∃ A c, e = .returned (.slice A (nd n.natAbs) c) ∧ Rd w.heap.size w' A (i6 (dig n.natAbs)) ∧ nd n.natAbs ≤ c ∧ Ext w w' := by
  have hl : (digsI n).length = nd n.natAbs := by unfold digsI; rw [List.length_map, digs_dig, dig_length]
  refine (digits_any n w h).mono fun e w' ⟨A, c, h1, h2, h3, h4⟩ => ⟨A, c, ?_, h2.i6_, by omega, h3⟩
  rw [← hl]; exact h1
theorem rnd_far_down {neg : Bool} {N : Nat} {e : Int} (h : (nd N : Int) + e < -41) : rnd neg N false e = some (0, 0) := by
  apply rnd_of_zero
  unfold n2
  apply cutN_far
  by_cases h15 : nd N ≤ 15
  · have : n1 N false = N := by unfold n1; rw [show nd N - 15 = 0 by omega, cutN_zero]
    rw [this, show nd N - 15 = 0 by omega]; omega
  · have := (nd_le_iff (n1 N false) 16).2 (Nat.lt_of_le_of_lt (n1_le N false) (T_lt (by omega)))
    omega
set_option maxHeartbeats 1000000 in
theorem rmake_any (m ex : Int) (w : World) (hm : I64 m) :
    Calls Tryz.prog 8 #[.int .i64 m, .int .i64 ex] w fun e w' => e = .returned (rnV (rnd (decide (m < 0)) m.natAbs false ex)) ∧ Ext w w' := by
  by_cases h0 : m = 0
  · subst h0
    have hr : rnd (decide ((0 : Int) < 0)) (0 : Int).natAbs false ex = some (0, 0) := rnd_of_zero (n2_zero _ _)
    rw [hr]
    go_enter Tryz.func8, Tryz.ntmps8
    go_wp2
    exact bodyPost_ret (v := .tuple #[NV 0 0, .bool true]) (by simp [results, Tryz.results8, go_sem]) rfl ⟨rfl, by repeat (first | exact Ext.refl _ | apply Ext.drew | apply Ext.alloc | apply Ext.more_)⟩
  · have h0' : (m == 0) = false := by simp [h0]
    by_cases h1 : 100 < ex
    · rw [rnd_far_up (by omega) (by omega)]
      clear h0
      go_enter Tryz.func8, Tryz.ntmps8
      go_wp2
      exact bodyPost_ret (v := .tuple #[NV 0 0, .bool false]) (by simp [results, Tryz.results8, go_sem]) rfl ⟨rfl, by repeat (first | exact Ext.refl _ | apply Ext.drew | apply Ext.alloc | apply Ext.more_)⟩
    · have hnd : nd m.natAbs ≤ 20 := (nd_le_iff _ _).2 (Nat.lt_of_lt_of_le (show m.natAbs < 18446744073709551616 by obtain ⟨h1, h2⟩ := hm; omega) (by decide))
      by_cases h2 : ex < -100
      · rw [rnd_far_down (by omega)]
        clear h0
        go_enter Tryz.func8, Tryz.ntmps8
        go_wp2
        exact bodyPost_ret (v := .tuple #[NV 0 0, .bool true]) (by simp [results, Tryz.results8, go_sem]) rfl ⟨rfl, by repeat (first | exact Ext.refl _ | apply Ext.drew | apply Ext.alloc | apply Ext.more_)⟩
      · clear h0
        have HA := Lib.hid (dig_all m.natAbs)
        have HL := Lib.hid (dig_length m.natAbs)
        have HV := Lib.hid (val_dig m.natAbs)
        go_enter Tryz.func8, Tryz.ntmps8
        go_wp2_with (first | (go_at_call 18; refine (rdigits m _ hm).mono ?_; rintro e w' ⟨A, c, rfl, hr, hc, hx⟩; obtain ⟨os, d, rfl⟩ := hx.more) | (go_at_call 17; refine (near_any _ _ _ _ _ (dig m.natAbs) m.natAbs _ _ _ HL.out hr hc (by omega) HA.out HV.out (by omega) (by simp)).mono ?_; rintro e w' ⟨rfl, hx2⟩; obtain ⟨os2, d2, rfl⟩ := hx2.more))
        exact bodyPost_ret (v := rnV (rnd (decide (m < 0)) m.natAbs false ex)) (by simp [results, Tryz.results8, go_sem]) rfl ⟨rfl, by repeat (first | exact Ext.refl _ | apply Ext.drew | apply Ext.alloc | apply Ext.more_)⟩
end Go.Proofs.YtkcoikelcmpceaaGreatDoor
namespace Go.Proofs.YtkcoikelcmpceaaGreatDoor
open Go.RowKit NM
/-- The document's Right, in the same words. -/
theorem rright_rt (m ex : Int) (w : World) (h : I64 m) :
    Calls Tryz.prog 19 #[NV m ex] w fun e w' => e = .returned (.bool (rtB m ex)) ∧ Ext w w' := by
  have := refNumRight_any m ex w h
  rw [← numRight_eq m ex h, numRight_Rt] at this
  exact this
end Go.Proofs.YtkcoikelcmpceaaGreatDoor
namespace Go.Proofs.YtkcoikelcmpceaaGreatDoor
open Go.RowKit NM
set_option maxHeartbeats 1000000 in
theorem power_any (n : Nat) (w : World) (hn : n ≤ 15) :
    Calls Tryz.prog 120 #[.int .i64 (n : Int)] w fun e w' => e = .returned (.int .u64 ((T n : Nat) : Int)) ∧ w = w' := by
  have hT : ∀ j, j ≤ n → T j ≤ 1000000000000000 := fun j hj => by
    have h1 : T j ≤ T 15 := T_mono (by omega)
    have h2 : T 15 = 1000000000000000 := by decide
    omega
  generalize hR : T n = R
  have HR := Lib.hid hR
  have HT := Lib.hid hT
  clear hR hT
  go_enter Tryz.func120, Tryz.ntmps120
  go_wp2
  go_loop [3, 5] (fun a i => ∃ (j V : Nat), j ≤ n ∧ i = .int .i64 (j : Int) ∧ a = .int .u64 (V : Int) ∧ V ≤ 1000000000000000 ∧ Hid (V = T j)) (fun _ i => n - (intOf i).toNat)
  case atStart => exact ⟨0, 1, Nat.zero_le _, rfl, rfl, by omega, by show _ = _; rfl⟩
  case round =>
    obtain ⟨j, V, hj, rfl, rfl, hV, HV⟩ := hrel
    by_cases hlt : j < n
    · have w1 : IntKind.u64.wrap ((V : Int) * 10) = (V : Int) * 10 := by rw [IntKind.wrap_u64]; omega
      go_wp2
      refine ⟨⟨j + 1, V * 10, by omega, by go_num, by go_num, ?_, ?_⟩, by simp [intOf]; omega⟩
      · have h1 := HT.out (j + 1) (by omega); rw [T_succ, ← HV.out] at h1; omega
      · show _ = _; rw [T_succ, ← HV.out]; omega
    · have hVR : V = R := by rw [HV.out, ← HR.out, show j = n by omega]
      subst hVR
      go_wp2
      go_ret
      exact ⟨rfl, rfl⟩
/-- Minus a number. -/
def negM (m e : Int) : Int := if Rt m e then -m else 0
def zeroE (m e : Int) : Int := if Rt m e then e else 0
set_option maxHeartbeats 1000000 in
theorem neg_any (m ex : Int) (w : World) (hm : I64 m) :
    Calls Tryz.prog 118 #[NV m ex] w fun e w' => e = .returned (NV (negM m ex) (zeroE m ex)) ∧ Ext w w' := by
  unfold negM zeroE
  by_cases h : Rt m ex
  · have hb := Rt_bd h
    have r1 := rtB_yes h
    rw [if_pos h, if_pos h]
    clear h
    have w1 : wrap64 (-m) = -m := IntWalk.wrap64_in _ (by omega)
    go_enter Tryz.func118, Tryz.ntmps118
    go_wp2_with (go_at_call 110; (with_reducible refine (right_rt _ _ _ (by assumption)).mono ?_); rintro e w' ⟨rfl, hbr⟩; obtain ⟨osr, dr, rfl⟩ := hbr.more)
    exact bodyPost_ret (v := NV (-m) ex) (by simp [results, Tryz.results118, go_sem]) rfl ⟨rfl, by repeat (first | exact Ext.refl _ | apply Ext.drew | apply Ext.alloc | apply Ext.more_)⟩
  · have r1 := rtB_no h
    rw [if_neg h, if_neg h]
    clear h
    go_enter Tryz.func118, Tryz.ntmps118
    go_wp2_with (go_at_call 110; (with_reducible refine (right_rt _ _ _ (by assumption)).mono ?_); rintro e w' ⟨rfl, hbr⟩; obtain ⟨osr, dr, rfl⟩ := hbr.more)
    exact bodyPost_ret (v := NV 0 0) (by simp [results, Tryz.results118, go_sem]) rfl ⟨rfl, by repeat (first | exact Ext.refl _ | apply Ext.drew | apply Ext.alloc | apply Ext.more_)⟩
theorem neg_rt {m e : Int} : Rt (negM m e) (zeroE m e) := by
  unfold negM zeroE
  split
  · rename_i h
    rcases h with ⟨h1, h2⟩ | ⟨h1, h2, h3, h4, h5⟩
    · exact Or.inl ⟨by omega, h2⟩
    · right
      rw [Int.natAbs_neg]
      exact ⟨by omega, h2, h3, h4, h5⟩
  · exact Or.inl ⟨rfl, rfl⟩
/-- N over 10 to the power k, a half up. -/
def cutUp (N k : Nat) : Nat := if T k ≤ 2 * (N % T k) then N / T k + 1 else N / T k
/-- P1.3's Round. -/
def roundS (m e p : Int) : Int × Int :=
  if ¬ Rt m e ∨ p < -40 then (0, 0)
  else if 40 ≤ p ∨ -p ≤ e then (m, e)
  else (fin (decide (m < 0)) (cutUp m.natAbs (-p - e).toNat) (-p)).getD (m, e)
theorem fin_right {neg : Bool} {N : Nat} {E : Int} (h0 : N ≠ 0) (hN : N ≤ T 15) (hE : -40 ≤ E) : Rt (sg neg (trim N E).1) (trim N E).2 ↔ nd N + E ≤ 40 := by
  have h2 := trim_nd E h0
  obtain ⟨k, a, b, c⟩ := trim_spec N E h0
  have hn : (trim N E).1 ≠ 0 := by omega
  have hT : T 15 = 1000000000000000 := by decide
  constructor
  · rintro (⟨hr, _⟩ | ⟨_, _, _, _, h5⟩)
    · exact absurd (sg_zero.1 hr) hn
    · rw [sg_natAbs] at h5; omega
  · intro h
    refine Or.inr ⟨fun hh => hn (sg_zero.1 hh), ?_, ?_, ?_, ?_⟩ <;> (try simp only [sg_natAbs])
    · rcases Nat.eq_zero_or_pos k with rfl | hk
      · have a' : N = (trim N E).1 := by simpa [T] using a
        rw [← a']
        rcases Nat.lt_or_ge N (T 15) with h5 | h5
        · exact h5
        · exfalso
          rw [← a', show N = 1000000000000000 by omega] at c; omega
      · have h3 : T 1 ≤ T k := T_mono hk
        have h4 := Nat.mul_le_mul_left (trim N E).1 h3
        rw [← a] at h4
        simp only [T, Nat.pow_one] at h4
        omega
    · exact c
    · omega
    · omega
theorem cutUp_far {N k : Nat} (h : nd N < k) : cutUp N k = 0 := by
  have h1 := lt_T_nd N
  have h2 : T (nd N + 1) ≤ T k := T_mono h
  rw [T_succ] at h2
  have h3 : N < T k := by omega
  unfold cutUp
  rw [Nat.mod_eq_of_lt h3, Nat.div_eq_of_lt h3, if_neg (by omega)]
theorem cutUp_le {N k : Nat} (hN : N < T 15) (hk : 0 < k) : cutUp N k ≤ T 15 := by
  have h1 : N / T k ≤ N := Nat.div_le_self _ _
  unfold cutUp
  split <;> omega
theorem fin_zero (neg : Bool) (E : Int) : fin neg 0 E = some (0, 0) := by unfold fin; rw [if_pos rfl]
set_option maxHeartbeats 2000000 in
theorem round_yes (m ex p : Int) (w : World) (h : Rt m ex) (hp1 : -40 ≤ p) (hp2 : p < 40) (hp3 : ex < -p) (hk : -p - ex ≤ 15) :
    Calls Tryz.prog 124 #[NV m ex, .int .i64 p] w fun e w' => e = .returned (NV ((fin (decide (m < 0)) (cutUp m.natAbs (-p - ex).toNat) (-p)).getD (m, ex)).1 ((fin (decide (m < 0)) (cutUp m.natAbs (-p - ex).toNat) (-p)).getD (m, ex)).2) ∧ Ext w w' := by
  obtain ⟨b1, b2, b3⟩ := Rt_bd h
  have hm : I64 m := by unfold I64; omega
  have r1 := rtB_yes h
  obtain ⟨k, hkk⟩ : ∃ k : Nat, -p - ex = (k : Int) := ⟨(-p - ex).toNat, by omega⟩
  have hk1 : 0 < k := by omega
  have hk15 : k ≤ 15 := by omega
  have hT15 : T 15 = 1000000000000000 := by decide
  have hCle := cutUp_le (N := m.natAbs) (by omega) hk1
  rw [hkk, Int.toNat_natCast]
  have hfr := fun h0 => fin_right (neg := decide (m < 0)) (N := cutUp m.natAbs k) (E := -p) h0 hCle (by omega)
  have hTk : 0 < T k ∧ T k ≤ 1000000000000000 := ⟨T_pos k, by have := T_mono hk15; omega⟩
  have hpw := fun W => power_any k W hk15
  have hcu : cutUp m.natAbs k = if T k ≤ 2 * (m.natAbs % T k) then m.natAbs / T k + 1 else m.natAbs / T k := rfl
  generalize cutUp m.natAbs k = C at *
  generalize T k = U at *
  generalize hN : m.natAbs = N at *
  have hsz := fun W => size_nat m W hm
  rw [hN] at hsz
  have HU := Lib.hid hTk
  have hU0 : ¬ U = 0 := by omega
  have q1 : (N : Int) % (U : Int) = ((N % U : Nat) : Int) := by omega
  have q2 : (N : Int) / (U : Int) = ((N / U : Nat) : Int) := by omega
  have hr := Nat.mod_lt N hTk.1
  have hq := Nat.div_le_self N U
  generalize N % U = r at *
  generalize N / U = q at *
  have w1 : IntKind.u64.wrap (r : Int) = r := by rw [IntKind.wrap_u64]; omega
  have w2 : IntKind.u64.wrap (q : Int) = q := by rw [IntKind.wrap_u64]; omega
  have w3 : IntKind.u64.wrap ((r : Int) * 2) = (r : Int) * 2 := by rw [IntKind.wrap_u64]; omega
  have w4 : IntKind.u64.wrap ((q : Int) + 1) = (q : Int) + 1 := by rw [IntKind.wrap_u64]; omega
  have w5 : wrap64 (-p) = -p := IntWalk.wrap64_in _ (by omega)
  have w6 : IntKind.i64.wrap (-p) = -p := i64w (by omega) (by omega)
  have w7 : IntKind.i64.wrap (-p - ex) = -p - ex := i64w (by omega) (by omega)
  have htr := fun W => trimmed_any (decide (m < 0)) C (-p) W (by omega) (by omega)
  have hkey : (fin (decide (m < 0)) C (-p)).getD (m, ex) = if rtB (sg (decide (m < 0)) (trim C (-p)).1) (trim C (-p)).2 = true then (sg (decide (m < 0)) (trim C (-p)).1, (trim C (-p)).2) else (m, ex) := by
    by_cases h0 : C = 0
    · rw [h0, fin_zero, trim_zero]
      have hs0 : sg (decide (m < 0)) 0 = 0 := by unfold sg; split <;> rfl
      rw [hs0, if_pos (rtB_yes (Or.inl ⟨rfl, rfl⟩))]; rfl
    · by_cases h40 : (nd C : Int) + -p ≤ 40
      · rw [if_pos (rtB_yes ((hfr h0).2 h40))]
        unfold fin; rw [if_neg h0, if_neg (by omega)]; rfl
      · rw [if_neg (by rw [rtB_no (fun hh => h40 ((hfr h0).1 hh))]; simp)]
        unfold fin; rw [if_neg h0, if_pos (by omega)]; rfl
  have htm : (trim C (-p)).1 ≤ C := by
    by_cases h0 : C = 0
    · rw [h0, trim_zero]; exact Nat.le_refl _
    · obtain ⟨k, ha, _, _⟩ := trim_spec C (-p) h0
      have h1 := Nat.mul_le_mul_left (trim C (-p)).1 (T_pos k)
      omega
  have hI : I64 (sg (decide (m < 0)) (trim C (-p)).1) := by unfold sg I64; split <;> omega
  clear hfr htm
  generalize sg (decide (m < 0)) (trim C (-p)).1 = m' at *
  generalize (trim C (-p)).2 = e' at *
  rw [hkey]
  clear hkey
  have HCU := Lib.hid hcu
  clear hcu hTk h hT15 hCle
  by_cases h5 : U ≤ r * 2
  · have hC : (C : Int) = (q : Int) + 1 := by have := HCU.out; rw [if_pos (by omega)] at this; omega
    have g1 : decide ((U : Int) ≤ (r : Int) * 2) = true := by simp; omega
    have g2 : decide (U ≤ r * 2) = true := by simp; omega
    rw [hC] at htr
    by_cases hR : rtB m' e' = true
    · rw [if_pos hR]
      go_enter Tryz.func124, Tryz.ntmps124
      go_wp2_with (go_at_call 110; (with_reducible refine (right_rt _ _ _ (by assumption)).mono ?_); rintro e w' ⟨rfl, hbr⟩; obtain ⟨osr, dr, rfl⟩ := hbr.more)
      refine wp_plan (S := Ext _) [(0, 0), (2, 0), (3, 0), (1, 1), (4, 1), (5, 0), (6, 0)] [] (by kernel_rfl) (by kernel_rfl) (by kernel_rfl) (fun _ _ d _ _ h => by cases d <;> exact h) (Ext.drew (Ext.refl _)) ?_
      iterate 3 ((refine wpPl_read (v := ?_) rfl ?_ (fun _ h => ?_) ?_; rotate_left 1; rfl; (obtain ⟨_, _, rfl⟩ := h.more; go_simp; try rfl)); try simp only [Act.put, zqA, zqB, zqC])
      (refine wpPl_eff rfl ?_ (fun K hK => ?_); rfl; go_simp; (go_at_call 120; (with_reducible refine (hpw _).mono ?_); rintro e w' ⟨rfl, rfl⟩); refine hK _ _ ?_ ?_; (repeat (first | (with_reducible (first | exact Ext.refl _ | exact ext_d _ _ _ _ | exact ext_app _ _ _ _ _ | exact ext_app2 _ _ _ _ _ _ | exact ext_app3 _ _ _ _ _ _ _ | exact ext_app4 _ _ _ _ _ _ _ _ | exact ext_app5 _ _ _ _ _ _ _ _ _)) | ((with_reducible refine ext_suffix ⟨_, ?_⟩); (try simp only [Array.append_assoc]); rfl) | (with_reducible (first | apply Ext.drew | apply Ext.alloc | apply Ext.more_)) | apply Ext.drew | apply Ext.alloc | apply Ext.more_)))
      try simp only [Act.put, zqA, zqB, zqC]
      (refine wpPl_eff rfl ?_ (fun K hK => ?_); rfl; go_simp; (go_at_call 119; (with_reducible refine (hsz _).mono ?_); rintro e w' ⟨rfl, rfl⟩); refine hK _ _ ?_ ?_; (repeat (first | (with_reducible (first | exact Ext.refl _ | exact ext_d _ _ _ _ | exact ext_app _ _ _ _ _ | exact ext_app2 _ _ _ _ _ _ | exact ext_app3 _ _ _ _ _ _ _ | exact ext_app4 _ _ _ _ _ _ _ _ | exact ext_app5 _ _ _ _ _ _ _ _ _)) | ((with_reducible refine ext_suffix ⟨_, ?_⟩); (try simp only [Array.append_assoc]); rfl) | (with_reducible (first | apply Ext.drew | apply Ext.alloc | apply Ext.more_)) | apply Ext.drew | apply Ext.alloc | apply Ext.more_)))
      try simp only [Act.put, zqA, zqB, zqC]
      iterate 2 ((refine wpPl_read (v := ?_) rfl ?_ (fun _ h => ?_) ?_; rotate_left 1; rfl; (obtain ⟨_, _, rfl⟩ := h.more; go_simp; try rfl)); try simp only [Act.put, zqA, zqB, zqC])
      refine wpPl_nil ?_
      go_wp2_with (first | (go_at_call 110; (with_reducible refine (right_rt _ _ _ (by assumption)).mono ?_); rintro e w' ⟨rfl, hbr⟩; obtain ⟨osr, dr, rfl⟩ := hbr.more) | (go_at_call 121; (with_reducible refine (htr _).mono ?_); rintro e w' ⟨rfl, hbt⟩; obtain ⟨ost, dt, rfl⟩ := hbt.more))
      exact bodyPost_ret (v := NV m' e') (by simp [results, Tryz.results124, go_sem]) rfl ⟨rfl, by repeat (first | exact Ext.refl _ | apply Ext.drew | apply Ext.alloc | apply Ext.more_)⟩
    · have hR' : rtB m' e' = false := by simpa using hR
      rw [if_neg hR]
      clear hR
      go_enter Tryz.func124, Tryz.ntmps124
      go_wp2_with (go_at_call 110; (with_reducible refine (right_rt _ _ _ (by assumption)).mono ?_); rintro e w' ⟨rfl, hbr⟩; obtain ⟨osr, dr, rfl⟩ := hbr.more)
      refine wp_plan (S := Ext _) [(0, 0), (2, 0), (3, 0), (1, 1), (4, 1), (5, 0), (6, 0)] [] (by kernel_rfl) (by kernel_rfl) (by kernel_rfl) (fun _ _ d _ _ h => by cases d <;> exact h) (Ext.drew (Ext.refl _)) ?_
      iterate 3 ((refine wpPl_read (v := ?_) rfl ?_ (fun _ h => ?_) ?_; rotate_left 1; rfl; (obtain ⟨_, _, rfl⟩ := h.more; go_simp; try rfl)); try simp only [Act.put, zqA, zqB, zqC])
      (refine wpPl_eff rfl ?_ (fun K hK => ?_); rfl; go_simp; (go_at_call 120; (with_reducible refine (hpw _).mono ?_); rintro e w' ⟨rfl, rfl⟩); refine hK _ _ ?_ ?_; (repeat (first | (with_reducible (first | exact Ext.refl _ | exact ext_d _ _ _ _ | exact ext_app _ _ _ _ _ | exact ext_app2 _ _ _ _ _ _ | exact ext_app3 _ _ _ _ _ _ _ | exact ext_app4 _ _ _ _ _ _ _ _ | exact ext_app5 _ _ _ _ _ _ _ _ _)) | ((with_reducible refine ext_suffix ⟨_, ?_⟩); (try simp only [Array.append_assoc]); rfl) | (with_reducible (first | apply Ext.drew | apply Ext.alloc | apply Ext.more_)) | apply Ext.drew | apply Ext.alloc | apply Ext.more_)))
      try simp only [Act.put, zqA, zqB, zqC]
      (refine wpPl_eff rfl ?_ (fun K hK => ?_); rfl; go_simp; (go_at_call 119; (with_reducible refine (hsz _).mono ?_); rintro e w' ⟨rfl, rfl⟩); refine hK _ _ ?_ ?_; (repeat (first | (with_reducible (first | exact Ext.refl _ | exact ext_d _ _ _ _ | exact ext_app _ _ _ _ _ | exact ext_app2 _ _ _ _ _ _ | exact ext_app3 _ _ _ _ _ _ _ | exact ext_app4 _ _ _ _ _ _ _ _ | exact ext_app5 _ _ _ _ _ _ _ _ _)) | ((with_reducible refine ext_suffix ⟨_, ?_⟩); (try simp only [Array.append_assoc]); rfl) | (with_reducible (first | apply Ext.drew | apply Ext.alloc | apply Ext.more_)) | apply Ext.drew | apply Ext.alloc | apply Ext.more_)))
      try simp only [Act.put, zqA, zqB, zqC]
      iterate 2 ((refine wpPl_read (v := ?_) rfl ?_ (fun _ h => ?_) ?_; rotate_left 1; rfl; (obtain ⟨_, _, rfl⟩ := h.more; go_simp; try rfl)); try simp only [Act.put, zqA, zqB, zqC])
      refine wpPl_nil ?_
      go_wp2_with (first | (go_at_call 110; (with_reducible refine (right_rt _ _ _ (by assumption)).mono ?_); rintro e w' ⟨rfl, hbr⟩; obtain ⟨osr, dr, rfl⟩ := hbr.more) | (go_at_call 121; (with_reducible refine (htr _).mono ?_); rintro e w' ⟨rfl, hbt⟩; obtain ⟨ost, dt, rfl⟩ := hbt.more))
      exact bodyPost_ret (v := NV m ex) (by simp [results, Tryz.results124, go_sem]) rfl ⟨rfl, by repeat (first | exact Ext.refl _ | apply Ext.drew | apply Ext.alloc | apply Ext.more_)⟩
  · have hC : (C : Int) = (q : Int) := by have := HCU.out; rw [if_neg (by omega)] at this; omega
    have g1 : decide ((U : Int) ≤ (r : Int) * 2) = false := by simp; omega
    have g2 : decide (U ≤ r * 2) = false := by simp; omega
    rw [hC] at htr
    by_cases hR : rtB m' e' = true
    · rw [if_pos hR]
      go_enter Tryz.func124, Tryz.ntmps124
      go_wp2_with (go_at_call 110; (with_reducible refine (right_rt _ _ _ (by assumption)).mono ?_); rintro e w' ⟨rfl, hbr⟩; obtain ⟨osr, dr, rfl⟩ := hbr.more)
      refine wp_plan (S := Ext _) [(0, 0), (2, 0), (3, 0), (1, 1), (4, 1), (5, 0), (6, 0)] [] (by kernel_rfl) (by kernel_rfl) (by kernel_rfl) (fun _ _ d _ _ h => by cases d <;> exact h) (Ext.drew (Ext.refl _)) ?_
      iterate 3 ((refine wpPl_read (v := ?_) rfl ?_ (fun _ h => ?_) ?_; rotate_left 1; rfl; (obtain ⟨_, _, rfl⟩ := h.more; go_simp; try rfl)); try simp only [Act.put, zqA, zqB, zqC])
      (refine wpPl_eff rfl ?_ (fun K hK => ?_); rfl; go_simp; (go_at_call 120; (with_reducible refine (hpw _).mono ?_); rintro e w' ⟨rfl, rfl⟩); refine hK _ _ ?_ ?_; (repeat (first | (with_reducible (first | exact Ext.refl _ | exact ext_d _ _ _ _ | exact ext_app _ _ _ _ _ | exact ext_app2 _ _ _ _ _ _ | exact ext_app3 _ _ _ _ _ _ _ | exact ext_app4 _ _ _ _ _ _ _ _ | exact ext_app5 _ _ _ _ _ _ _ _ _)) | ((with_reducible refine ext_suffix ⟨_, ?_⟩); (try simp only [Array.append_assoc]); rfl) | (with_reducible (first | apply Ext.drew | apply Ext.alloc | apply Ext.more_)) | apply Ext.drew | apply Ext.alloc | apply Ext.more_)))
      try simp only [Act.put, zqA, zqB, zqC]
      (refine wpPl_eff rfl ?_ (fun K hK => ?_); rfl; go_simp; (go_at_call 119; (with_reducible refine (hsz _).mono ?_); rintro e w' ⟨rfl, rfl⟩); refine hK _ _ ?_ ?_; (repeat (first | (with_reducible (first | exact Ext.refl _ | exact ext_d _ _ _ _ | exact ext_app _ _ _ _ _ | exact ext_app2 _ _ _ _ _ _ | exact ext_app3 _ _ _ _ _ _ _ | exact ext_app4 _ _ _ _ _ _ _ _ | exact ext_app5 _ _ _ _ _ _ _ _ _)) | ((with_reducible refine ext_suffix ⟨_, ?_⟩); (try simp only [Array.append_assoc]); rfl) | (with_reducible (first | apply Ext.drew | apply Ext.alloc | apply Ext.more_)) | apply Ext.drew | apply Ext.alloc | apply Ext.more_)))
      try simp only [Act.put, zqA, zqB, zqC]
      iterate 2 ((refine wpPl_read (v := ?_) rfl ?_ (fun _ h => ?_) ?_; rotate_left 1; rfl; (obtain ⟨_, _, rfl⟩ := h.more; go_simp; try rfl)); try simp only [Act.put, zqA, zqB, zqC])
      refine wpPl_nil ?_
      go_wp2_with (first | (go_at_call 110; (with_reducible refine (right_rt _ _ _ (by assumption)).mono ?_); rintro e w' ⟨rfl, hbr⟩; obtain ⟨osr, dr, rfl⟩ := hbr.more) | (go_at_call 121; (with_reducible refine (htr _).mono ?_); rintro e w' ⟨rfl, hbt⟩; obtain ⟨ost, dt, rfl⟩ := hbt.more))
      exact bodyPost_ret (v := NV m' e') (by simp [results, Tryz.results124, go_sem]) rfl ⟨rfl, by repeat (first | exact Ext.refl _ | apply Ext.drew | apply Ext.alloc | apply Ext.more_)⟩
    · have hR' : rtB m' e' = false := by simpa using hR
      rw [if_neg hR]
      clear hR
      go_enter Tryz.func124, Tryz.ntmps124
      go_wp2_with (go_at_call 110; (with_reducible refine (right_rt _ _ _ (by assumption)).mono ?_); rintro e w' ⟨rfl, hbr⟩; obtain ⟨osr, dr, rfl⟩ := hbr.more)
      refine wp_plan (S := Ext _) [(0, 0), (2, 0), (3, 0), (1, 1), (4, 1), (5, 0), (6, 0)] [] (by kernel_rfl) (by kernel_rfl) (by kernel_rfl) (fun _ _ d _ _ h => by cases d <;> exact h) (Ext.drew (Ext.refl _)) ?_
      iterate 3 ((refine wpPl_read (v := ?_) rfl ?_ (fun _ h => ?_) ?_; rotate_left 1; rfl; (obtain ⟨_, _, rfl⟩ := h.more; go_simp; try rfl)); try simp only [Act.put, zqA, zqB, zqC])
      (refine wpPl_eff rfl ?_ (fun K hK => ?_); rfl; go_simp; (go_at_call 120; (with_reducible refine (hpw _).mono ?_); rintro e w' ⟨rfl, rfl⟩); refine hK _ _ ?_ ?_; (repeat (first | (with_reducible (first | exact Ext.refl _ | exact ext_d _ _ _ _ | exact ext_app _ _ _ _ _ | exact ext_app2 _ _ _ _ _ _ | exact ext_app3 _ _ _ _ _ _ _ | exact ext_app4 _ _ _ _ _ _ _ _ | exact ext_app5 _ _ _ _ _ _ _ _ _)) | ((with_reducible refine ext_suffix ⟨_, ?_⟩); (try simp only [Array.append_assoc]); rfl) | (with_reducible (first | apply Ext.drew | apply Ext.alloc | apply Ext.more_)) | apply Ext.drew | apply Ext.alloc | apply Ext.more_)))
      try simp only [Act.put, zqA, zqB, zqC]
      (refine wpPl_eff rfl ?_ (fun K hK => ?_); rfl; go_simp; (go_at_call 119; (with_reducible refine (hsz _).mono ?_); rintro e w' ⟨rfl, rfl⟩); refine hK _ _ ?_ ?_; (repeat (first | (with_reducible (first | exact Ext.refl _ | exact ext_d _ _ _ _ | exact ext_app _ _ _ _ _ | exact ext_app2 _ _ _ _ _ _ | exact ext_app3 _ _ _ _ _ _ _ | exact ext_app4 _ _ _ _ _ _ _ _ | exact ext_app5 _ _ _ _ _ _ _ _ _)) | ((with_reducible refine ext_suffix ⟨_, ?_⟩); (try simp only [Array.append_assoc]); rfl) | (with_reducible (first | apply Ext.drew | apply Ext.alloc | apply Ext.more_)) | apply Ext.drew | apply Ext.alloc | apply Ext.more_)))
      try simp only [Act.put, zqA, zqB, zqC]
      iterate 2 ((refine wpPl_read (v := ?_) rfl ?_ (fun _ h => ?_) ?_; rotate_left 1; rfl; (obtain ⟨_, _, rfl⟩ := h.more; go_simp; try rfl)); try simp only [Act.put, zqA, zqB, zqC])
      refine wpPl_nil ?_
      go_wp2_with (first | (go_at_call 110; (with_reducible refine (right_rt _ _ _ (by assumption)).mono ?_); rintro e w' ⟨rfl, hbr⟩; obtain ⟨osr, dr, rfl⟩ := hbr.more) | (go_at_call 121; (with_reducible refine (htr _).mono ?_); rintro e w' ⟨rfl, hbt⟩; obtain ⟨ost, dt, rfl⟩ := hbt.more))
      exact bodyPost_ret (v := NV m ex) (by simp [results, Tryz.results124, go_sem]) rfl ⟨rfl, by repeat (first | exact Ext.refl _ | apply Ext.drew | apply Ext.alloc | apply Ext.more_)⟩
end Go.Proofs.YtkcoikelcmpceaaGreatDoor
namespace Go.Proofs.YtkcoikelcmpceaaGreatDoor
open Go.RowKit NM
set_option maxHeartbeats 2000000 in
theorem round_all (m ex p : Int) (w : World) (hm : I64 m) (hp : I64 p) :
    Calls Tryz.prog 124 #[NV m ex, .int .i64 p] w fun e w' => e = .returned (NV (roundS m ex p).1 (roundS m ex p).2) ∧ Ext w w' := by
  by_cases h : Rt m ex
  · have r1 := rtB_yes h
    obtain ⟨b1, b2, b3⟩ := Rt_bd h
    by_cases h1 : p < -40
    · have hs : roundS m ex p = (0, 0) := by unfold roundS; rw [if_pos (Or.inr h1)]
      rw [hs]
      clear h hs
      go_enter Tryz.func124, Tryz.ntmps124
      go_wp2_with (go_at_call 110; (with_reducible refine (right_rt _ _ _ (by assumption)).mono ?_); rintro e w' ⟨rfl, hbr⟩; obtain ⟨osr, dr, rfl⟩ := hbr.more)
      exact bodyPost_ret (v := NV 0 0) (by simp [results, Tryz.results124, go_sem]) rfl ⟨rfl, by repeat (first | exact Ext.refl _ | apply Ext.drew | apply Ext.alloc | apply Ext.more_)⟩
    · by_cases h2 : 40 ≤ p
      · have hs : roundS m ex p = (m, ex) := by unfold roundS; rw [if_neg (by rintro (h3 | h3); exact h3 h; omega), if_pos (Or.inl h2)]
        rw [hs]
        clear h hs
        go_enter Tryz.func124, Tryz.ntmps124
        go_wp2_with (go_at_call 110; (with_reducible refine (right_rt _ _ _ (by assumption)).mono ?_); rintro e w' ⟨rfl, hbr⟩; obtain ⟨osr, dr, rfl⟩ := hbr.more)
        exact bodyPost_ret (v := NV m ex) (by simp [results, Tryz.results124, go_sem]) rfl ⟨rfl, by repeat (first | exact Ext.refl _ | apply Ext.drew | apply Ext.alloc | apply Ext.more_)⟩
      · have w5 : wrap64 (-p) = -p := IntWalk.wrap64_in _ (by omega)
        have w6 : IntKind.i64.wrap (-p) = -p := i64w (by omega) (by omega)
        by_cases h3 : -p ≤ ex
        · have hs : roundS m ex p = (m, ex) := by unfold roundS; rw [if_neg (by rintro (h4 | h4); exact h4 h; omega), if_pos (Or.inr h3)]
          rw [hs]
          clear h hs
          go_enter Tryz.func124, Tryz.ntmps124
          go_wp2_with (go_at_call 110; (with_reducible refine (right_rt _ _ _ (by assumption)).mono ?_); rintro e w' ⟨rfl, hbr⟩; obtain ⟨osr, dr, rfl⟩ := hbr.more)
          exact bodyPost_ret (v := NV m ex) (by simp [results, Tryz.results124, go_sem]) rfl ⟨rfl, by repeat (first | exact Ext.refl _ | apply Ext.drew | apply Ext.alloc | apply Ext.more_)⟩
        · have hs : roundS m ex p = (fin (decide (m < 0)) (cutUp m.natAbs (-p - ex).toNat) (-p)).getD (m, ex) := by unfold roundS; rw [if_neg (by rintro (h4 | h4); exact h4 h; omega), if_neg (by omega)]
          rw [hs]
          by_cases h4 : -p - ex ≤ 15
          · exact round_yes m ex p w h (by omega) (by omega) (by omega) h4
          · have hnd : nd m.natAbs ≤ 15 := (nd_le_iff _ _).2 (by have : T 15 = 1000000000000000 := by decide
                                                                 omega)
            rw [cutUp_far (by omega), fin_zero]
            have w7 : IntKind.i64.wrap (-p - ex) = -p - ex := i64w (by omega) (by omega)
            clear h hs
            go_enter Tryz.func124, Tryz.ntmps124
            go_wp2_with (go_at_call 110; (with_reducible refine (right_rt _ _ _ (by assumption)).mono ?_); rintro e w' ⟨rfl, hbr⟩; obtain ⟨osr, dr, rfl⟩ := hbr.more)
            exact bodyPost_ret (v := NV 0 0) (by simp [results, Tryz.results124, go_sem]) rfl ⟨rfl, by repeat (first | exact Ext.refl _ | apply Ext.drew | apply Ext.alloc | apply Ext.more_)⟩
  · have r1 := rtB_no h
    have hs : roundS m ex p = (0, 0) := by unfold roundS; rw [if_pos (Or.inl h)]
    rw [hs]
    clear h hs
    go_enter Tryz.func124, Tryz.ntmps124
    go_wp2_with (go_at_call 110; (with_reducible refine (right_rt _ _ _ (by assumption)).mono ?_); rintro e w' ⟨rfl, hbr⟩; obtain ⟨osr, dr, rfl⟩ := hbr.more)
    exact bodyPost_ret (v := NV 0 0) (by simp [results, Tryz.results124, go_sem]) rfl ⟨rfl, by repeat (first | exact Ext.refl _ | apply Ext.drew | apply Ext.alloc | apply Ext.more_)⟩
/-- P1.3's Floor. -/
def floorN (m : Int) (k : Nat) : Nat := if m < 0 then m.natAbs / T k + 1 else m.natAbs / T k
def floorS (m e : Int) : Int × Int :=
  if ¬ Rt m e then (0, 0) else if 0 ≤ e then (m, e) else (sg (decide (m < 0)) (trim (floorN m (-e).toNat) 0).1, (trim (floorN m (-e).toNat) 0).2)
theorem mod_T_ne {N k : Nat} (h : N % 10 ≠ 0) (hk : 0 < k) : N % T k ≠ 0 := by
  obtain ⟨j, rfl⟩ : ∃ j, k = j + 1 := ⟨k - 1, by omega⟩
  intro h0
  have h1 : 10 ∣ T (j + 1) := ⟨T j, T_succ j⟩
  have h2 := Nat.dvd_trans h1 (Nat.dvd_of_mod_eq_zero h0)
  omega
set_option maxHeartbeats 2000000 in
theorem floor_yes (m ex : Int) (w : World) (h : Rt m ex) (he : ex < 0) :
    Calls Tryz.prog 59 #[NV m ex] w fun e w' => e = .returned (NV (sg (decide (m < 0)) (trim (floorN m (-ex).toNat) 0).1) (trim (floorN m (-ex).toNat) 0).2) ∧ Ext w w' := by
  obtain ⟨b1, b2, b3⟩ := Rt_bd h
  have hm : I64 m := by unfold I64; omega
  have r1 := rtB_yes h
  obtain ⟨k, hkk⟩ : ∃ k : Nat, ex = -(k : Int) := ⟨(-ex).toNat, by omega⟩
  subst hkk
  have hk1 : 0 < k := by omega
  have hm0 : m ≠ 0 ∧ m.natAbs % 10 ≠ 0 := by
    rcases h with ⟨_, h2⟩ | ⟨h1, _, h3, _⟩
    · omega
    · exact ⟨h1, h3⟩
  have hr0 := mod_T_ne hm0.2 hk1
  have hT15 : T 15 = 1000000000000000 := by decide
  rw [show (- -(k : Int)).toNat = k by omega]
  have hfl : floorN m k = if m < 0 then m.natAbs / T k + 1 else m.natAbs / T k := rfl
  have hdle := Nat.div_le_self m.natAbs (T k)
  have htr := fun W => trimmed_any (decide (m < 0)) (floorN m k) 0 W (by rw [hfl]; split <;> omega) (by omega)
  generalize sg (decide (m < 0)) (trim (floorN m k) 0).1 = m' at *
  generalize (trim (floorN m k) 0).2 = e' at *
  generalize floorN m k = F at *
  have hsz := fun W => size_nat m W hm
  have w5 : wrap64 (- -(k : Int)) = k := by rw [show - -(k : Int) = k by omega]; exact IntWalk.wrap64_in _ (by omega)
  have w6 : IntKind.i64.wrap (- -(k : Int)) = k := by rw [show - -(k : Int) = k by omega]; exact i64w (by omega) (by omega)
  by_cases hk15 : k ≤ 15
  · have hTk : 0 < T k ∧ T k ≤ 1000000000000000 := ⟨T_pos k, by have := T_mono hk15; omega⟩
    have hpw := fun W => power_any k W hk15
    generalize T k = U at *
    generalize hN : m.natAbs = N at *
    have hU0 : ¬ U = 0 := by omega
    have q1 : (N : Int) % (U : Int) = ((N % U : Nat) : Int) := by omega
    have q2 : (N : Int) / (U : Int) = ((N / U : Nat) : Int) := by omega
    have hrl := Nat.mod_lt N hTk.1
    generalize N % U = r at *
    generalize N / U = q at *
    have w1 : IntKind.u64.wrap (r : Int) = r := by rw [IntKind.wrap_u64]; omega
    have w2 : IntKind.u64.wrap (q : Int) = q := by rw [IntKind.wrap_u64]; omega
    have w4 : IntKind.u64.wrap ((q : Int) + 1) = (q : Int) + 1 := by rw [IntKind.wrap_u64]; omega
    have g1 : ((r : Int) != 0) = true := by simp; omega
    have g2 : (r != 0) = true := by simp; omega
    by_cases hneg : m < 0
    · rw [if_pos hneg] at hfl
      subst hfl
      have htr' := htr
      rw [show ((q + 1 : Nat) : Int) = (q : Int) + 1 by omega, decide_eq_true hneg] at htr'
      clear htr hN hr0 hm0 h
      have htr := htr'
      clear htr'
      go_enter Tryz.func59, Tryz.ntmps59
      go_wp2_with (first | (go_at_call 110; (with_reducible refine (right_rt _ _ _ (by assumption)).mono ?_); rintro e w' ⟨rfl, hbr⟩; obtain ⟨osr, dr, rfl⟩ := hbr.more) | (go_at_call 119; (with_reducible refine (hsz _).mono ?_); rintro e w' ⟨rfl, rfl⟩) | (go_at_call 120; (with_reducible refine (hpw _).mono ?_); rintro e w' ⟨rfl, rfl⟩) | (go_at_call 121; (with_reducible refine (htr _).mono ?_); rintro e w' ⟨rfl, hbt⟩; obtain ⟨ost, dt, rfl⟩ := hbt.more))
      refine wp_plan (S := Ext _) [(0, 0), (1, 0), (2, 0), (3, 0), (4, 0), (5, 0), (6, 0), (7, 0)] [] (by kernel_rfl) (by kernel_rfl) (by kernel_rfl) (fun _ _ d _ _ h => by cases d <;> exact h) (Ext.drew (Ext.refl _)) ?_
      iterate 8 ((refine wpPl_read (v := ?_) rfl ?_ (fun _ h => ?_) ?_; rotate_left 1; rfl; (obtain ⟨_, _, rfl⟩ := h.more; go_simp; try rfl)); try simp only [Act.put, zqA, zqB, zqC])
      refine wpPl_nil ?_
      go_wp2_with (first | (go_at_call 110; (with_reducible refine (right_rt _ _ _ (by assumption)).mono ?_); rintro e w' ⟨rfl, hbr⟩; obtain ⟨osr, dr, rfl⟩ := hbr.more) | (go_at_call 119; (with_reducible refine (hsz _).mono ?_); rintro e w' ⟨rfl, rfl⟩) | (go_at_call 120; (with_reducible refine (hpw _).mono ?_); rintro e w' ⟨rfl, rfl⟩) | (go_at_call 121; (with_reducible refine (htr _).mono ?_); rintro e w' ⟨rfl, hbt⟩; obtain ⟨ost, dt, rfl⟩ := hbt.more))
      exact bodyPost_ret (v := NV m' e') (by simp [results, Tryz.results59, go_sem]) rfl ⟨rfl, by repeat (first | exact Ext.refl _ | apply Ext.drew | apply Ext.alloc | apply Ext.more_)⟩
    · rw [if_neg hneg] at hfl
      subst hfl
      rw [decide_eq_false hneg] at htr
      clear hN hr0 hm0 h
      go_enter Tryz.func59, Tryz.ntmps59
      go_wp2_with (first | (go_at_call 110; (with_reducible refine (right_rt _ _ _ (by assumption)).mono ?_); rintro e w' ⟨rfl, hbr⟩; obtain ⟨osr, dr, rfl⟩ := hbr.more) | (go_at_call 119; (with_reducible refine (hsz _).mono ?_); rintro e w' ⟨rfl, rfl⟩) | (go_at_call 120; (with_reducible refine (hpw _).mono ?_); rintro e w' ⟨rfl, rfl⟩) | (go_at_call 121; (with_reducible refine (htr _).mono ?_); rintro e w' ⟨rfl, hbt⟩; obtain ⟨ost, dt, rfl⟩ := hbt.more))
      refine wp_plan (S := Ext _) [(0, 0), (1, 0), (2, 0), (3, 0), (4, 0), (5, 0), (6, 0), (7, 0)] [] (by kernel_rfl) (by kernel_rfl) (by kernel_rfl) (fun _ _ d _ _ h => by cases d <;> exact h) (Ext.drew (Ext.refl _)) ?_
      iterate 8 ((refine wpPl_read (v := ?_) rfl ?_ (fun _ h => ?_) ?_; rotate_left 1; rfl; (obtain ⟨_, _, rfl⟩ := h.more; go_simp; try rfl)); try simp only [Act.put, zqA, zqB, zqC])
      refine wpPl_nil ?_
      go_wp2_with (first | (go_at_call 110; (with_reducible refine (right_rt _ _ _ (by assumption)).mono ?_); rintro e w' ⟨rfl, hbr⟩; obtain ⟨osr, dr, rfl⟩ := hbr.more) | (go_at_call 119; (with_reducible refine (hsz _).mono ?_); rintro e w' ⟨rfl, rfl⟩) | (go_at_call 120; (with_reducible refine (hpw _).mono ?_); rintro e w' ⟨rfl, rfl⟩) | (go_at_call 121; (with_reducible refine (htr _).mono ?_); rintro e w' ⟨rfl, hbt⟩; obtain ⟨ost, dt, rfl⟩ := hbt.more))
      exact bodyPost_ret (v := NV m' e') (by simp [results, Tryz.results59, go_sem]) rfl ⟨rfl, by repeat (first | exact Ext.refl _ | apply Ext.drew | apply Ext.alloc | apply Ext.more_)⟩
  · have hT1 : T 15 ≤ T k := T_mono (by omega)
    have hq0 : m.natAbs / T k = 0 := Nat.div_eq_of_lt (by omega)
    rw [hq0] at hfl
    have hpw : True := trivial
    generalize hN : m.natAbs = N at *
    have g1 : ((N : Int) != 0) = true := by simp; omega
    have g2 : (N != 0) = true := by simp; omega
    by_cases hneg : m < 0
    · rw [if_pos hneg] at hfl
      subst hfl
      rw [decide_eq_true hneg, show ((0 + 1 : Nat) : Int) = 1 from rfl] at htr
      clear hN hr0 hm0 h hT1 hq0 hdle
      go_enter Tryz.func59, Tryz.ntmps59
      go_wp2_with (first | (go_at_call 110; (with_reducible refine (right_rt _ _ _ (by assumption)).mono ?_); rintro e w' ⟨rfl, hbr⟩; obtain ⟨osr, dr, rfl⟩ := hbr.more) | (go_at_call 119; (with_reducible refine (hsz _).mono ?_); rintro e w' ⟨rfl, rfl⟩) | (go_at_call 120; (with_reducible refine (hpw _).mono ?_); rintro e w' ⟨rfl, rfl⟩) | (go_at_call 121; (with_reducible refine (htr _).mono ?_); rintro e w' ⟨rfl, hbt⟩; obtain ⟨ost, dt, rfl⟩ := hbt.more))
      exact bodyPost_ret (v := NV m' e') (by simp [results, Tryz.results59, go_sem]) rfl ⟨rfl, by repeat (first | exact Ext.refl _ | apply Ext.drew | apply Ext.alloc | apply Ext.more_)⟩
    · rw [if_neg hneg] at hfl
      subst hfl
      rw [decide_eq_false hneg, show ((0 : Nat) : Int) = 0 from rfl] at htr
      clear hN hr0 hm0 h hT1 hq0 hdle
      go_enter Tryz.func59, Tryz.ntmps59
      go_wp2_with (first | (go_at_call 110; (with_reducible refine (right_rt _ _ _ (by assumption)).mono ?_); rintro e w' ⟨rfl, hbr⟩; obtain ⟨osr, dr, rfl⟩ := hbr.more) | (go_at_call 119; (with_reducible refine (hsz _).mono ?_); rintro e w' ⟨rfl, rfl⟩) | (go_at_call 120; (with_reducible refine (hpw _).mono ?_); rintro e w' ⟨rfl, rfl⟩) | (go_at_call 121; (with_reducible refine (htr _).mono ?_); rintro e w' ⟨rfl, hbt⟩; obtain ⟨ost, dt, rfl⟩ := hbt.more))
      exact bodyPost_ret (v := NV m' e') (by simp [results, Tryz.results59, go_sem]) rfl ⟨rfl, by repeat (first | exact Ext.refl _ | apply Ext.drew | apply Ext.alloc | apply Ext.more_)⟩
set_option maxHeartbeats 2000000 in
theorem floor_any (m ex : Int) (w : World) (hm : I64 m) :
    Calls Tryz.prog 59 #[NV m ex] w fun e w' => e = .returned (NV (floorS m ex).1 (floorS m ex).2) ∧ Ext w w' := by
  by_cases h : Rt m ex
  · have r1 := rtB_yes h
    by_cases h1 : 0 ≤ ex
    · have hs : floorS m ex = (m, ex) := by unfold floorS; rw [if_neg (fun hh => hh h), if_pos h1]
      rw [hs]
      clear h hs
      go_enter Tryz.func59, Tryz.ntmps59
      go_wp2_with (go_at_call 110; (with_reducible refine (right_rt _ _ _ (by assumption)).mono ?_); rintro e w' ⟨rfl, hbr⟩; obtain ⟨osr, dr, rfl⟩ := hbr.more)
      exact bodyPost_ret (v := NV m ex) (by simp [results, Tryz.results59, go_sem]) rfl ⟨rfl, by repeat (first | exact Ext.refl _ | apply Ext.drew | apply Ext.alloc | apply Ext.more_)⟩
    · have hs : floorS m ex = (sg (decide (m < 0)) (trim (floorN m (-ex).toNat) 0).1, (trim (floorN m (-ex).toNat) 0).2) := by unfold floorS; rw [if_neg (fun hh => hh h), if_neg h1]
      rw [hs]
      exact floor_yes m ex w h (by omega)
  · have r1 := rtB_no h
    have hs : floorS m ex = (0, 0) := by unfold floorS; rw [if_pos h]
    rw [hs]
    clear h hs
    go_enter Tryz.func59, Tryz.ntmps59
    go_wp2_with (go_at_call 110; (with_reducible refine (right_rt _ _ _ (by assumption)).mono ?_); rintro e w' ⟨rfl, hbr⟩; obtain ⟨osr, dr, rfl⟩ := hbr.more)
    exact bodyPost_ret (v := NV 0 0) (by simp [results, Tryz.results59, go_sem]) rfl ⟨rfl, by repeat (first | exact Ext.refl _ | apply Ext.drew | apply Ext.alloc | apply Ext.more_)⟩
end Go.Proofs.YtkcoikelcmpceaaGreatDoor
namespace Go.Proofs.YtkcoikelcmpceaaGreatDoor
open Go.RowKit NM
theorem rnd_small {neg : Bool} {N : Nat} {E : Int} (h : nd N ≤ 15) (hE : -40 ≤ E) : rnd neg N false E = fin neg N E := by
  rw [rnd_fin]
  unfold n2 n1 e2
  rw [show nd N - 15 = 0 by omega, cutN_zero, show (-40 - (E + ((0 : Nat) : Int))).toNat = 0 by omega, cutN_zero, show max (E + ((0 : Nat) : Int)) (-40) = E by omega]
end Go.Proofs.YtkcoikelcmpceaaGreatDoor
namespace Go.Proofs.YtkcoikelcmpceaaGreatDoor
open Go.RowKit NM
theorem neg_yes {m e : Int} (h : Rt m e) : negM m e = -m ∧ zeroE m e = e := by unfold negM zeroE; rw [if_pos h, if_pos h]; exact ⟨rfl, rfl⟩
theorem Rt_neg {m e : Int} (h : Rt m e) : Rt (-m) e := by
  have := neg_rt (m := m) (e := e)
  rw [(neg_yes h).1, (neg_yes h).2] at this
  exact this
def subS (ma ea mb eb : Int) : Option (Int × Int) := if Rt ma ea ∧ Rt mb eb then rndI (sumI ma ea (-mb) eb) (min ea eb) else none
/-- Which is the greater: P1.3. -/
def cmpS (ma ea mb eb : Int) : Int := if Rt ma ea ∧ Rt mb eb then (sumI ma ea (-mb) eb).sign else 0
end Go.Proofs.YtkcoikelcmpceaaGreatDoor
namespace Go.Proofs.YtkcoikelcmpceaaGreatDoor
open Go.RowKit NM
theorem Ext.trans_below {W w3 w4 : World} {base : Nat} (h : Ext W w3) (hb : Below base w3 w4) (hs : W.heap.size ≤ base) : Ext W w4 := Below.trans h (Below.mono hb hs)
theorem pad_val {neg : Bool} {n : Nat} {D : List Nat} : valI (pad neg n D.length D) = sg neg (val D) := by
  unfold pad
  have h0 : ∀ (k : Nat) (l : List Int), valI (List.replicate k 0 ++ l) = valI l := by
    intro k l
    induction k with
    | zero => rfl
    | succ k ih => rw [List.replicate_succ, List.cons_append, valI_cons, ih]; omega
  rw [h0, Nat.sub_self, List.replicate_zero, List.append_nil, List.take_length]
  cases neg with
  | false => exact valI_nat D
  | true =>
    have : (D.map fun d => sg true d) = (D.map fun d : Nat => (d : Int)).map fun x => -x := by rw [List.map_map]; rfl
    rw [this, valI_neg, valI_nat]; rfl
theorem pad_sign {neg : Bool} {n i : Nat} {D : List Nat} (hD : AllD D) : ∀ x ∈ pad neg n i D, if neg then -9 ≤ x ∧ x ≤ 0 else 0 ≤ x ∧ x ≤ 9 := by
  intro x hx
  unfold pad at hx
  rcases List.mem_append.1 hx with h | h
  · rw [List.eq_of_mem_replicate h]; split <;> omega
  · rcases List.mem_append.1 h with h | h
    · obtain ⟨d, hd, rfl⟩ := List.mem_map.1 h
      have := hD d (List.mem_of_mem_take hd)
      cases neg <;> simp [sg] <;> omega
    · rw [List.eq_of_mem_replicate h]; split <;> omega
/-- Both numbers' digits, added up place by place. -/
def both (na nb : Bool) (n : Nat) (X Y : List Nat) : List Int := List.zipWith (· + ·) (List.zipWith (· + ·) (List.replicate n 0) (pad na n X.length X)) (pad nb n Y.length Y)
theorem mem_zip {a b : List Int} {z : Int} (h : z ∈ List.zipWith (· + ·) a b) : ∃ x ∈ a, ∃ y ∈ b, z = x + y := by
  obtain ⟨j, hj⟩ := List.getElem?_of_mem h
  rw [List.getElem?_zipWith] at hj
  cases ha : a[j]? with
  | none => rw [ha] at hj; simp at hj
  | some x =>
    cases hb : b[j]? with
    | none => rw [ha, hb] at hj; simp at hj
    | some y =>
      rw [ha, hb] at hj
      simp at hj
      exact ⟨x, List.mem_of_getElem? ha, y, List.mem_of_getElem? hb, hj.symm⟩
theorem both_mem {na nb : Bool} {n : Nat} {X Y : List Nat} {z : Int} (h : z ∈ both na nb n X Y) : ∃ x ∈ pad na n X.length X, ∃ y ∈ pad nb n Y.length Y, z = x + y := by
  obtain ⟨u, hu, y, hy, rfl⟩ := mem_zip h
  obtain ⟨v, hv, x, hx, rfl⟩ := mem_zip hu
  rw [List.eq_of_mem_replicate hv]
  exact ⟨x, hx, y, hy, by omega⟩
theorem both_ok {na nb : Bool} {n : Nat} {X Y : List Nat} (hX : AllD X) (hY : AllD Y) : DOk (both na nb n X Y) := by
  cases na <;> cases nb
  · refine Or.inr (Or.inl fun z hz => ?_)
    obtain ⟨x, hx, y, hy, rfl⟩ := both_mem hz
    have h1 := pad_sign hX x hx
    have h2 := pad_sign hY y hy
    simp at h1 h2; omega
  · refine Or.inl fun z hz => ?_
    obtain ⟨x, hx, y, hy, rfl⟩ := both_mem hz
    have h1 := pad_sign hX x hx
    have h2 := pad_sign hY y hy
    simp at h1 h2; omega
  · refine Or.inl fun z hz => ?_
    obtain ⟨x, hx, y, hy, rfl⟩ := both_mem hz
    have h1 := pad_sign hX x hx
    have h2 := pad_sign hY y hy
    simp at h1 h2; omega
  · refine Or.inr (Or.inr fun z hz => ?_)
    obtain ⟨x, hx, y, hy, rfl⟩ := both_mem hz
    have h1 := pad_sign hX x hx
    have h2 := pad_sign hY y hy
    simp at h1 h2; omega
theorem both_length {na nb : Bool} {n : Nat} {X Y : List Nat} (hX : X.length ≤ n) (hY : Y.length ≤ n) : (both na nb n X Y).length = n := by
  unfold both
  rw [List.length_zipWith, List.length_zipWith, pad_length hX (Nat.le_refl _), pad_length hY (Nat.le_refl _), List.length_replicate]; omega
theorem both_val {na nb : Bool} {n : Nat} {X Y : List Nat} (hX : X.length ≤ n) (hY : Y.length ≤ n) : valI (both na nb n X Y) = sg na (val X) + sg nb (val Y) := by
  unfold both
  rw [valI_zip _ _ (by rw [List.length_zipWith, pad_length hX (Nat.le_refl _), pad_length hY (Nat.le_refl _), List.length_replicate]; omega), valI_zip _ _ (by rw [pad_length hX (Nat.le_refl _), List.length_replicate]), valI_rep0, pad_val, pad_val]; omega
theorem both_lt {na nb : Bool} {n : Nat} {X Y : List Nat} (hX : AllD X) (hY : AllD Y) (h : max X.length Y.length + 1 = n) : (valI (both na nb n X Y)).natAbs < T n := by
  rw [both_val (by omega) (by omega)]
  have h1 := Nat.lt_of_lt_of_le (val_lt hX) (T_mono (show X.length ≤ n - 1 by omega))
  have h2 := Nat.lt_of_lt_of_le (val_lt hY) (T_mono (show Y.length ≤ n - 1 by omega))
  have h3 : T n = 10 * T (n - 1) := by rw [← T_succ]; congr 1; omega
  rw [h3]
  generalize T (n - 1) = t at *
  cases na <;> cases nb <;> simp [sg] <;> omega
theorem sprd_val (m : Int) (k : Nat) : val (sprd m k) = m.natAbs * T k := by unfold sprd; rw [val_zeros, dig0_val]
theorem sprd_all (m : Int) (k : Nat) : AllD (sprd m k) := (dig0_all _).append (AllD.rep _ _ (by omega))
set_option maxHeartbeats 2000000 in
theorem add_no (ma ea mb eb : Int) (w : World) (hma : I64 ma) (hmb : I64 mb) (h : ¬ (Rt ma ea ∧ Rt mb eb)) :
    Calls Tryz.prog 106 #[NV ma ea, NV mb eb] w fun e w' => e = .returned (rnV none) ∧ Ext w w' := by
  by_cases h1 : Rt ma ea
  · have r1 := rtB_yes h1
    have r2 := rtB_no (fun h2 => h ⟨h1, h2⟩)
    clear h h1
    go_enter Tryz.func106, Tryz.ntmps106
    go_wp2_with (go_at_call 110; (with_reducible refine (right_rt _ _ _ (by assumption)).mono ?_); rintro e w' ⟨rfl, hbr⟩; obtain ⟨osr, dr, rfl⟩ := hbr.more)
    exact bodyPost_ret (v := .tuple #[NV 0 0, .bool false]) (by simp [results, Tryz.results106, go_sem]) rfl ⟨rfl, by with_reducible repeat (first | exact Ext.refl _ | apply Ext.drew | apply Ext.alloc | apply Ext.more_)⟩
  · have r1 := rtB_no h1
    clear h h1
    go_enter Tryz.func106, Tryz.ntmps106
    go_wp2_with (go_at_call 110; (with_reducible refine (right_rt _ _ _ (by assumption)).mono ?_); rintro e w' ⟨rfl, hbr⟩; obtain ⟨osr, dr, rfl⟩ := hbr.more)
    exact bodyPost_ret (v := .tuple #[NV 0 0, .bool false]) (by simp [results, Tryz.results106, go_sem]) rfl ⟨rfl, by with_reducible repeat (first | exact Ext.refl _ | apply Ext.drew | apply Ext.alloc | apply Ext.more_)⟩
set_option maxHeartbeats 4000000 in
theorem add_yes (ma ea mb eb : Int) (w : World) (htab : Tab w) (h1 : Rt ma ea) (h2 : Rt mb eb) :
    Calls Tryz.prog 106 #[NV ma ea, NV mb eb] w fun e w' => e = .returned (rnV (rndI (sumI ma ea mb eb) (min ea eb))) ∧ Ext w w' := by
  obtain ⟨b1, b2, b3⟩ := Rt_bd h1
  obtain ⟨b4, b5, b6⟩ := Rt_bd h2
  have hma : I64 ma := by unfold I64; omega
  have hmb : I64 mb := by unfold I64; omega
  have r1 := rtB_yes h1
  have r2 := rtB_yes h2
  have hT15 : T 15 = 1000000000000000 := by decide
  have n1 : nd ma.natAbs ≤ 15 := (nd_le_iff _ _).2 (by omega)
  have n2 : nd mb.natAbs ≤ 15 := (nd_le_iff _ _).2 (by omega)
  have hsp1 := fun W hW => spread_any ma ea (min ea eb) (ea - min ea eb).toNat W hW hma (by omega) (by omega)
  have hsp2 := fun W hW => spread_any mb eb (min ea eb) (eb - min ea eb).toNat W hW hmb (by omega) (by omega)
  have hlx : (sprd ma (ea - min ea eb).toNat).length ≤ 200 := by unfold sprd; rw [List.length_append, dig0_length, List.length_replicate]; omega
  have hly : (sprd mb (eb - min ea eb).toNat).length ≤ 200 := by unfold sprd; rw [List.length_append, dig0_length, List.length_replicate]; omega
  have hax := sprd_all ma (ea - min ea eb).toNat
  have hay := sprd_all mb (eb - min ea eb).toNat
  have hsum : sumI ma ea mb eb = sg (decide (ma < 0)) (val (sprd ma (ea - min ea eb).toNat)) + sg (decide (mb < 0)) (val (sprd mb (eb - min ea eb).toNat)) := by
    rw [sprd_val, sprd_val, sg_mul_nat, sg_mul_nat, sg_nat, sg_nat]; rfl
  rw [hsum]
  generalize sprd ma (ea - min ea eb).toNat = X at *
  generalize sprd mb (eb - min ea eb).toNat = Y at *
  have hlen := both_length (na := decide (ma < 0)) (nb := decide (mb < 0)) (n := max X.length Y.length + 1) (X := X) (Y := Y) (by omega) (by omega)
  have hok := both_ok (na := decide (ma < 0)) (nb := decide (mb < 0)) (n := max X.length Y.length + 1) hax hay
  have hval := both_val (na := decide (ma < 0)) (nb := decide (mb < 0)) (n := max X.length Y.length + 1) (X := X) (Y := Y) (by omega) (by omega)
  have hlt := both_lt (na := decide (ma < 0)) (nb := decide (mb < 0)) hax hay rfl
  rw [← hval]
  generalize hRR : rndI (valI (both (decide (ma < 0)) (decide (mb < 0)) (max X.length Y.length + 1) X Y)) (min ea eb) = R
  have HRR := Lib.hid hRR
  have HLEN := Lib.hid hlen
  have HOK := Lib.hid hok
  have HLT := Lib.hid hlt
  have HT := Lib.hid htab
  have HAX := Lib.hid hax
  have HAY := Lib.hid hay
  clear h1 h2 hRR hlen hok hlt hval hsum htab hax hay n1 n2 hT15
  go_enter Tryz.func106, Tryz.ntmps106
  go_wp2_with (go_at_call 110; (with_reducible refine (right_rt _ _ _ (by assumption)).mono ?_); rintro e w' ⟨rfl, hbr⟩; obtain ⟨osr, dr, rfl⟩ := hbr.more)
  refine wp_plan (S := Ext _) [(0, 0), (1, 0), (3, 0), (4, 0), (2, 1), (5, 1), (6, 0), (7, 0)] [] (by kernel_rfl) (by kernel_rfl) (by kernel_rfl) (fun _ _ d _ _ h => by cases d <;> exact h) (Ext.drew (Ext.refl _)) ?_
  iterate 4 ((refine wpPl_read (v := ?_) rfl ?_ (fun _ h => ?_) ?_; rotate_left 1; rfl; (obtain ⟨_, _, rfl⟩ := h.more; go_simp; try rfl)); try simp only [Act.put, zqA, zqB, zqC])
  (refine wpPl_eff rfl ?_ (fun K hK => ?_); rfl; go_simp; (go_at_call 152; (with_reducible refine (hsp1 _ (HT.out.ext (by with_reducible repeat (first | exact Ext.refl _ | apply Ext.drew | apply Ext.alloc | apply Ext.more_)))).mono ?_); rintro e w' ⟨v1, rfl, ho1, hx1⟩; obtain ⟨os1, d1, rfl⟩ := hx1.more; obtain ⟨A1, p1, rfl, hg1, _⟩ := Dg.of_own (l := X) (k := .u8) ho1; clear ho1); refine hK _ _ ?_ ?_; (repeat (first | (with_reducible (first | exact Ext.refl _ | exact ext_d _ _ _ _ | exact ext_app _ _ _ _ _ | exact ext_app2 _ _ _ _ _ _ | exact ext_app3 _ _ _ _ _ _ _ | exact ext_app4 _ _ _ _ _ _ _ _ | exact ext_app5 _ _ _ _ _ _ _ _ _)) | ((with_reducible refine ext_suffix ⟨_, ?_⟩); (try simp only [Array.append_assoc]); rfl) | (with_reducible (first | apply Ext.drew | apply Ext.alloc | apply Ext.more_)) | apply Ext.drew | apply Ext.alloc | apply Ext.more_)))
  try simp only [Act.put, zqA, zqB, zqC]
  (refine wpPl_eff rfl ?_ (fun K hK => ?_); rfl; go_simp; (go_at_call 152; (with_reducible refine (hsp2 _ (HT.out.ext (by with_reducible repeat (first | exact Ext.refl _ | apply Ext.drew | apply Ext.alloc | apply Ext.more_)))).mono ?_); rintro e w' ⟨v2, rfl, ho2, hx2⟩; obtain ⟨os2, d2, rfl⟩ := hx2.more; obtain ⟨A2, p2, rfl, hg2, _⟩ := Dg.of_own (l := Y) (k := .u8) ho2; clear ho2); refine hK _ _ ?_ ?_; (repeat (first | (with_reducible (first | exact Ext.refl _ | exact ext_d _ _ _ _ | exact ext_app _ _ _ _ _ | exact ext_app2 _ _ _ _ _ _ | exact ext_app3 _ _ _ _ _ _ _ | exact ext_app4 _ _ _ _ _ _ _ _ | exact ext_app5 _ _ _ _ _ _ _ _ _)) | ((with_reducible refine ext_suffix ⟨_, ?_⟩); (try simp only [Array.append_assoc]); rfl) | (with_reducible (first | apply Ext.drew | apply Ext.alloc | apply Ext.more_)) | apply Ext.drew | apply Ext.alloc | apply Ext.more_)))
  try simp only [Act.put, zqA, zqB, zqC]
  iterate 2 ((refine wpPl_read (v := ?_) rfl ?_ (fun _ h => ?_) ?_; rotate_left 1; rfl; (obtain ⟨_, _, rfl⟩ := h.more; go_simp; try rfl)); try simp only [Act.put, zqA, zqB, zqC])
  refine wpPl_nil ?_
  go_upto_region 5 with fail
  refine wp_world fun W hW => ?_
  have c0 : W.cell? ⟨w.heap.size, 0, none⟩ = some (.int .i64 ma) := by rw [hW]; go_simp
  have c2 : W.cell? ⟨w.heap.size + 1, 0, none⟩ = some (.int .i64 mb) := by rw [hW]; go_simp
  have c4 : W.cell? ⟨w.heap.size + 1 + 1, 0, none⟩ = some (.int .i64 0) := by rw [hW]; go_simp
  have c5 : W.cell? ⟨w.heap.size + 1 + 1, 1, none⟩ = some (.int .i64 0) := by rw [hW]; go_simp
  have f4 : W.frozen? ⟨w.heap.size + 1 + 1, 0, none⟩ = false := by rw [hW]; go_simp
  have f5 : W.frozen? ⟨w.heap.size + 1 + 1, 1, none⟩ = false := by rw [hW]; go_simp
  have hz : w.heap.size + 1 + 1 < W.heap.size := by rw [hW]; simp; try omega
  have hz1 : w.heap.size + 1 < W.heap.size := by omega
  have hz0 : w.heap.size < W.heap.size := by omega
  have hxW : Ext w W := by rw [hW]; exact by with_reducible repeat (first | exact Ext.refl _ | apply Ext.drew | apply Ext.alloc | apply Ext.more_)
  have HRX : Hid (Rd 0 W A1 (b8 X) ∧ ∀ p, A1 = some p → X ≠ [] → p.block < W.heap.size) := by
    have h3 : Rd 0 W A1 (b8 X) := by rw [hW]; exact Rd.ext (hg1.rd.mono (Nat.zero_le _)) (by (try simp only [more_more, more_drew, drew_more, Array.append_assoc]); repeat (first | (with_reducible (first | exact Ext.refl _ | exact ext_d _ _ _ _ | exact ext_app _ _ _ _ _ | exact ext_app2 _ _ _ _ _ _ | exact ext_app3 _ _ _ _ _ _ _)) | ((with_reducible refine ext_suffix ⟨_, ?_⟩); (try simp only [Array.append_assoc]); rfl) | (with_reducible (first | apply Ext.drew | apply Ext.alloc | apply Ext.more_))))
    refine ⟨h3, fun p hp hne => ?_⟩
    obtain ⟨x, X', rfl⟩ := List.exists_cons_of_ne_nil hne
    obtain ⟨b', o', hA, _, hc⟩ := h3 0 _ rfl
    rw [hp] at hA
    obtain rfl : p = ⟨b', o', none⟩ := Option.some.inj hA
    exact lt_of_cell hc
  have HRY : Hid (Rd 0 W A2 (b8 Y) ∧ ∀ p, A2 = some p → Y ≠ [] → p.block < W.heap.size) := by
    have h3 : Rd 0 W A2 (b8 Y) := by rw [hW]; exact Rd.ext (hg2.rd.mono (Nat.zero_le _)) (by (try simp only [more_more, more_drew, drew_more, Array.append_assoc]); repeat (first | (with_reducible (first | exact Ext.refl _ | exact ext_d _ _ _ _ | exact ext_app _ _ _ _ _ | exact ext_app2 _ _ _ _ _ _ | exact ext_app3 _ _ _ _ _ _ _)) | ((with_reducible refine ext_suffix ⟨_, ?_⟩); (try simp only [Array.append_assoc]); rfl) | (with_reducible (first | apply Ext.drew | apply Ext.alloc | apply Ext.more_))))
    refine ⟨h3, fun p hp hne => ?_⟩
    obtain ⟨x, X', rfl⟩ := List.exists_cons_of_ne_nil hne
    obtain ⟨b', o', hA, _, hc⟩ := h3 0 _ rfl
    rw [hp] at hA
    obtain rfl : p = ⟨b', o', none⟩ := Option.some.inj hA
    exact lt_of_cell hc
  clear hW hg1 hg2 hx1 hx2 hsp1 hsp2
  have hmk := make_int (max X.length Y.length + 1) (by omega)
  rw [show (((max X.length Y.length + 1 : Nat)) : Int) = max (X.length : Int) (Y.length : Int) + 1 by omega] at hmk
  obtain ⟨n, hn⟩ : ∃ n, n = max X.length Y.length + 1 := ⟨_, rfl⟩
  have hnb : n ≤ 1000 := by omega
  have hnx : X.length ≤ n := by omega
  have hny : Y.length ≤ n := by omega
  rw [← hn] at hmk HRR HLEN HOK HLT
  have HI0 : Hid (IRow (W.alloc (.cells (madeCells #[.int .i64 0] n) 3)) W.heap.size (List.replicate n 0)) := by
    show _ = _
    have hC : madeCells #[.int .i64 0] n = ((List.replicate n (0 : Int)).map (Value.int .i64)).toArray := by
      apply Array.ext'
      rw [toList_madeCells_one]
      simp
    rw [hC]
    exact Array.getElem?_push_size
  have hga1 := fun W' (hx : Ext W W') (hi : IRow W' W.heap.size (List.replicate n 0)) => gather_any W.heap.size n (List.replicate n 0) A1 p1 X (decide (ma < 0)) W' (by simp) hi (HRX.out.1.ext hx) (fun p hp h0 => by have := HRX.out.2 p hp h0; omega) hnx (by omega) HAX.out (fun x hx => by rw [List.eq_of_mem_replicate hx]; omega)
  have hga2 := fun W' (hx : Ext W W') (hi : IRow W' W.heap.size (List.zipWith (· + ·) (List.replicate n 0) (pad (decide (ma < 0)) n X.length X))) => gather_any W.heap.size n _ A2 p2 Y (decide (mb < 0)) W' (by rw [List.length_zipWith, pad_length hnx (Nat.le_refl _), List.length_replicate]; omega) hi (HRY.out.1.ext hx) (fun p hp h0 => by have := HRY.out.2 p hp h0; omega) hny (by omega) HAY.out (fun x hx => by
    obtain ⟨u, hu, v, hv, rfl⟩ := mem_zip hx
    rw [List.eq_of_mem_replicate hu]
    have := pad_all HAX.out v hv
    omega)
  have hse := fun W' (hi : IRow W' W.heap.size (both (decide (ma < 0)) (decide (mb < 0)) n X Y)) => settle_any W.heap.size n _ W' HLEN.out hi HOK.out (by omega) HLT.out
  have hx0 : Ext W (W.alloc (.cells (madeCells #[.int .i64 0] n) 3)) := (Ext.refl _).alloc _
  clear hn
  go_upto_region 7 with (go_at_call 153; (with_reducible refine (hga1 _ hx0 HI0.out).mono ?_); rintro e w1 ⟨rfl, hi1, ho1⟩; have hx1 := ho1.ext hx0 (Nat.le_refl _))
  have c2' := hx1.cell_some c2
  go_upto_region 8 with (go_at_call 153; (with_reducible refine (hga2 _ hx1 hi1).mono ?_); rintro e w2 ⟨rfl, hi2, ho2⟩; have hx2 := ho2.ext hx1 (Nat.le_refl _))
  have hse2 := hse w2 hi2
  clear hse hga1 hga2 hi1 hi2 HLEN HOK HLT HRX HRY HI0 hmk ho1 ho2 c2'
  generalize valI (both (decide (ma < 0)) (decide (mb < 0)) n X Y) = V at *
  go_upto_region 9 with (go_at_call 154; (with_reducible refine hse2.mono ?_); rintro e w3 ⟨rfl, ⟨D, hdg, hdl, hda, hdv⟩, hx3⟩)
  have hrd := round_any w2.heap.size (decide (V < 0)) (some ⟨w2.heap.size, 0, none⟩) n D (min ea eb) w3 hdg hda (by omega) hx3.size (by omega)
  rw [hdl, hdv, show rnd (decide (V < 0)) V.natAbs false (min ea eb) = R from HRR.out] at hrd
  clear hdg hda hdv hdl HRR hse2
  go_wp2_with (go_at_call 150; (with_reducible refine hrd.mono ?_); rintro e w4 ⟨rfl, hb4⟩; have hx4 : Ext W w4 := (hx2.trans hx3).trans_below hb4 hx2.size; obtain ⟨os4, d4, rfl⟩ := hx4.more)
  exact bodyPost_ret (v := rnV R) (by simp [results, Tryz.results106, go_sem, c4, c5, hz]) rfl ⟨rfl, ((hxW.set _ (by show w.heap.size ≤ w.heap.size + 1 + 1; omega)).set _ (by show w.heap.size ≤ w.heap.size + 1 + 1; omega)).more_ _ _⟩
theorem add_any (ma ea mb eb : Int) (w : World) (htab : Tab w) (hma : I64 ma) (hmb : I64 mb) :
    Calls Tryz.prog 106 #[NV ma ea, NV mb eb] w fun e w' => e = .returned (rnV (addS ma ea mb eb)) ∧ Ext w w' := by
  unfold addS
  split
  · rename_i h; exact add_yes ma ea mb eb w htab h.1 h.2
  · rename_i h; exact add_no ma ea mb eb w hma hmb h
set_option maxHeartbeats 2000000 in
theorem sub_any (ma ea mb eb : Int) (w : World) (htab : Tab w) (hma : I64 ma) (hmb : I64 mb) :
    Calls Tryz.prog 126 #[NV ma ea, NV mb eb] w fun e w' => e = .returned (rnV (subS ma ea mb eb)) ∧ Ext w w' := by
  by_cases h1 : Rt ma ea
  · have r1 := rtB_yes h1
    by_cases h2 : Rt mb eb
    · have r2 := rtB_yes h2
      have hb := Rt_bd h2
      have hng := fun W => neg_any mb eb W hmb
      rw [(neg_yes h2).1, (neg_yes h2).2] at hng
      have had := fun W hW => add_any ma ea (-mb) eb W hW hma (by unfold I64; omega)
      have hs : addS ma ea (-mb) eb = subS ma ea mb eb := by unfold addS subS; rw [if_pos ⟨h1, Rt_neg h2⟩, if_pos ⟨h1, h2⟩]
      rw [hs] at had
      generalize subS ma ea mb eb = R at *
      have HT := Lib.hid htab
      clear h1 h2 hs htab
      go_enter Tryz.func126, Tryz.ntmps126
      go_wp2_with (go_at_call 110; (with_reducible refine (right_rt _ _ _ (by assumption)).mono ?_); rintro e w' ⟨rfl, hbr⟩; obtain ⟨osr, dr, rfl⟩ := hbr.more)
      refine wp_plan (S := Ext _) [(0, 0), (1, 0), (2, 1), (3, 1), (4, 0), (5, 0), (6, 2), (7, 2)] [6, 7] (by kernel_rfl) (by kernel_rfl) (by kernel_rfl) (fun _ _ d _ _ h => by cases d <;> exact h) (Ext.drew (Ext.refl _)) ?_
      iterate 2 ((refine wpPl_read (v := ?_) rfl ?_ (fun _ h => ?_) ?_; rotate_left 1; rfl; (obtain ⟨_, _, rfl⟩ := h.more; go_simp; try rfl)); try simp only [Act.put, zqA, zqB, zqC])
      (refine wpPl_eff rfl ?_ (fun K hK => ?_); rfl; go_simp; (go_at_call 118; (with_reducible refine (hng _).mono ?_); rintro e w' ⟨rfl, hx⟩; obtain ⟨os4, d4, rfl⟩ := hx.more); refine hK _ _ ?_ ?_; (repeat (first | (with_reducible (first | exact Ext.refl _ | exact ext_d _ _ _ _ | exact ext_app _ _ _ _ _ | exact ext_app2 _ _ _ _ _ _ | exact ext_app3 _ _ _ _ _ _ _ | exact ext_app4 _ _ _ _ _ _ _ _ | exact ext_app5 _ _ _ _ _ _ _ _ _)) | ((with_reducible refine ext_suffix ⟨_, ?_⟩); (try simp only [Array.append_assoc]); rfl) | (with_reducible (first | apply Ext.drew | apply Ext.alloc | apply Ext.more_)) | apply Ext.drew | apply Ext.alloc | apply Ext.more_)))
      try simp only [Act.put, zqA, zqB, zqC]
      (refine wpPl_eff rfl ?_ (fun K hK => ?_); rfl; go_simp; (go_at_call 106; (with_reducible refine (had _ (HT.out.ext (by with_reducible repeat (first | exact Ext.refl _ | apply Ext.drew | apply Ext.alloc | apply Ext.more_)))).mono ?_); rintro e w' ⟨rfl, hx⟩; obtain ⟨os5, d5, rfl⟩ := hx.more); refine hK _ _ ?_ ?_; (repeat (first | (with_reducible (first | exact Ext.refl _ | exact ext_d _ _ _ _ | exact ext_app _ _ _ _ _ | exact ext_app2 _ _ _ _ _ _ | exact ext_app3 _ _ _ _ _ _ _ | exact ext_app4 _ _ _ _ _ _ _ _ | exact ext_app5 _ _ _ _ _ _ _ _ _)) | ((with_reducible refine ext_suffix ⟨_, ?_⟩); (try simp only [Array.append_assoc]); rfl) | (with_reducible (first | apply Ext.drew | apply Ext.alloc | apply Ext.more_)) | apply Ext.drew | apply Ext.alloc | apply Ext.more_)))
      try simp only [Act.put, zqA, zqB, zqC]
      iterate 2 ((refine wpPl_read (v := ?_) rfl ?_ (fun _ h => ?_) ?_; rotate_left 1; rfl; (obtain ⟨_, _, rfl⟩ := h.more; go_simp; try rfl)); try simp only [Act.put, zqA, zqB, zqC])
      (refine wpPl_tail rfl ?_ (fun K hK => ?_); rfl; go_simp; refine hK _ _ ?_)
      try simp only [Act.put]
      (refine wpPl_tail rfl ?_ (fun K hK => ?_); rfl; go_simp; refine hK _ _ ?_)
      try simp only [Act.put, zqA, zqB, zqC]
      refine wpPl_nil ?_
      go_wp2
      exact bodyPost_ret (v := rnV R) (by simp [results, Tryz.results126, go_sem]) rfl ⟨rfl, by with_reducible repeat (first | exact Ext.refl _ | apply Ext.drew | apply Ext.alloc | apply Ext.more_)⟩
    · have r2 := rtB_no h2
      have hs : subS ma ea mb eb = none := by unfold subS; rw [if_neg (fun h => h2 h.2)]
      rw [hs]
      clear h1 h2 hs
      go_enter Tryz.func126, Tryz.ntmps126
      go_wp2_with (go_at_call 110; (with_reducible refine (right_rt _ _ _ (by assumption)).mono ?_); rintro e w' ⟨rfl, hbr⟩; obtain ⟨osr, dr, rfl⟩ := hbr.more)
      exact bodyPost_ret (v := .tuple #[NV 0 0, .bool false]) (by simp [results, Tryz.results126, go_sem]) rfl ⟨rfl, by with_reducible repeat (first | exact Ext.refl _ | apply Ext.drew | apply Ext.alloc | apply Ext.more_)⟩
  · have r1 := rtB_no h1
    have hs : subS ma ea mb eb = none := by unfold subS; rw [if_neg (fun h => h1 h.1)]
    rw [hs]
    clear h1 hs
    go_enter Tryz.func126, Tryz.ntmps126
    go_wp2_with (go_at_call 110; (with_reducible refine (right_rt _ _ _ (by assumption)).mono ?_); rintro e w' ⟨rfl, hbr⟩; obtain ⟨osr, dr, rfl⟩ := hbr.more)
    exact bodyPost_ret (v := .tuple #[NV 0 0, .bool false]) (by simp [results, Tryz.results126, go_sem]) rfl ⟨rfl, by with_reducible repeat (first | exact Ext.refl _ | apply Ext.drew | apply Ext.alloc | apply Ext.more_)⟩
end Go.Proofs.YtkcoikelcmpceaaGreatDoor
namespace Go.Proofs.YtkcoikelcmpceaaGreatDoor
open Go.RowKit NM
theorem own_ext_ {w w' : World} {base : Nat} {ty : TypeId} {v : Value} {n : Nat} {xs : List Value} (h : w.ownsRow base ty 1 v n xs) (hx : Ext w w') : w'.ownsRow base ty 1 v n xs := by
  refine ⟨h.1, ?_⟩
  rcases h.2 with h2 | ⟨g, cap, cur, h3, h4, h5, h6⟩
  · exact Or.inl h2
  · exact Or.inr ⟨g, cap, cur, h3, h4, by rw [hx.block (lt_block h5)]; exact h5, h6⟩
theorem one_b8 (l : List Nat) : ∀ u ∈ b8 l, u.oneCell' = true := by
  intro u hu
  obtain ⟨x, _, rfl⟩ := List.mem_map.1 hu
  rfl
theorem mul_val {up lw : Nat} (h : lw < 1000000000000000) : val (dig0 up ++ (dig0 (1000000000000000 + lw)).drop 1) = up * 1000000000000000 + lw ∧ (dig0 (1000000000000000 + lw)).length = 16 ∧ AllD (dig0 up ++ (dig0 (1000000000000000 + lw)).drop 1) := by
  have hT15 : T 15 = 1000000000000000 := by decide
  have hT16 : T 16 = 10000000000000000 := by decide
  have hnd : nd (1000000000000000 + lw) = 16 := nd_eq (k := 15) (by omega) (by rw [show 15 + 1 = 16 from rfl]; omega)
  have hl : (dig0 (1000000000000000 + lw)).length = 16 := by rw [dig0_length, hnd]; rfl
  have ht := (take_val (dig0_all (1000000000000000 + lw)) 1).2
  rw [dig0_val, hl, hT15] at ht
  refine ⟨?_, hl, (dig0_all _).append ((dig0_all _).drop 1)⟩
  rw [val_append, dig0_val, ht, List.length_drop, hl, hT15]
  omega
set_option maxHeartbeats 2000000 in
theorem mul_no (ma ea mb eb : Int) (w : World) (hma : I64 ma) (hmb : I64 mb) (h : ¬ (Rt ma ea ∧ Rt mb eb)) :
    Calls Tryz.prog 125 #[NV ma ea, NV mb eb] w fun e w' => e = .returned (rnV none) ∧ Ext w w' := by
  by_cases h1 : Rt ma ea
  · have r1 := rtB_yes h1
    have r2 := rtB_no (fun h2 => h ⟨h1, h2⟩)
    clear h h1
    go_enter Tryz.func125, Tryz.ntmps125
    go_wp2_with (go_at_call 110; (with_reducible refine (right_rt _ _ _ (by assumption)).mono ?_); rintro e w' ⟨rfl, hbr⟩; obtain ⟨osr, dr, rfl⟩ := hbr.more)
    exact bodyPost_ret (v := .tuple #[NV 0 0, .bool false]) (by simp [results, Tryz.results125, go_sem]) rfl ⟨rfl, by with_reducible repeat (first | exact Ext.refl _ | apply Ext.drew | apply Ext.alloc | apply Ext.more_)⟩
  · have r1 := rtB_no h1
    clear h h1
    go_enter Tryz.func125, Tryz.ntmps125
    go_wp2_with (go_at_call 110; (with_reducible refine (right_rt _ _ _ (by assumption)).mono ?_); rintro e w' ⟨rfl, hbr⟩; obtain ⟨osr, dr, rfl⟩ := hbr.more)
    exact bodyPost_ret (v := .tuple #[NV 0 0, .bool false]) (by simp [results, Tryz.results125, go_sem]) rfl ⟨rfl, by with_reducible repeat (first | exact Ext.refl _ | apply Ext.drew | apply Ext.alloc | apply Ext.more_)⟩
theorem sg_ng (ma mb : Int) : sg (ngB ma mb) (ma.natAbs * mb.natAbs) = ma * mb := by
  unfold ngB
  have h := sg_nat ma
  have h' := sg_nat mb
  cases ha : decide (ma < 0) <;> cases hb : decide (mb < 0) <;> rw [ha] at h <;> rw [hb] at h' <;> simp only [sg] at * <;> (conv => rhs; rw [← h, ← h']) <;> simp [Int.neg_mul, Int.mul_neg]
set_option maxHeartbeats 4000000 in
theorem mul_yes (ma ea mb eb : Int) (w : World) (htab : Tab w) (h1 : Rt ma ea) (h2 : Rt mb eb) :
    Calls Tryz.prog 125 #[NV ma ea, NV mb eb] w fun e w' => e = .returned (rnV (rndI (ma * mb) (ea + eb))) ∧ Ext w w' := by
  obtain ⟨b1, b2, b3⟩ := Rt_bd h1
  obtain ⟨b4, b5, b6⟩ := Rt_bd h2
  have hma : I64 ma := by unfold I64; omega
  have hmb : I64 mb := by unfold I64; omega
  have r1 := rtB_yes h1
  have r2 := rtB_yes h2
  have hsa := fun W => size_nat ma W hma
  have hsb := fun W => size_nat mb W hmb
  rw [← sg_ng, ← rnd_sg]
  unfold ngB
  have hPb : ma.natAbs * mb.natAbs < 1000000000000000000000000000000 := Nat.lt_of_le_of_lt (Nat.mul_le_mul (Nat.le_of_lt_succ (show ma.natAbs < 999999999999999 + 1 from b1)) (Nat.le_of_lt_succ (show mb.natAbs < 999999999999999 + 1 from b4))) (by decide)
  have hmu := fun W => Tryz.bits_Mul64 ma.natAbs mb.natAbs (by omega) (by omega) W
  generalize ma.natAbs = Na at *
  generalize mb.natAbs = Nb at *
  have hdiv := fun W => div64_cut (Na * Nb / 18446744073709551616) (Na * Nb % 18446744073709551616) W (Nat.mod_lt _ (by decide)) (by rw [Nat.div_add_mod']; exact hPb)
  rw [Nat.div_add_mod'] at hdiv
  have hup : Na * Nb / 1000000000000000 < 1000000000000000 := Nat.div_lt_of_lt_mul (Nat.lt_of_lt_of_le hPb (by decide))
  have hlw : Na * Nb % 1000000000000000 < 1000000000000000 := Nat.mod_lt _ (by decide)
  have hPQ : Na * Nb / 1000000000000000 * 1000000000000000 + Na * Nb % 1000000000000000 = Na * Nb := Nat.div_add_mod' _ _
  generalize Na * Nb / 18446744073709551616 = hh at *
  generalize Na * Nb % 18446744073709551616 = ll at *
  generalize Na * Nb / 1000000000000000 = up at *
  generalize Na * Nb % 1000000000000000 = lw at *
  generalize Na * Nb = P at *
  obtain ⟨hmv, hml, hmd⟩ := mul_val (up := up) hlw
  rw [hPQ] at hmv
  have hdg1 := fun W hW => digitsOf_any up (by omega) W hW
  have hdg2 := fun W hW => digitsOf_any (1000000000000000 + lw) (by omega) W hW
  have hl1 : (dig0 up).length ≤ 20 := by rw [dig0_length]; have := (nd_le_iff up 20).2 (Nat.lt_trans hup (by decide)); omega
  have g1 : (1000000000000000 : Int) + (lw : Int) = ((1000000000000000 + lw : Nat) : Int) := by omega
  have g2 : IntKind.u64.wrap ((1000000000000000 + lw : Nat) : Int) = ((1000000000000000 + lw : Nat) : Int) := by rw [IntKind.wrap_u64]; omega
  generalize 1000000000000000 + lw = sm at *
  generalize dig0 up = D1 at *
  generalize dig0 sm = D2 at *
  obtain ⟨i0, hi, hz0', hz1', hz2'⟩ := info_parts info_byte
  generalize hRR : rnd (!(decide (ma < 0) == decide (mb < 0))) P false (ea + eb) = R
  have HRR := Lib.hid hRR
  have HT := Lib.hid htab
  have HMV := Lib.hid hmv
  have HMD := Lib.hid hmd
  clear h1 h2 htab hPb hup hlw hPQ hmv hmd hRR
  go_enter Tryz.func125, Tryz.ntmps125
  go_wp2_with (go_at_call 110; (with_reducible refine (right_rt _ _ _ (by assumption)).mono ?_); rintro e w' ⟨rfl, hbr⟩; obtain ⟨osr, dr, rfl⟩ := hbr.more)
  refine wp_plan (S := Ext _) [(0, 0), (1, 0), (3, 0), (4, 0), (2, 1), (5, 1), (6, 1), (7, 0), (8, 0), (9, 0), (10, 0), (11, 0)] [] (by kernel_rfl) (by kernel_rfl) (by kernel_rfl) (fun _ _ d _ _ h => by cases d <;> exact h) (Ext.drew (Ext.refl _)) ?_
  iterate 4 ((refine wpPl_read (v := ?_) rfl ?_ (fun _ h => ?_) ?_; rotate_left 1; rfl; (obtain ⟨_, _, rfl⟩ := h.more; go_simp; try rfl)); try simp only [Act.put, zqA, zqB, zqC])
  (refine wpPl_eff rfl ?_ (fun K hK => ?_); rfl; go_simp; (go_at_call 119; (with_reducible refine (hsa _).mono ?_); rintro e w' ⟨rfl, rfl⟩); refine hK _ _ ?_ ?_; (repeat (first | (with_reducible (first | exact Ext.refl _ | exact ext_d _ _ _ _ | exact ext_app _ _ _ _ _ | exact ext_app2 _ _ _ _ _ _ | exact ext_app3 _ _ _ _ _ _ _ | exact ext_app4 _ _ _ _ _ _ _ _ | exact ext_app5 _ _ _ _ _ _ _ _ _)) | ((with_reducible refine ext_suffix ⟨_, ?_⟩); (try simp only [Array.append_assoc]); rfl) | (with_reducible (first | apply Ext.drew | apply Ext.alloc | apply Ext.more_)) | apply Ext.drew | apply Ext.alloc | apply Ext.more_)))
  try simp only [Act.put, zqA, zqB, zqC]
  (refine wpPl_eff rfl ?_ (fun K hK => ?_); rfl; go_simp; (go_at_call 119; (with_reducible refine (hsb _).mono ?_); rintro e w' ⟨rfl, rfl⟩); refine hK _ _ ?_ ?_; (repeat (first | (with_reducible (first | exact Ext.refl _ | exact ext_d _ _ _ _ | exact ext_app _ _ _ _ _ | exact ext_app2 _ _ _ _ _ _ | exact ext_app3 _ _ _ _ _ _ _ | exact ext_app4 _ _ _ _ _ _ _ _ | exact ext_app5 _ _ _ _ _ _ _ _ _)) | ((with_reducible refine ext_suffix ⟨_, ?_⟩); (try simp only [Array.append_assoc]); rfl) | (with_reducible (first | apply Ext.drew | apply Ext.alloc | apply Ext.more_)) | apply Ext.drew | apply Ext.alloc | apply Ext.more_)))
  try simp only [Act.put, zqA, zqB, zqC]
  (refine wpPl_eff rfl ?_ (fun K hK => ?_); rfl; go_simp; (go_at_call 169; (with_reducible refine (hmu _).mono ?_); rintro e w' ⟨rfl, rfl⟩); refine hK _ _ ?_ ?_; (repeat (first | (with_reducible (first | exact Ext.refl _ | exact ext_d _ _ _ _ | exact ext_app _ _ _ _ _ | exact ext_app2 _ _ _ _ _ _ | exact ext_app3 _ _ _ _ _ _ _ | exact ext_app4 _ _ _ _ _ _ _ _ | exact ext_app5 _ _ _ _ _ _ _ _ _)) | ((with_reducible refine ext_suffix ⟨_, ?_⟩); (try simp only [Array.append_assoc]); rfl) | (with_reducible (first | apply Ext.drew | apply Ext.alloc | apply Ext.more_)) | apply Ext.drew | apply Ext.alloc | apply Ext.more_)))
  try simp only [Act.put, zqA, zqB, zqC]
  iterate 5 ((refine wpPl_read (v := ?_) rfl ?_ (fun _ h => ?_) ?_; rotate_left 1; rfl; (obtain ⟨_, _, rfl⟩ := h.more; go_simp; try rfl)); try simp only [Act.put, zqA, zqB, zqC])
  refine wpPl_nil ?_
  go_upto_region 4 with fail
  refine wp_world fun W hW => ?_
  have c0 : W.cell? ⟨w.heap.size, 0, none⟩ = some (.int .i64 ma) := by rw [hW]; go_simp
  have c1 : W.cell? ⟨w.heap.size, 1, none⟩ = some (.int .i64 ea) := by rw [hW]; go_simp
  have c2 : W.cell? ⟨w.heap.size + 1, 0, none⟩ = some (.int .i64 mb) := by rw [hW]; go_simp
  have c3 : W.cell? ⟨w.heap.size + 1, 1, none⟩ = some (.int .i64 eb) := by rw [hW]; go_simp
  have c4 : W.cell? ⟨w.heap.size + 1 + 1, 0, none⟩ = some (.int .i64 0) := by rw [hW]; go_simp
  have c5 : W.cell? ⟨w.heap.size + 1 + 1, 1, none⟩ = some (.int .i64 0) := by rw [hW]; go_simp
  have f4 : W.frozen? ⟨w.heap.size + 1 + 1, 0, none⟩ = false := by rw [hW]; go_simp
  have f5 : W.frozen? ⟨w.heap.size + 1 + 1, 1, none⟩ = false := by rw [hW]; go_simp
  have hz : w.heap.size + 1 + 1 < W.heap.size := by rw [hW]; simp; try omega
  have hz1 : w.heap.size + 1 < W.heap.size := by omega
  have hz0 : w.heap.size < W.heap.size := by omega
  have hxW : Ext w W := by rw [hW]; exact by with_reducible repeat (first | exact Ext.refl _ | apply Ext.drew | apply Ext.alloc | apply Ext.more_)
  have HTW : Hid (Tab W) := HT.out.ext hxW
  clear hW
  go_upto_region 6 with (first | (go_at_call 170; (with_reducible refine (hdiv _).mono ?_); rintro e w' ⟨rfl, hx⟩; obtain ⟨os1, d1, rfl⟩ := hx.more) | (go_at_call 149; (with_reducible refine (hdg1 _ (HTW.out.ext (by with_reducible repeat (first | exact Ext.refl _ | apply Ext.drew | apply Ext.alloc | apply Ext.more_)))).mono ?_); rintro e w' ⟨v1, rfl, ho1, hx1⟩; obtain ⟨os2, d2, rfl⟩ := hx1.more))
  refine wp_world fun W2 hW2 => ?_
  have hxW2 : Ext W W2 := by rw [hW2]; exact by with_reducible repeat (first | exact Ext.refl _ | apply Ext.drew | apply Ext.alloc | apply Ext.more_)
  have HO1 : Hid (W2.ownsRow W.heap.size 5 1 v1 D1.length (b8 D1)) := by
    show World.ownsRow _ _ _ _ _ _ _
    rw [hW2, ← more_more]
    exact own_mono ho1 (by simp)
  clear hW2 ho1 hx1 hx hdg1 hdiv
  have hsz2 := hxW2.size
  obtain ⟨x2, t2, hD2⟩ : ∃ x t, D2 = x :: t := by cases D2 with | nil => simp at hml | cons x t => exact ⟨x, t, rfl⟩
  have HD2 := Lib.hid hD2
  clear hD2
  go_upto_region 7 with (first | (go_at_call 149; (with_reducible refine (hdg2 _ (HTW.out.ext hxW2)).mono ?_); rintro e w' ⟨v2, rfl, ho2, hx2⟩; obtain ⟨os3, d3, rfl⟩ := hx2.more; obtain ⟨A2, cap2, rfl, hdg, _⟩ := Dg.of_own (l := D2) (k := .u8) ho2; have hcap := hdg.1; rw [hml] at hcap ⊢; obtain ⟨b, off, rfl, _, _⟩ := Dg.cons (by rw [HD2.out] at hdg; exact hdg); clear ho2; have hc1 : ¬ cap2 = 1 := by omega) | (at_builtin; refine wpList_append_own _ rfl _ _ _ rfl W.heap.size 5 i0 (.int .u8 0) 1 1 Tryz.underlying135 hi hz0' hz1' hz2' rfl (by decide) _ D1.length (b8 D1) rfl (own_ext_ HO1.out hx2) _ 15 (cap2 - 1) (b8 (D2.drop 1)) rfl (by simp [b8, hml]) (Rd.add (Rd.mono (hdg.drop 1).rd (Nat.zero_le _))) (one_b8 _) (by simp [maxLen]; omega) (by omega) (by simp; omega) ?_; intro v3 w3 ho3 hg3 _; have hx3 := ext_grown (hxW2.trans hx2) (own_ext_ HO1.out hx2) hg3; obtain ⟨os4, d4, rfl⟩ := hx3.more; clear hg3 hdg hcap hc1 hx2))
  have hrd := round_own W (!(decide (ma < 0) == decide (mb < 0))) v3 (D1 ++ D2.drop 1) (ea + eb) (more W os4 d4) _ hx3 (by unfold b8; rw [List.map_append]; exact ho3) HMD.out (by simp; omega) (by omega)
  rw [HMV.out, HRR.out] at hrd
  have w1 : IntKind.i64.wrap (ea + eb) = ea + eb := i64w (by omega) (by omega)
  clear ho3 hx3
  go_wp2_with (go_at_call 150; (with_reducible refine hrd.mono ?_); rintro e w4 ⟨rfl, os5, d5, rfl⟩)
  exact bodyPost_ret (v := rnV R) (by simp [results, Tryz.results125, go_sem, c4, c5, hz]) rfl ⟨rfl, ((hxW.set _ (by show w.heap.size ≤ w.heap.size + 1 + 1; omega)).set _ (by show w.heap.size ≤ w.heap.size + 1 + 1; omega)).more_ _ _⟩
theorem mul_any (ma ea mb eb : Int) (w : World) (htab : Tab w) (hma : I64 ma) (hmb : I64 mb) :
    Calls Tryz.prog 125 #[NV ma ea, NV mb eb] w fun e w' => e = .returned (rnV (mulS ma ea mb eb)) ∧ Ext w w' := by
  unfold mulS
  split
  · rename_i h; exact mul_yes ma ea mb eb w htab h.1 h.2
  · rename_i h; exact mul_no ma ea mb eb w hma hmb h
end Go.Proofs.YtkcoikelcmpceaaGreatDoor
namespace Go.Proofs.YtkcoikelcmpceaaGreatDoor
open Go.RowKit NM
theorem Rt_i64 {m e : Int} (h : Rt m e) : I64 m ∧ I64 e := by
  obtain ⟨b1, b2, b3⟩ := Rt_bd h
  unfold I64; omega
/-- A variable of type Num in block p. -/
def PV (w : World) (p : Nat) (m e : Int) : Prop := w.heap[p]? = some (.cells #[.int .i64 m, .int .i64 e] 26 (0, 0))
theorem PV.c0 {w : World} {p : Nat} {m e : Int} (h : PV w p m e) : w.cell? ⟨p, 0, none⟩ = some (.int .i64 m) := by rw [cell_of_row w p 0 _ _ (0, 0) h]; rfl
theorem PV.c1 {w : World} {p : Nat} {m e : Int} (h : PV w p m e) : w.cell? ⟨p, 1, none⟩ = some (.int .i64 e) := by rw [cell_of_row w p 1 _ _ (0, 0) h]; rfl
theorem PV.fz {w : World} {p : Nat} {m e : Int} (h : PV w p m e) (o : Nat) : w.frozen? ⟨p, o, none⟩ = false := frozen_of_row w p o _ _ h
theorem PV.lt {w : World} {p : Nat} {m e : Int} (h : PV w p m e) : p < w.heap.size := lt_block h
theorem PV.ext {w w' : World} {p : Nat} {m e : Int} (h : PV w p m e) (hx : Ext w w') : PV w' p m e := by unfold PV; rw [hx.block h.lt]; exact h
theorem PV.set {w : World} {p : Nat} {m e : Int} (h : PV w p m e) (m' e' : Int) : PV ((w.setCell ⟨p, 0, none⟩ (.int .i64 m')).setCell ⟨p, 1, none⟩ (.int .i64 e')) p m' e' := by
  have h1 := heap_setCell_same w p 0 _ _ (.int .i64 m') h
  have h2 := heap_setCell_same _ p 1 _ _ (.int .i64 e') h1
  exact h2
theorem PV.new {w : World} {n : Nat} (m e : Int) (hn : n = w.heap.size) : PV (w.alloc (.cells #[.int .i64 m, .int .i64 e] 26)) n m e := by subst hn; exact Array.getElem?_push_size
end Go.Proofs.YtkcoikelcmpceaaGreatDoor
namespace Go.Proofs.YtkcoikelcmpceaaGreatDoor
open Go.RowKit NM
set_option maxHeartbeats 1000000 in
theorem sign_any (m ex : Int) (w : World) :
    Calls Tryz.prog 111 #[NV m ex] w fun e w' => e = .returned (.int .i64 m.sign) ∧ Ext w w' := by
  rcases Int.lt_trichotomy m 0 with h | h | h
  · rw [Int.sign_eq_neg_one_of_neg h]
    go_enter Tryz.func111, Tryz.ntmps111
    go_wp2
    go_ret
    exact ⟨rfl, by with_reducible repeat (first | exact Ext.refl _ | apply Ext.drew | apply Ext.alloc | apply Ext.more_)⟩
  · subst h
    go_enter Tryz.func111, Tryz.ntmps111
    go_wp2
    go_ret
    exact ⟨rfl, by with_reducible repeat (first | exact Ext.refl _ | apply Ext.drew | apply Ext.alloc | apply Ext.more_)⟩
  · rw [Int.sign_eq_one_of_pos h]
    have h' : ¬ m < 0 := by omega
    go_enter Tryz.func111, Tryz.ntmps111
    go_wp2
    go_ret
    exact ⟨rfl, by with_reducible repeat (first | exact Ext.refl _ | apply Ext.drew | apply Ext.alloc | apply Ext.more_)⟩
def cmpN (x y : Nat) : Int := if x < y then -1 else if y < x then 1 else 0
theorem cmp_top {x y ka kb : Nat} (hx : x ≠ 0) (hy : y ≠ 0) (h : nd x + ka < nd y + kb) : x * T ka < y * T kb := by
  have h1 := lt_T_nd (x * T ka)
  rw [nd_mul_T ka hx] at h1
  have h2 := T_le_of_nd (Nat.mul_ne_zero hy (by have := T_pos kb; omega) : y * T kb ≠ 0)
  rw [nd_mul_T kb hy] at h2
  have h3 : T (nd x + ka) ≤ T (nd y + kb - 1) := T_mono (by omega)
  omega
theorem cmp_same {x y ka kb : Nat} (hx : nd x ≤ 15) (hy : nd y ≤ 15) (h : nd x + ka = nd y + kb) : cmpN (x * T ka) (y * T kb) = cmpN (x * T (15 - nd x)) (y * T (15 - nd y)) := by
  have e1 : x * T (15 - nd x) * T (nd x + ka) = x * T ka * T 15 := by
    rw [Nat.mul_assoc, ← T_add, Nat.mul_assoc, ← T_add]; congr 2; omega
  have e2 : y * T (15 - nd y) * T (nd x + ka) = y * T kb * T 15 := by
    rw [Nat.mul_assoc, ← T_add, Nat.mul_assoc, ← T_add]; congr 2; omega
  have p1 := T_pos (nd x + ka)
  have p2 := T_pos 15
  have i1 : x * T ka < y * T kb ↔ x * T (15 - nd x) < y * T (15 - nd y) := by
    rw [← Nat.mul_lt_mul_right p2, ← e1, ← e2, Nat.mul_lt_mul_right p1]
  have i2 : y * T kb < x * T ka ↔ y * T (15 - nd y) < x * T (15 - nd x) := by
    rw [← Nat.mul_lt_mul_right p2, ← e1, ← e2, Nat.mul_lt_mul_right p1]
  unfold cmpN
  rw [ite_iff _ _ i1, ite_iff _ _ i2]
theorem count_nat (n : Nat) (w : World) (h : n < 18446744073709551616) (h0 : n ≠ 0) :
    Calls Tryz.prog 156 #[.int .u64 (n : Int)] w fun e w' => e = .returned (.int .i64 ((nd n : Nat) : Int)) ∧ w = w' := by
  have := count_any n w (by omega) (by omega)
  rw [show countI (n : Int) = ((nd n : Nat) : Int) by unfold countI; rw [Int.toNat_natCast, cnt_nd h0]] at this
  exact this
set_option maxHeartbeats 4000000 in
theorem cmpSize_any (ma ea mb eb : Int) (ka kb : Nat) (w : World) (h1 : Rt ma ea) (h2 : Rt mb eb) (h0 : ma = 0 ↔ mb = 0) (hk : ea - (ka : Int) = eb - (kb : Int)) :
    Calls Tryz.prog 112 #[NV ma ea, NV mb eb] w fun e w' => e = .returned (.int .i64 (cmpN (ma.natAbs * T ka) (mb.natAbs * T kb))) ∧ Ext w w' := by
  by_cases hz : ma = 0
  · have hz' := h0.1 hz
    rw [hz, hz', show (0 : Int).natAbs = 0 from rfl, Nat.zero_mul, Nat.zero_mul]
    go_enter Tryz.func112, Tryz.ntmps112
    go_wp2
    go_ret
    exact ⟨rfl, by with_reducible repeat (first | exact Ext.refl _ | apply Ext.drew | apply Ext.alloc | apply Ext.more_)⟩
  · have hz' : mb ≠ 0 := fun h => hz (h0.2 h)
    have e0 : (ma == 0) = false := by simp [hz]
    obtain ⟨b1, b2, b3⟩ := Rt_bd h1
    obtain ⟨b4, b5, b6⟩ := Rt_bd h2
    have hma : I64 ma := by unfold I64; omega
    have hmb : I64 mb := by unfold I64; omega
    have hsa := fun W => size_nat ma W hma
    have hsb := fun W => size_nat mb W hmb
    have hca := fun W => count_nat ma.natAbs W (by omega) (by omega)
    have hcb := fun W => count_nat mb.natAbs W (by omega) (by omega)
    have hT15 : T 15 = 1000000000000000 := by decide
    have n1 : nd ma.natAbs ≤ 15 := (nd_le_iff _ _).2 (by omega)
    have n2 : nd mb.natAbs ≤ 15 := (nd_le_iff _ _).2 (by omega)
    have hpa := fun W => power_any (15 - nd ma.natAbs) W (by omega)
    have hpb := fun W => power_any (15 - nd mb.natAbs) W (by omega)
    have hna : ma.natAbs ≠ 0 := by omega
    have hnb : mb.natAbs ≠ 0 := by omega
    have l1 : ma.natAbs * T (15 - nd ma.natAbs) < 1000000000000000 := by
      have := Nat.mul_lt_mul_of_pos_right (lt_T_nd ma.natAbs) (T_pos (15 - nd ma.natAbs))
      rw [← T_add, show nd ma.natAbs + (15 - nd ma.natAbs) = 15 by omega, hT15] at this; exact this
    have l2 : mb.natAbs * T (15 - nd mb.natAbs) < 1000000000000000 := by
      have := Nat.mul_lt_mul_of_pos_right (lt_T_nd mb.natAbs) (T_pos (15 - nd mb.natAbs))
      rw [← T_add, show nd mb.natAbs + (15 - nd mb.natAbs) = 15 by omega, hT15] at this; exact this
    have ct1 := cmp_top (x := ma.natAbs) (y := mb.natAbs) (ka := ka) (kb := kb) hna hnb
    have ct2 := cmp_top (x := mb.natAbs) (y := ma.natAbs) (ka := kb) (kb := ka) hnb hna
    have ct3 := cmp_same (x := ma.natAbs) (y := mb.natAbs) (ka := ka) (kb := kb) n1 n2
    clear h1 h2 h0 hz hz' hna hnb hT15
    generalize ma.natAbs = Na at *
    generalize mb.natAbs = Nb at *
    have ca : (15 : Int) - (nd Na : Int) = ((15 - nd Na : Nat) : Int) := by omega
    have cb : (15 : Int) - (nd Nb : Int) = ((15 - nd Nb : Nat) : Int) := by omega
    generalize hda : nd Na = da at *
    generalize hdb : nd Nb = db at *
    clear hda hdb
    rcases Int.lt_trichotomy ((da : Int) + ea) ((db : Int) + eb) with ht | ht | ht
    · have hR : cmpN (Na * T ka) (Nb * T kb) = -1 := by unfold cmpN; rw [if_pos (ct1 (by omega))]
      rw [hR]
      have e1 : ((da : Int) + ea == (db : Int) + eb) = false := by simp; omega
      clear ct1 ct2 ct3 hk
      go_enter Tryz.func112, Tryz.ntmps112
      go_wp2
      refine wp_plan (S := Ext _) [(0, 0), (1, 0), (3, 0), (4, 0), (2, 1), (5, 1), (6, 0), (7, 0)] [] (by kernel_rfl) (by kernel_rfl) (by kernel_rfl) (fun _ _ d _ _ h => by cases d <;> exact h) (Ext.drew (Ext.refl _)) ?_
      iterate 4 ((refine wpPl_read (v := ?_) rfl ?_ (fun _ h => ?_) ?_; rotate_left 1; rfl; (obtain ⟨_, _, rfl⟩ := h.more; go_simp; try rfl)); try simp only [Act.put, zqA, zqB, zqC])
      (refine wpPl_eff rfl ?_ (fun K hK => ?_); rfl; go_simp; (go_at_call 119; (with_reducible refine (hsa _).mono ?_); rintro e w' ⟨rfl, rfl⟩); refine hK _ _ ?_ ?_; (repeat (first | (with_reducible (first | exact Ext.refl _ | exact ext_d _ _ _ _ | exact ext_app _ _ _ _ _ | exact ext_app2 _ _ _ _ _ _ | exact ext_app3 _ _ _ _ _ _ _ | exact ext_app4 _ _ _ _ _ _ _ _ | exact ext_app5 _ _ _ _ _ _ _ _ _)) | ((with_reducible refine ext_suffix ⟨_, ?_⟩); (try simp only [Array.append_assoc]); rfl) | (with_reducible (first | apply Ext.drew | apply Ext.alloc | apply Ext.more_)) | apply Ext.drew | apply Ext.alloc | apply Ext.more_)))
      try simp only [Act.put, zqA, zqB, zqC]
      (refine wpPl_eff rfl ?_ (fun K hK => ?_); rfl; go_simp; (go_at_call 119; (with_reducible refine (hsb _).mono ?_); rintro e w' ⟨rfl, rfl⟩); refine hK _ _ ?_ ?_; (repeat (first | (with_reducible (first | exact Ext.refl _ | exact ext_d _ _ _ _ | exact ext_app _ _ _ _ _ | exact ext_app2 _ _ _ _ _ _ | exact ext_app3 _ _ _ _ _ _ _ | exact ext_app4 _ _ _ _ _ _ _ _ | exact ext_app5 _ _ _ _ _ _ _ _ _)) | ((with_reducible refine ext_suffix ⟨_, ?_⟩); (try simp only [Array.append_assoc]); rfl) | (with_reducible (first | apply Ext.drew | apply Ext.alloc | apply Ext.more_)) | apply Ext.drew | apply Ext.alloc | apply Ext.more_)))
      try simp only [Act.put, zqA, zqB, zqC]
      iterate 2 ((refine wpPl_read (v := ?_) rfl ?_ (fun _ h => ?_) ?_; rotate_left 1; rfl; (obtain ⟨_, _, rfl⟩ := h.more; go_simp; try rfl)); try simp only [Act.put, zqA, zqB, zqC])
      refine wpPl_nil ?_
      go_wp2_with (first | (go_at_call_of 156 (Value.int IntKind.u64 (Na : Int)); (with_reducible refine (hca _).mono ?_); rintro e w' ⟨rfl, rfl⟩) | (go_at_call 156; (with_reducible refine (hcb _).mono ?_); rintro e w' ⟨rfl, rfl⟩))
      refine wp_plan (S := Ext _) [(0, 0), (1, 0), (2, 0), (3, 0), (4, 0), (5, 0), (6, 0), (7, 0), (8, 0), (9, 0)] [] (by kernel_rfl) (by kernel_rfl) (by kernel_rfl) (fun _ _ d _ _ h => by cases d <;> exact h) (Ext.drew (Ext.refl _)) ?_
      iterate 10 ((refine wpPl_read (v := ?_) rfl ?_ (fun _ h => ?_) ?_; rotate_left 1; rfl; (obtain ⟨_, _, rfl⟩ := h.more; go_simp; try rfl)); try simp only [Act.put, zqA, zqB, zqC])
      refine wpPl_nil ?_
      go_wp2
      go_ret
      exact ⟨rfl, by with_reducible repeat (first | exact Ext.refl _ | apply Ext.drew | apply Ext.alloc | apply Ext.more_)⟩
    · have hR := ct3 (by omega)
      rw [hR]
      have e1 : ((da : Int) + ea == (db : Int) + eb) = true := by simp; omega
      clear ct1 ct2 ct3 hk hR
      generalize T (15 - da) = Ta at *
      generalize T (15 - db) = Tb at *
      have m1 : (Na : Int) * (Ta : Int) = ((Na * Ta : Nat) : Int) := by rw [Int.natCast_mul]
      have m2 : (Nb : Int) * (Tb : Int) = ((Nb * Tb : Nat) : Int) := by rw [Int.natCast_mul]
      generalize Na * Ta = Pa at *
      generalize Nb * Tb = Pb at *
      have w1 : IntKind.u64.wrap (Pa : Int) = Pa := by rw [IntKind.wrap_u64]; omega
      have w2 : IntKind.u64.wrap (Pb : Int) = Pb := by rw [IntKind.wrap_u64]; omega
      rcases Nat.lt_trichotomy Pa Pb with hc | hc | hc
      · have hR : cmpN Pa Pb = -1 := by unfold cmpN; rw [if_pos hc]
        rw [hR]
        go_enter Tryz.func112, Tryz.ntmps112
        go_wp2
        refine wp_plan (S := Ext _) [(0, 0), (1, 0), (3, 0), (4, 0), (2, 1), (5, 1), (6, 0), (7, 0)] [] (by kernel_rfl) (by kernel_rfl) (by kernel_rfl) (fun _ _ d _ _ h => by cases d <;> exact h) (Ext.drew (Ext.refl _)) ?_
        iterate 4 ((refine wpPl_read (v := ?_) rfl ?_ (fun _ h => ?_) ?_; rotate_left 1; rfl; (obtain ⟨_, _, rfl⟩ := h.more; go_simp; try rfl)); try simp only [Act.put, zqA, zqB, zqC])
        (refine wpPl_eff rfl ?_ (fun K hK => ?_); rfl; go_simp; (go_at_call 119; (with_reducible refine (hsa _).mono ?_); rintro e w' ⟨rfl, rfl⟩); refine hK _ _ ?_ ?_; (repeat (first | (with_reducible (first | exact Ext.refl _ | exact ext_d _ _ _ _ | exact ext_app _ _ _ _ _ | exact ext_app2 _ _ _ _ _ _ | exact ext_app3 _ _ _ _ _ _ _ | exact ext_app4 _ _ _ _ _ _ _ _ | exact ext_app5 _ _ _ _ _ _ _ _ _)) | ((with_reducible refine ext_suffix ⟨_, ?_⟩); (try simp only [Array.append_assoc]); rfl) | (with_reducible (first | apply Ext.drew | apply Ext.alloc | apply Ext.more_)) | apply Ext.drew | apply Ext.alloc | apply Ext.more_)))
        try simp only [Act.put, zqA, zqB, zqC]
        (refine wpPl_eff rfl ?_ (fun K hK => ?_); rfl; go_simp; (go_at_call 119; (with_reducible refine (hsb _).mono ?_); rintro e w' ⟨rfl, rfl⟩); refine hK _ _ ?_ ?_; (repeat (first | (with_reducible (first | exact Ext.refl _ | exact ext_d _ _ _ _ | exact ext_app _ _ _ _ _ | exact ext_app2 _ _ _ _ _ _ | exact ext_app3 _ _ _ _ _ _ _ | exact ext_app4 _ _ _ _ _ _ _ _ | exact ext_app5 _ _ _ _ _ _ _ _ _)) | ((with_reducible refine ext_suffix ⟨_, ?_⟩); (try simp only [Array.append_assoc]); rfl) | (with_reducible (first | apply Ext.drew | apply Ext.alloc | apply Ext.more_)) | apply Ext.drew | apply Ext.alloc | apply Ext.more_)))
        try simp only [Act.put, zqA, zqB, zqC]
        iterate 2 ((refine wpPl_read (v := ?_) rfl ?_ (fun _ h => ?_) ?_; rotate_left 1; rfl; (obtain ⟨_, _, rfl⟩ := h.more; go_simp; try rfl)); try simp only [Act.put, zqA, zqB, zqC])
        refine wpPl_nil ?_
        go_wp2_with (first | (go_at_call_of 156 (Value.int IntKind.u64 (Na : Int)); (with_reducible refine (hca _).mono ?_); rintro e w' ⟨rfl, rfl⟩) | (go_at_call 156; (with_reducible refine (hcb _).mono ?_); rintro e w' ⟨rfl, rfl⟩))
        refine wp_plan (S := Ext _) [(0, 0), (1, 0), (2, 0), (3, 0), (4, 0), (5, 0), (6, 0), (7, 0), (8, 0), (9, 0)] [] (by kernel_rfl) (by kernel_rfl) (by kernel_rfl) (fun _ _ d _ _ h => by cases d <;> exact h) (Ext.drew (Ext.refl _)) ?_
        iterate 10 ((refine wpPl_read (v := ?_) rfl ?_ (fun _ h => ?_) ?_; rotate_left 1; rfl; (obtain ⟨_, _, rfl⟩ := h.more; go_simp; try rfl)); try simp only [Act.put, zqA, zqB, zqC])
        refine wpPl_nil ?_
        go_wp2_with (first | (go_at_call 120; (with_reducible refine (hpa _).mono ?_); rintro e w' ⟨rfl, rfl⟩) | (go_at_call 120; (with_reducible refine (hpb _).mono ?_); rintro e w' ⟨rfl, rfl⟩))
        go_ret
        exact ⟨rfl, by with_reducible repeat (first | exact Ext.refl _ | apply Ext.drew | apply Ext.alloc | apply Ext.more_)⟩
      · have hR : cmpN Pa Pb = 0 := by unfold cmpN; rw [if_neg (by omega), if_neg (by omega)]
        rw [hR]
        go_enter Tryz.func112, Tryz.ntmps112
        go_wp2
        refine wp_plan (S := Ext _) [(0, 0), (1, 0), (3, 0), (4, 0), (2, 1), (5, 1), (6, 0), (7, 0)] [] (by kernel_rfl) (by kernel_rfl) (by kernel_rfl) (fun _ _ d _ _ h => by cases d <;> exact h) (Ext.drew (Ext.refl _)) ?_
        iterate 4 ((refine wpPl_read (v := ?_) rfl ?_ (fun _ h => ?_) ?_; rotate_left 1; rfl; (obtain ⟨_, _, rfl⟩ := h.more; go_simp; try rfl)); try simp only [Act.put, zqA, zqB, zqC])
        (refine wpPl_eff rfl ?_ (fun K hK => ?_); rfl; go_simp; (go_at_call 119; (with_reducible refine (hsa _).mono ?_); rintro e w' ⟨rfl, rfl⟩); refine hK _ _ ?_ ?_; (repeat (first | (with_reducible (first | exact Ext.refl _ | exact ext_d _ _ _ _ | exact ext_app _ _ _ _ _ | exact ext_app2 _ _ _ _ _ _ | exact ext_app3 _ _ _ _ _ _ _ | exact ext_app4 _ _ _ _ _ _ _ _ | exact ext_app5 _ _ _ _ _ _ _ _ _)) | ((with_reducible refine ext_suffix ⟨_, ?_⟩); (try simp only [Array.append_assoc]); rfl) | (with_reducible (first | apply Ext.drew | apply Ext.alloc | apply Ext.more_)) | apply Ext.drew | apply Ext.alloc | apply Ext.more_)))
        try simp only [Act.put, zqA, zqB, zqC]
        (refine wpPl_eff rfl ?_ (fun K hK => ?_); rfl; go_simp; (go_at_call 119; (with_reducible refine (hsb _).mono ?_); rintro e w' ⟨rfl, rfl⟩); refine hK _ _ ?_ ?_; (repeat (first | (with_reducible (first | exact Ext.refl _ | exact ext_d _ _ _ _ | exact ext_app _ _ _ _ _ | exact ext_app2 _ _ _ _ _ _ | exact ext_app3 _ _ _ _ _ _ _ | exact ext_app4 _ _ _ _ _ _ _ _ | exact ext_app5 _ _ _ _ _ _ _ _ _)) | ((with_reducible refine ext_suffix ⟨_, ?_⟩); (try simp only [Array.append_assoc]); rfl) | (with_reducible (first | apply Ext.drew | apply Ext.alloc | apply Ext.more_)) | apply Ext.drew | apply Ext.alloc | apply Ext.more_)))
        try simp only [Act.put, zqA, zqB, zqC]
        iterate 2 ((refine wpPl_read (v := ?_) rfl ?_ (fun _ h => ?_) ?_; rotate_left 1; rfl; (obtain ⟨_, _, rfl⟩ := h.more; go_simp; try rfl)); try simp only [Act.put, zqA, zqB, zqC])
        refine wpPl_nil ?_
        go_wp2_with (first | (go_at_call_of 156 (Value.int IntKind.u64 (Na : Int)); (with_reducible refine (hca _).mono ?_); rintro e w' ⟨rfl, rfl⟩) | (go_at_call 156; (with_reducible refine (hcb _).mono ?_); rintro e w' ⟨rfl, rfl⟩))
        refine wp_plan (S := Ext _) [(0, 0), (1, 0), (2, 0), (3, 0), (4, 0), (5, 0), (6, 0), (7, 0), (8, 0), (9, 0)] [] (by kernel_rfl) (by kernel_rfl) (by kernel_rfl) (fun _ _ d _ _ h => by cases d <;> exact h) (Ext.drew (Ext.refl _)) ?_
        iterate 10 ((refine wpPl_read (v := ?_) rfl ?_ (fun _ h => ?_) ?_; rotate_left 1; rfl; (obtain ⟨_, _, rfl⟩ := h.more; go_simp; try rfl)); try simp only [Act.put, zqA, zqB, zqC])
        refine wpPl_nil ?_
        go_wp2_with (first | (go_at_call 120; (with_reducible refine (hpa _).mono ?_); rintro e w' ⟨rfl, rfl⟩) | (go_at_call 120; (with_reducible refine (hpb _).mono ?_); rintro e w' ⟨rfl, rfl⟩))
        go_ret
        exact ⟨rfl, by with_reducible repeat (first | exact Ext.refl _ | apply Ext.drew | apply Ext.alloc | apply Ext.more_)⟩
      · have hR : cmpN Pa Pb = 1 := by unfold cmpN; rw [if_neg (by omega), if_pos (by omega)]
        rw [hR]
        have hc' : ¬ Pa < Pb := by omega
        go_enter Tryz.func112, Tryz.ntmps112
        go_wp2
        refine wp_plan (S := Ext _) [(0, 0), (1, 0), (3, 0), (4, 0), (2, 1), (5, 1), (6, 0), (7, 0)] [] (by kernel_rfl) (by kernel_rfl) (by kernel_rfl) (fun _ _ d _ _ h => by cases d <;> exact h) (Ext.drew (Ext.refl _)) ?_
        iterate 4 ((refine wpPl_read (v := ?_) rfl ?_ (fun _ h => ?_) ?_; rotate_left 1; rfl; (obtain ⟨_, _, rfl⟩ := h.more; go_simp; try rfl)); try simp only [Act.put, zqA, zqB, zqC])
        (refine wpPl_eff rfl ?_ (fun K hK => ?_); rfl; go_simp; (go_at_call 119; (with_reducible refine (hsa _).mono ?_); rintro e w' ⟨rfl, rfl⟩); refine hK _ _ ?_ ?_; (repeat (first | (with_reducible (first | exact Ext.refl _ | exact ext_d _ _ _ _ | exact ext_app _ _ _ _ _ | exact ext_app2 _ _ _ _ _ _ | exact ext_app3 _ _ _ _ _ _ _ | exact ext_app4 _ _ _ _ _ _ _ _ | exact ext_app5 _ _ _ _ _ _ _ _ _)) | ((with_reducible refine ext_suffix ⟨_, ?_⟩); (try simp only [Array.append_assoc]); rfl) | (with_reducible (first | apply Ext.drew | apply Ext.alloc | apply Ext.more_)) | apply Ext.drew | apply Ext.alloc | apply Ext.more_)))
        try simp only [Act.put, zqA, zqB, zqC]
        (refine wpPl_eff rfl ?_ (fun K hK => ?_); rfl; go_simp; (go_at_call 119; (with_reducible refine (hsb _).mono ?_); rintro e w' ⟨rfl, rfl⟩); refine hK _ _ ?_ ?_; (repeat (first | (with_reducible (first | exact Ext.refl _ | exact ext_d _ _ _ _ | exact ext_app _ _ _ _ _ | exact ext_app2 _ _ _ _ _ _ | exact ext_app3 _ _ _ _ _ _ _ | exact ext_app4 _ _ _ _ _ _ _ _ | exact ext_app5 _ _ _ _ _ _ _ _ _)) | ((with_reducible refine ext_suffix ⟨_, ?_⟩); (try simp only [Array.append_assoc]); rfl) | (with_reducible (first | apply Ext.drew | apply Ext.alloc | apply Ext.more_)) | apply Ext.drew | apply Ext.alloc | apply Ext.more_)))
        try simp only [Act.put, zqA, zqB, zqC]
        iterate 2 ((refine wpPl_read (v := ?_) rfl ?_ (fun _ h => ?_) ?_; rotate_left 1; rfl; (obtain ⟨_, _, rfl⟩ := h.more; go_simp; try rfl)); try simp only [Act.put, zqA, zqB, zqC])
        refine wpPl_nil ?_
        go_wp2_with (first | (go_at_call_of 156 (Value.int IntKind.u64 (Na : Int)); (with_reducible refine (hca _).mono ?_); rintro e w' ⟨rfl, rfl⟩) | (go_at_call 156; (with_reducible refine (hcb _).mono ?_); rintro e w' ⟨rfl, rfl⟩))
        refine wp_plan (S := Ext _) [(0, 0), (1, 0), (2, 0), (3, 0), (4, 0), (5, 0), (6, 0), (7, 0), (8, 0), (9, 0)] [] (by kernel_rfl) (by kernel_rfl) (by kernel_rfl) (fun _ _ d _ _ h => by cases d <;> exact h) (Ext.drew (Ext.refl _)) ?_
        iterate 10 ((refine wpPl_read (v := ?_) rfl ?_ (fun _ h => ?_) ?_; rotate_left 1; rfl; (obtain ⟨_, _, rfl⟩ := h.more; go_simp; try rfl)); try simp only [Act.put, zqA, zqB, zqC])
        refine wpPl_nil ?_
        go_wp2_with (first | (go_at_call 120; (with_reducible refine (hpa _).mono ?_); rintro e w' ⟨rfl, rfl⟩) | (go_at_call 120; (with_reducible refine (hpb _).mono ?_); rintro e w' ⟨rfl, rfl⟩))
        go_ret
        exact ⟨rfl, by with_reducible repeat (first | exact Ext.refl _ | apply Ext.drew | apply Ext.alloc | apply Ext.more_)⟩
    · have hR : cmpN (Na * T ka) (Nb * T kb) = 1 := by
        have := ct2 (by omega)
        unfold cmpN; rw [if_neg (by omega), if_pos this]
      rw [hR]
      have e1 : ((da : Int) + ea == (db : Int) + eb) = false := by simp; omega
      have e2 : ¬ ((da : Int) + ea < (db : Int) + eb) := by omega
      clear ct1 ct2 ct3 hk
      go_enter Tryz.func112, Tryz.ntmps112
      go_wp2
      refine wp_plan (S := Ext _) [(0, 0), (1, 0), (3, 0), (4, 0), (2, 1), (5, 1), (6, 0), (7, 0)] [] (by kernel_rfl) (by kernel_rfl) (by kernel_rfl) (fun _ _ d _ _ h => by cases d <;> exact h) (Ext.drew (Ext.refl _)) ?_
      iterate 4 ((refine wpPl_read (v := ?_) rfl ?_ (fun _ h => ?_) ?_; rotate_left 1; rfl; (obtain ⟨_, _, rfl⟩ := h.more; go_simp; try rfl)); try simp only [Act.put, zqA, zqB, zqC])
      (refine wpPl_eff rfl ?_ (fun K hK => ?_); rfl; go_simp; (go_at_call 119; (with_reducible refine (hsa _).mono ?_); rintro e w' ⟨rfl, rfl⟩); refine hK _ _ ?_ ?_; (repeat (first | (with_reducible (first | exact Ext.refl _ | exact ext_d _ _ _ _ | exact ext_app _ _ _ _ _ | exact ext_app2 _ _ _ _ _ _ | exact ext_app3 _ _ _ _ _ _ _ | exact ext_app4 _ _ _ _ _ _ _ _ | exact ext_app5 _ _ _ _ _ _ _ _ _)) | ((with_reducible refine ext_suffix ⟨_, ?_⟩); (try simp only [Array.append_assoc]); rfl) | (with_reducible (first | apply Ext.drew | apply Ext.alloc | apply Ext.more_)) | apply Ext.drew | apply Ext.alloc | apply Ext.more_)))
      try simp only [Act.put, zqA, zqB, zqC]
      (refine wpPl_eff rfl ?_ (fun K hK => ?_); rfl; go_simp; (go_at_call 119; (with_reducible refine (hsb _).mono ?_); rintro e w' ⟨rfl, rfl⟩); refine hK _ _ ?_ ?_; (repeat (first | (with_reducible (first | exact Ext.refl _ | exact ext_d _ _ _ _ | exact ext_app _ _ _ _ _ | exact ext_app2 _ _ _ _ _ _ | exact ext_app3 _ _ _ _ _ _ _ | exact ext_app4 _ _ _ _ _ _ _ _ | exact ext_app5 _ _ _ _ _ _ _ _ _)) | ((with_reducible refine ext_suffix ⟨_, ?_⟩); (try simp only [Array.append_assoc]); rfl) | (with_reducible (first | apply Ext.drew | apply Ext.alloc | apply Ext.more_)) | apply Ext.drew | apply Ext.alloc | apply Ext.more_)))
      try simp only [Act.put, zqA, zqB, zqC]
      iterate 2 ((refine wpPl_read (v := ?_) rfl ?_ (fun _ h => ?_) ?_; rotate_left 1; rfl; (obtain ⟨_, _, rfl⟩ := h.more; go_simp; try rfl)); try simp only [Act.put, zqA, zqB, zqC])
      refine wpPl_nil ?_
      go_wp2_with (first | (go_at_call_of 156 (Value.int IntKind.u64 (Na : Int)); (with_reducible refine (hca _).mono ?_); rintro e w' ⟨rfl, rfl⟩) | (go_at_call 156; (with_reducible refine (hcb _).mono ?_); rintro e w' ⟨rfl, rfl⟩))
      refine wp_plan (S := Ext _) [(0, 0), (1, 0), (2, 0), (3, 0), (4, 0), (5, 0), (6, 0), (7, 0), (8, 0), (9, 0)] [] (by kernel_rfl) (by kernel_rfl) (by kernel_rfl) (fun _ _ d _ _ h => by cases d <;> exact h) (Ext.drew (Ext.refl _)) ?_
      iterate 10 ((refine wpPl_read (v := ?_) rfl ?_ (fun _ h => ?_) ?_; rotate_left 1; rfl; (obtain ⟨_, _, rfl⟩ := h.more; go_simp; try rfl)); try simp only [Act.put, zqA, zqB, zqC])
      refine wpPl_nil ?_
      go_wp2
      go_ret
      exact ⟨rfl, by with_reducible repeat (first | exact Ext.refl _ | apply Ext.drew | apply Ext.alloc | apply Ext.more_)⟩
theorem cmp_sign (A B : Int) : (A - B).sign = if A.sign = B.sign then A.sign * cmpN A.natAbs B.natAbs else if A.sign < B.sign then -1 else 1 := by
  have hp : ∀ x : Int, 0 < x → x.sign = 1 := fun x h => Int.sign_eq_one_of_pos h
  have hn : ∀ x : Int, x < 0 → x.sign = -1 := fun x h => Int.sign_eq_neg_one_of_neg h
  have hz : (0 : Int).sign = 0 := rfl
  rcases Int.lt_trichotomy A 0 with a | a | a <;> rcases Int.lt_trichotomy B 0 with b | b | b
  · rw [hn A a, hn B b, if_pos rfl]
    unfold cmpN
    rcases Int.lt_trichotomy A B with c | c | c
    · rw [hn _ (by omega), if_neg (by omega), if_pos (by omega)]; rfl
    · rw [c, Int.sub_self, if_neg (by omega), if_neg (by omega)]; rfl
    · rw [hp _ (by omega), if_pos (by omega)]; rfl
  · rw [hn A a, b, hz, hn _ (by omega)]; rfl
  · rw [hn A a, hp B b, hn _ (by omega)]; rfl
  · rw [hn B b, a, hz, hp _ (by omega)]; rfl
  · rw [a, b]; rfl
  · rw [hp B b, a, hz, hn _ (by omega)]; rfl
  · rw [hp A a, hn B b, hp _ (by omega)]; rfl
  · rw [hp A a, b, hz, hp _ (by omega)]; rfl
  · rw [hp A a, hp B b, if_pos rfl]
    unfold cmpN
    rcases Int.lt_trichotomy A B with c | c | c
    · rw [hn _ (by omega), if_pos (by omega)]; rfl
    · rw [c, Int.sub_self, if_neg (by omega), if_neg (by omega)]; rfl
    · rw [hp _ (by omega), if_neg (by omega), if_pos (by omega)]; rfl
theorem sign_T (m : Int) (k : Nat) : (m * (T k : Nat)).sign = m.sign := by
  have h : ((T k : Nat) : Int).sign = 1 := Int.sign_eq_one_of_pos (by have := T_pos k; omega)
  rw [Int.sign_mul, h, Int.mul_one]
theorem cmp_sum (ma ea mb eb : Int) : (sumI ma ea (-mb) eb).sign = if ma.sign = mb.sign then ma.sign * cmpN (ma.natAbs * T (ea - min ea eb).toNat) (mb.natAbs * T (eb - min ea eb).toNat) else if ma.sign < mb.sign then -1 else 1 := by
  unfold sumI
  rw [Int.neg_mul, ← Int.sub_eq_add_neg, cmp_sign, sign_T, sign_T, Int.natAbs_mul, Int.natAbs_mul, Int.natAbs_natCast, Int.natAbs_natCast]
theorem sign_bd (m : Int) : -1 ≤ m.sign ∧ m.sign ≤ 1 := by
  rcases Int.lt_trichotomy m 0 with a | a | a
  · rw [Int.sign_eq_neg_one_of_neg a]; omega
  · rw [a]; decide
  · rw [Int.sign_eq_one_of_pos a]; omega
theorem cmpN_bd (x y : Nat) : -1 ≤ cmpN x y ∧ cmpN x y ≤ 1 := by unfold cmpN; split <;> (try split) <;> omega
set_option maxHeartbeats 4000000 in
theorem cmp_yes (ma ea mb eb : Int) (w : World) (h1 : Rt ma ea) (h2 : Rt mb eb) :
    Calls Tryz.prog 52 #[NV ma ea, NV mb eb] w fun e w' => e = .returned (.int .i64 (sumI ma ea (-mb) eb).sign) ∧ Ext w w' := by
  obtain ⟨b1, b2, b3⟩ := Rt_bd h1
  obtain ⟨b4, b5, b6⟩ := Rt_bd h2
  have hma : I64 ma := by unfold I64; omega
  have hmb : I64 mb := by unfold I64; omega
  have r1 := rtB_yes h1
  have r2 := rtB_yes h2
  have hsa := fun W => sign_any ma ea W
  have hsb := fun W => sign_any mb eb W
  have s1 := sign_bd ma
  have s2 := sign_bd mb
  rw [cmp_sum]
  by_cases hs : ma.sign = mb.sign
  · have hcs := fun W => cmpSize_any ma ea mb eb (ea - min ea eb).toNat (eb - min ea eb).toNat W h1 h2 (by rw [← Int.sign_eq_zero_iff_zero, ← Int.sign_eq_zero_iff_zero (a := mb), hs]) (by omega)
    rw [if_pos hs]
    have s3 := cmpN_bd (ma.natAbs * T (ea - min ea eb).toNat) (mb.natAbs * T (eb - min ea eb).toNat)
    generalize cmpN (ma.natAbs * T (ea - min ea eb).toNat) (mb.natAbs * T (eb - min ea eb).toNat) = C at *
    rw [← hs] at hsb
    clear s2 hs h1 h2
    generalize ma.sign = sa at *
    have w1 : IntKind.i64.wrap (sa * C) = sa * C := by
      have h6 : sa = -1 ∨ sa = 0 ∨ sa = 1 := by omega
      rcases h6 with h | h | h <;> rw [h] <;> exact i64w (by omega) (by omega)
    have w2 : wrap64 (sa * C) = sa * C := by
      have h6 : sa = -1 ∨ sa = 0 ∨ sa = 1 := by omega
      rcases h6 with h | h | h <;> rw [h] <;> exact IntWalk.wrap64_in _ (by omega)
    go_enter Tryz.func52, Tryz.ntmps52
    go_wp2_with (go_at_call 110; (with_reducible refine (right_rt _ _ _ (by assumption)).mono ?_); rintro e w' ⟨rfl, hbr⟩; obtain ⟨osr, dr, rfl⟩ := hbr.more)
    refine wp_plan (S := Ext _) [(0, 0), (2, 0), (1, 1), (3, 1), (4, 0), (5, 0)] [] (by kernel_rfl) (by kernel_rfl) (by kernel_rfl) (fun _ _ d _ _ h => by cases d <;> exact h) (Ext.drew (Ext.refl _)) ?_
    iterate 2 ((refine wpPl_read (v := ?_) rfl ?_ (fun _ h => ?_) ?_; rotate_left 1; rfl; (obtain ⟨_, _, rfl⟩ := h.more; go_simp; try rfl)); try simp only [Act.put, zqA, zqB, zqC])
    (refine wpPl_eff rfl ?_ (fun K hK => ?_); rfl; go_simp; (go_at_call 111; (with_reducible refine (hsa _).mono ?_); rintro e w' ⟨rfl, hx⟩; obtain ⟨os1, d1, rfl⟩ := hx.more); refine hK _ _ ?_ ?_; (repeat (first | (with_reducible (first | exact Ext.refl _ | exact ext_d _ _ _ _ | exact ext_app _ _ _ _ _ | exact ext_app2 _ _ _ _ _ _ | exact ext_app3 _ _ _ _ _ _ _ | exact ext_app4 _ _ _ _ _ _ _ _ | exact ext_app5 _ _ _ _ _ _ _ _ _)) | ((with_reducible refine ext_suffix ⟨_, ?_⟩); (try simp only [Array.append_assoc]); rfl) | (with_reducible (first | apply Ext.drew | apply Ext.alloc | apply Ext.more_)) | apply Ext.drew | apply Ext.alloc | apply Ext.more_)))
    try simp only [Act.put, zqA, zqB, zqC]
    (refine wpPl_eff rfl ?_ (fun K hK => ?_); rfl; go_simp; (go_at_call 111; (with_reducible refine (hsb _).mono ?_); rintro e w' ⟨rfl, hx⟩; obtain ⟨os2, d2, rfl⟩ := hx.more); refine hK _ _ ?_ ?_; (repeat (first | (with_reducible (first | exact Ext.refl _ | exact ext_d _ _ _ _ | exact ext_app _ _ _ _ _ | exact ext_app2 _ _ _ _ _ _ | exact ext_app3 _ _ _ _ _ _ _ | exact ext_app4 _ _ _ _ _ _ _ _ | exact ext_app5 _ _ _ _ _ _ _ _ _)) | ((with_reducible refine ext_suffix ⟨_, ?_⟩); (try simp only [Array.append_assoc]); rfl) | (with_reducible (first | apply Ext.drew | apply Ext.alloc | apply Ext.more_)) | apply Ext.drew | apply Ext.alloc | apply Ext.more_)))
    try simp only [Act.put, zqA, zqB, zqC]
    iterate 2 ((refine wpPl_read (v := ?_) rfl ?_ (fun _ h => ?_) ?_; rotate_left 1; rfl; (obtain ⟨_, _, rfl⟩ := h.more; go_simp; try rfl)); try simp only [Act.put, zqA, zqB, zqC])
    refine wpPl_nil ?_
    go_wp2
    refine wp_plan (S := Ext _) [(0, 0), (2, 0), (3, 0), (1, 1), (4, 1), (5, 0), (6, 0)] [] (by kernel_rfl) (by kernel_rfl) (by kernel_rfl) (fun _ _ d _ _ h => by cases d <;> exact h) (Ext.drew (Ext.refl _)) ?_
    iterate 3 ((refine wpPl_read (v := ?_) rfl ?_ (fun _ h => ?_) ?_; rotate_left 1; rfl; (obtain ⟨_, _, rfl⟩ := h.more; go_simp; try rfl)); try simp only [Act.put, zqA, zqB, zqC])
    (refine wpPl_eff rfl ?_ (fun K hK => ?_); rfl; go_simp; (go_at_call 111; (with_reducible refine (hsa _).mono ?_); rintro e w' ⟨rfl, hx⟩; obtain ⟨os1, d1, rfl⟩ := hx.more); refine hK _ _ ?_ ?_; (repeat (first | (with_reducible (first | exact Ext.refl _ | exact ext_d _ _ _ _ | exact ext_app _ _ _ _ _ | exact ext_app2 _ _ _ _ _ _ | exact ext_app3 _ _ _ _ _ _ _ | exact ext_app4 _ _ _ _ _ _ _ _ | exact ext_app5 _ _ _ _ _ _ _ _ _)) | ((with_reducible refine ext_suffix ⟨_, ?_⟩); (try simp only [Array.append_assoc]); rfl) | (with_reducible (first | apply Ext.drew | apply Ext.alloc | apply Ext.more_)) | apply Ext.drew | apply Ext.alloc | apply Ext.more_)))
    try simp only [Act.put, zqA, zqB, zqC]
    (refine wpPl_eff rfl ?_ (fun K hK => ?_); rfl; go_simp; (go_at_call 112; (with_reducible refine (hcs _).mono ?_); rintro e w' ⟨rfl, hx⟩; obtain ⟨os2, d2, rfl⟩ := hx.more); refine hK _ _ ?_ ?_; (repeat (first | (with_reducible (first | exact Ext.refl _ | exact ext_d _ _ _ _ | exact ext_app _ _ _ _ _ | exact ext_app2 _ _ _ _ _ _ | exact ext_app3 _ _ _ _ _ _ _ | exact ext_app4 _ _ _ _ _ _ _ _ | exact ext_app5 _ _ _ _ _ _ _ _ _)) | ((with_reducible refine ext_suffix ⟨_, ?_⟩); (try simp only [Array.append_assoc]); rfl) | (with_reducible (first | apply Ext.drew | apply Ext.alloc | apply Ext.more_)) | apply Ext.drew | apply Ext.alloc | apply Ext.more_)))
    try simp only [Act.put, zqA, zqB, zqC]
    iterate 2 ((refine wpPl_read (v := ?_) rfl ?_ (fun _ h => ?_) ?_; rotate_left 1; rfl; (obtain ⟨_, _, rfl⟩ := h.more; go_simp; try rfl)); try simp only [Act.put, zqA, zqB, zqC])
    refine wpPl_nil ?_
    go_wp2
    go_ret
    exact ⟨rfl, by with_reducible repeat (first | exact Ext.refl _ | apply Ext.drew | apply Ext.alloc | apply Ext.more_)⟩
  · rw [if_neg hs]
    have e1 : (ma.sign == mb.sign) = false := by simp [hs]
    generalize ma.sign = sa at *
    generalize mb.sign = sb at *
    by_cases hl : sa < sb
    · rw [if_pos hl]
      clear h1 h2 hs
      go_enter Tryz.func52, Tryz.ntmps52
      go_wp2_with (go_at_call 110; (with_reducible refine (right_rt _ _ _ (by assumption)).mono ?_); rintro e w' ⟨rfl, hbr⟩; obtain ⟨osr, dr, rfl⟩ := hbr.more)
      refine wp_plan (S := Ext _) [(0, 0), (2, 0), (1, 1), (3, 1), (4, 0), (5, 0)] [] (by kernel_rfl) (by kernel_rfl) (by kernel_rfl) (fun _ _ d _ _ h => by cases d <;> exact h) (Ext.drew (Ext.refl _)) ?_
      iterate 2 ((refine wpPl_read (v := ?_) rfl ?_ (fun _ h => ?_) ?_; rotate_left 1; rfl; (obtain ⟨_, _, rfl⟩ := h.more; go_simp; try rfl)); try simp only [Act.put, zqA, zqB, zqC])
      (refine wpPl_eff rfl ?_ (fun K hK => ?_); rfl; go_simp; (go_at_call 111; (with_reducible refine (hsa _).mono ?_); rintro e w' ⟨rfl, hx⟩; obtain ⟨os1, d1, rfl⟩ := hx.more); refine hK _ _ ?_ ?_; (repeat (first | (with_reducible (first | exact Ext.refl _ | exact ext_d _ _ _ _ | exact ext_app _ _ _ _ _ | exact ext_app2 _ _ _ _ _ _ | exact ext_app3 _ _ _ _ _ _ _ | exact ext_app4 _ _ _ _ _ _ _ _ | exact ext_app5 _ _ _ _ _ _ _ _ _)) | ((with_reducible refine ext_suffix ⟨_, ?_⟩); (try simp only [Array.append_assoc]); rfl) | (with_reducible (first | apply Ext.drew | apply Ext.alloc | apply Ext.more_)) | apply Ext.drew | apply Ext.alloc | apply Ext.more_)))
      try simp only [Act.put, zqA, zqB, zqC]
      (refine wpPl_eff rfl ?_ (fun K hK => ?_); rfl; go_simp; (go_at_call 111; (with_reducible refine (hsb _).mono ?_); rintro e w' ⟨rfl, hx⟩; obtain ⟨os2, d2, rfl⟩ := hx.more); refine hK _ _ ?_ ?_; (repeat (first | (with_reducible (first | exact Ext.refl _ | exact ext_d _ _ _ _ | exact ext_app _ _ _ _ _ | exact ext_app2 _ _ _ _ _ _ | exact ext_app3 _ _ _ _ _ _ _ | exact ext_app4 _ _ _ _ _ _ _ _ | exact ext_app5 _ _ _ _ _ _ _ _ _)) | ((with_reducible refine ext_suffix ⟨_, ?_⟩); (try simp only [Array.append_assoc]); rfl) | (with_reducible (first | apply Ext.drew | apply Ext.alloc | apply Ext.more_)) | apply Ext.drew | apply Ext.alloc | apply Ext.more_)))
      try simp only [Act.put, zqA, zqB, zqC]
      iterate 2 ((refine wpPl_read (v := ?_) rfl ?_ (fun _ h => ?_) ?_; rotate_left 1; rfl; (obtain ⟨_, _, rfl⟩ := h.more; go_simp; try rfl)); try simp only [Act.put, zqA, zqB, zqC])
      refine wpPl_nil ?_
      go_wp2
      go_ret
      exact ⟨rfl, by with_reducible repeat (first | exact Ext.refl _ | apply Ext.drew | apply Ext.alloc | apply Ext.more_)⟩
    · rw [if_neg hl]
      clear h1 h2 hs
      go_enter Tryz.func52, Tryz.ntmps52
      go_wp2_with (go_at_call 110; (with_reducible refine (right_rt _ _ _ (by assumption)).mono ?_); rintro e w' ⟨rfl, hbr⟩; obtain ⟨osr, dr, rfl⟩ := hbr.more)
      refine wp_plan (S := Ext _) [(0, 0), (2, 0), (1, 1), (3, 1), (4, 0), (5, 0)] [] (by kernel_rfl) (by kernel_rfl) (by kernel_rfl) (fun _ _ d _ _ h => by cases d <;> exact h) (Ext.drew (Ext.refl _)) ?_
      iterate 2 ((refine wpPl_read (v := ?_) rfl ?_ (fun _ h => ?_) ?_; rotate_left 1; rfl; (obtain ⟨_, _, rfl⟩ := h.more; go_simp; try rfl)); try simp only [Act.put, zqA, zqB, zqC])
      (refine wpPl_eff rfl ?_ (fun K hK => ?_); rfl; go_simp; (go_at_call 111; (with_reducible refine (hsa _).mono ?_); rintro e w' ⟨rfl, hx⟩; obtain ⟨os1, d1, rfl⟩ := hx.more); refine hK _ _ ?_ ?_; (repeat (first | (with_reducible (first | exact Ext.refl _ | exact ext_d _ _ _ _ | exact ext_app _ _ _ _ _ | exact ext_app2 _ _ _ _ _ _ | exact ext_app3 _ _ _ _ _ _ _ | exact ext_app4 _ _ _ _ _ _ _ _ | exact ext_app5 _ _ _ _ _ _ _ _ _)) | ((with_reducible refine ext_suffix ⟨_, ?_⟩); (try simp only [Array.append_assoc]); rfl) | (with_reducible (first | apply Ext.drew | apply Ext.alloc | apply Ext.more_)) | apply Ext.drew | apply Ext.alloc | apply Ext.more_)))
      try simp only [Act.put, zqA, zqB, zqC]
      (refine wpPl_eff rfl ?_ (fun K hK => ?_); rfl; go_simp; (go_at_call 111; (with_reducible refine (hsb _).mono ?_); rintro e w' ⟨rfl, hx⟩; obtain ⟨os2, d2, rfl⟩ := hx.more); refine hK _ _ ?_ ?_; (repeat (first | (with_reducible (first | exact Ext.refl _ | exact ext_d _ _ _ _ | exact ext_app _ _ _ _ _ | exact ext_app2 _ _ _ _ _ _ | exact ext_app3 _ _ _ _ _ _ _ | exact ext_app4 _ _ _ _ _ _ _ _ | exact ext_app5 _ _ _ _ _ _ _ _ _)) | ((with_reducible refine ext_suffix ⟨_, ?_⟩); (try simp only [Array.append_assoc]); rfl) | (with_reducible (first | apply Ext.drew | apply Ext.alloc | apply Ext.more_)) | apply Ext.drew | apply Ext.alloc | apply Ext.more_)))
      try simp only [Act.put, zqA, zqB, zqC]
      iterate 2 ((refine wpPl_read (v := ?_) rfl ?_ (fun _ h => ?_) ?_; rotate_left 1; rfl; (obtain ⟨_, _, rfl⟩ := h.more; go_simp; try rfl)); try simp only [Act.put, zqA, zqB, zqC])
      refine wpPl_nil ?_
      go_wp2
      go_ret
      exact ⟨rfl, by with_reducible repeat (first | exact Ext.refl _ | apply Ext.drew | apply Ext.alloc | apply Ext.more_)⟩
set_option maxHeartbeats 2000000 in
theorem cmp_any (ma ea mb eb : Int) (w : World) (hma : I64 ma) (hmb : I64 mb) :
    Calls Tryz.prog 52 #[NV ma ea, NV mb eb] w fun e w' => e = .returned (.int .i64 (cmpS ma ea mb eb)) ∧ Ext w w' := by
  unfold cmpS
  by_cases h1 : Rt ma ea
  · have r1 := rtB_yes h1
    by_cases h2 : Rt mb eb
    · rw [if_pos ⟨h1, h2⟩]; exact cmp_yes ma ea mb eb w h1 h2
    · have r2 := rtB_no h2
      rw [if_neg (fun h => h2 h.2)]
      clear h1 h2
      go_enter Tryz.func52, Tryz.ntmps52
      go_wp2_with (go_at_call 110; (with_reducible refine (right_rt _ _ _ (by assumption)).mono ?_); rintro e w' ⟨rfl, hbr⟩; obtain ⟨osr, dr, rfl⟩ := hbr.more)
      go_ret
      exact ⟨rfl, by with_reducible repeat (first | exact Ext.refl _ | apply Ext.drew | apply Ext.alloc | apply Ext.more_)⟩
  · have r1 := rtB_no h1
    rw [if_neg (fun h => h1 h.1)]
    clear h1
    go_enter Tryz.func52, Tryz.ntmps52
    go_wp2_with (go_at_call 110; (with_reducible refine (right_rt _ _ _ (by assumption)).mono ?_); rintro e w' ⟨rfl, hbr⟩; obtain ⟨osr, dr, rfl⟩ := hbr.more)
    go_ret
    exact ⟨rfl, by with_reducible repeat (first | exact Ext.refl _ | apply Ext.drew | apply Ext.alloc | apply Ext.more_)⟩
end Go.Proofs.YtkcoikelcmpceaaGreatDoor
namespace Go.Proofs.YtkcoikelcmpceaaGreatDoor
open Go.RowKit NM
theorem cmp_bd (ma ea mb eb : Int) : -1 ≤ cmpS ma ea mb eb ∧ cmpS ma ea mb eb ≤ 1 := by
  unfold cmpS; split
  · exact sign_bd _
  · omega
end Go.Proofs.YtkcoikelcmpceaaGreatDoor
namespace Go.Proofs.YtkcoikelcmpceaaGreatDoor
open NM
theorem T_cast_mul (a b : Nat) : ((T (a + b) : Nat) : Int) = (T a : Nat) * (T b : Nat) := by rw [T_add, Int.natCast_mul]
theorem sum_sc {ma ea mb eb : Int} (h1 : -100 ≤ ea) (h2 : -100 ≤ eb) : sumI ma ea mb eb * (T (min ea eb + 100).toNat : Nat) = sc ma ea + sc mb eb := by
  unfold sumI sc
  rw [Int.add_mul, Int.mul_assoc, Int.mul_assoc, ← T_cast_mul, ← T_cast_mul]
  congr 3
  · congr 2; omega
  · congr 2; omega
theorem sc_neg (m e : Int) : sc (-m) e = - sc m e := by unfold sc; rw [Int.neg_mul]
theorem cmp_sc {ma ea mb eb : Int} (h1 : Rt ma ea) (h2 : Rt mb eb) : cmpS ma ea mb eb = (sc ma ea - sc mb eb).sign := by
  obtain ⟨_, b2, b3⟩ := Rt_bd h1
  obtain ⟨_, b5, b6⟩ := Rt_bd h2
  unfold cmpS
  rw [if_pos ⟨h1, h2⟩, ← sign_T _ (min ea eb + 100).toNat, sum_sc (by omega) (by omega), sc_neg, Int.sub_eq_add_neg]
end Go.Proofs.YtkcoikelcmpceaaGreatDoor
namespace Go.Proofs.YtkcoikelcmpceaaGreatDoor
open Go.RowKit NM
def tl (t : ByteArray) : List UInt8 := t.data.toList
theorem tl_append (a b : ByteArray) : tl (a ++ b) = tl a ++ tl b := by unfold tl; simp
theorem tl_size (a : ByteArray) : (tl a).length = a.size := rfl
theorem tl_eq {a : ByteArray} {l : List UInt8} (h : tl a = l) : a = ⟨l.toArray⟩ := bytes_eq h
theorem tl_extract (s : ByteArray) (i j : Nat) (hj : j ≤ s.size) : tl (s.extract i j) = ((tl s).take j).drop i := by
  unfold tl
  rw [ByteArray.data_extract, Array.toList_extract, List.extract_eq_take_drop, List.drop_take]
theorem digit_at {d : Nat} (h : d < 10) : tl ((⟨#[48, 49, 50, 51, 52, 53, 54, 55, 56, 57]⟩ : ByteArray).extract d (d + 1)) = [UInt8.ofNat (48 + d)] := by
  rw [tl_extract _ _ _ (by show d + 1 ≤ 10; omega)]
  match d, h with
  | 0, _ => rfl
  | 1, _ => rfl
  | 2, _ => rfl
  | 3, _ => rfl
  | 4, _ => rfl
  | 5, _ => rfl
  | 6, _ => rfl
  | 7, _ => rfl
  | 8, _ => rfl
  | 9, _ => rfl
theorem text_neg {m ex : Int} {n k E c5 : Nat} (hn : (Lib.decDigits m.natAbs).length = n) (hex : ex = -(E : Int)) (hE : 0 < E) (hk : n + k ≤ max n (E + 1)) (hc : ¬ n + k ≤ E) (h5 : n + k = E + c5) :
    (if m < 0 then [45] else []) ++ ((List.replicate k 48 ++ Lib.decDigits m.natAbs).take c5 ++ 46 :: (List.replicate k 48 ++ Lib.decDigits m.natAbs).drop c5) = textL m ex := by
  unfold textL
  congr 1
  rw [if_neg (show ¬ 0 ≤ ex by omega), hn]
  by_cases hnE : E < n
  · obtain rfl : k = 0 := by omega
    rw [if_pos (by omega), List.replicate_zero, List.nil_append]
    have : ((n : Int) + ex).toNat = c5 := by omega
    rw [this]
  · rw [if_neg (by omega)]
    obtain ⟨k', rfl⟩ : ∃ k', k = k' + 1 := ⟨k - 1, by omega⟩
    have h1 : c5 = 1 := by omega
    have h2 : (-((n : Int) + ex)).toNat = k' := by omega
    rw [h1, h2, List.replicate_succ]
    rfl
theorem text_pos {m ex : Int} {j : Nat} (hex : 0 ≤ ex) (hj : j = ex.toNat) : (if m < 0 then [45] else []) ++ (Lib.decDigits m.natAbs ++ List.replicate j 48) = textL m ex := by
  unfold textL
  rw [if_pos hex, hj]
def strLen : Value → Nat
  | .string t => t.size
  | _ => 0
set_option maxHeartbeats 2000000 in
theorem rtext_any (m ex : Int) (w : World) (hm : I64 m) :
    Calls Tryz.prog 11 #[NV m ex] w fun e w' => e = .returned (.string (textS m ex)) ∧ Ext w w' := by
  unfold textS
  by_cases h : Rt m ex
  · rw [if_pos h]
    have r1 := rtB_yes h
    by_cases h0 : m = 0
    · obtain rfl : ex = 0 := by
        rcases h with h | h
        · exact h.2
        · exact absurd h0 h.1
      subst h0
      have ht : textB 0 0 = ⟨#[48]⟩ := by
        unfold textB textL
        rw [show (0 : Int).natAbs = 0 from rfl, Lib.decDigits_one (by decide)]
        rfl
      rw [ht]
      clear ht h
      go_enter Tryz.func11, Tryz.ntmps11
      go_wp2_with (go_at_call 19; (with_reducible refine (rright_rt _ _ _ (by assumption)).mono ?_); rintro e w' ⟨rfl, hbr⟩; obtain ⟨osr, dr, rfl⟩ := hbr.more)
      exact bodyPost_ret (v := .string ⟨#[48]⟩) (by simp [results, Tryz.results11, go_sem]) rfl ⟨rfl, by with_reducible repeat (first | exact Ext.refl _ | apply Ext.drew | apply Ext.alloc | apply Ext.more_)⟩
    · obtain ⟨b1, b2, b3⟩ := Rt_bd h
      have hL : Lib.decDigits m.natAbs = (dig m.natAbs).map fun d => UInt8.ofNat (48 + d) := by rw [dec_dig, dig0_pos (by omega)]
      have hndp : 0 < nd m.natAbs := by
        rcases Nat.eq_zero_or_pos (nd m.natAbs) with h1 | h1
        · have := nd_eq_zero.1 h1; omega
        · exact h1
      have hdl := dig_length m.natAbs
      have hda := dig_all m.natAbs
      have hnd : nd m.natAbs ≤ 15 := (nd_le_iff _ _).2 (by have : T 15 = 1000000000000000 := by decide
                                                           omega)
      generalize hTX : textB m ex = TX
      have HTX := Lib.hid hTX
      have HL := Lib.hid hL
      have HDL := Lib.hid hdl
      have HDA := Lib.hid hda
      have h0' : (m == 0) = false := by simp [h0]
      have hdg := fun W => rdigits m W hm
      clear hTX hL hdl hda h h0
      generalize nd m.natAbs = n at *
      go_enter Tryz.func11, Tryz.ntmps11
      go_upto_block 0 with (first | (go_at_call 19; (with_reducible refine (rright_rt _ _ _ (by assumption)).mono ?_); rintro e w' ⟨rfl, hbr⟩; obtain ⟨osr, dr, rfl⟩ := hbr.more) | (go_at_call 18; (with_reducible refine (hdg _).mono ?_); rintro e w' ⟨A, c, rfl, hrd, hcap, hx⟩; obtain ⟨osd, dd, rfl⟩ := hx.more))
      refine wp_world fun W hW => ?_
      have a0 : W.cell? ⟨w.heap.size, 0, none⟩ = some (.int .i64 m) := by rw [hW]; go_simp
      have a1 : W.cell? ⟨w.heap.size, 1, none⟩ = some (.int .i64 ex) := by rw [hW]; go_simp
      have hz : w.heap.size < W.heap.size := by rw [hW]; simp; try omega
      have hxW : Ext w W := by rw [hW]; exact by with_reducible repeat (first | exact Ext.refl _ | apply Ext.drew | apply Ext.alloc | apply Ext.more_)
      have HRD : Hid (Rd 0 W A (i6 (dig m.natAbs))) := by show Rd _ _ _ _; rw [hW]; rw [more_more] at hrd; exact hrd.mono (Nat.zero_le _)
      clear hW hrd hx hbr
      go_wp2_with fail
      go_loopw [4, 5] (fun s4 s5 wr => ∃ (j : Nat) (t : ByteArray), j ≤ n ∧ s4 = .string t ∧ s5 = .int .i64 (j : Int) ∧ t.size = j ∧ Ext W wr ∧ Hid (tl t = ((dig m.natAbs).take j).map fun d => UInt8.ofNat (48 + d))) (fun _ s5 _ => n - (intOf s5).toNat)
      case atStart => exact ⟨0, ⟨#[]⟩, Nat.zero_le _, rfl, rfl, rfl, Ext.refl _, by show _ = _; rfl⟩
      case round =>
        obtain ⟨j, t, hj, rfl, rfl, htj, hxr, HT⟩ := hrel
        by_cases hjn : j < n
        · obtain ⟨d, hd⟩ : ∃ d, (dig m.natAbs)[j]? = some d := ⟨_, List.getElem?_eq_getElem (by rw [HDL.out]; exact hjn)⟩
          have hd10 : d < 10 := HDA.out d (List.mem_of_getElem? hd)
          obtain ⟨b, off, rfl, hb, hcell⟩ := Rd.at_ (HRD.out.ext hxr) hd
          have hbl := lt_of_cell hcell
          have HD := Lib.hid hd
          have HTJ := Lib.hid htj
          clear hd htj
          have w1 : IntKind.i64.wrap ((d : Int) + 1) = ((d + 1 : Nat) : Int) := i64w (by omega) (by omega)
          have g1 : (0 : Int) ≤ (d : Int) + 1 ∧ (d : Int) + 1 ≤ 10 := by omega
          have g2 : (d : Int) ≤ (d : Int) + 1 := by omega
          have g3 : t.size ≤ 15 := by have := HTJ.out; omega
          have g4 : min (d + 1) 10 - d = 1 := by omega
          have g5 : ¬ 9223372036854775807 < t.size + 1 := by omega
          go_upto_region 10 with fail
          refine wp_plan (S := Ext _) [(0, 0), (1, 0), (2, 0), (3, 0), (4, 0), (5, 0), (6, 0), (7, 0), (8, 0), (9, 0), (10, 0), (11, 0), (12, 0)] [] (by kernel_rfl) (by kernel_rfl) (by kernel_rfl) (fun _ _ d _ _ h => by cases d <;> exact h) (Ext.drew (Ext.refl _)) ?_
          iterate 13 ((refine wpPl_read (v := ?_) rfl ?_ (fun _ h => ?_) ?_; rotate_left 1; rfl; (obtain ⟨_, _, rfl⟩ := h.more; go_simp; try rfl)); try simp only [Act.put, zqA, zqB, zqC])
          refine wpPl_nil ?_
          go_wp2_with fail
          refine ⟨⟨j + 1, _, by omega, rfl, by go_num, ?_, by with_reducible repeat (first | exact hxr | exact Ext.refl _ | apply Ext.drew | apply Ext.more_), ?_⟩, by simp [intOf]; omega⟩
          · have h1 := congrArg List.length (digit_at hd10)
            rw [tl_size] at h1
            rw [ByteArray.size_append, HTJ.out]
            exact congrArg (j + ·) h1
          · show tl _ = _
            rw [take_at HD.out, List.map_append, tl_append, HT.out]
            exact congrArg _ (digit_at hd10)
        · obtain rfl : n = j := by omega
          have HS : Hid (tl t = Lib.decDigits m.natAbs) := by
            show _ = _
            rw [HT.out, HL.out, List.take_of_length_le (by rw [HDL.out]; exact Nat.le_refl _)]
          have HN := Lib.hid htj
          have hxw := hxW.trans hxr
          have a0r := hxr.cell_some a0
          have a1r := hxr.cell_some a1
          have hzr : w.heap.size < wr.heap.size := by have := hxr.size; omega
          have ht15 : t.size ≤ 15 := by omega
          clear hj hjn htj HT hdg HRD hxW hxr a0 a1 hz HDA HDL
          go_wp2_with fail
          go_loopw [4, 6] (fun s4 s6 wx => wx = wr ∧ ∃ (j : Nat) (t : ByteArray), j ≤ ex.toNat ∧ s4 = .string t ∧ s6 = .int .i64 (j : Int) ∧ t.size ≤ 15 + j ∧ Hid (tl t = Lib.decDigits m.natAbs ++ List.replicate j 48)) (fun _ s6 _ => ex.toNat - (intOf s6).toNat)
          case atStart => exact ⟨rfl, 0, t, Nat.zero_le _, rfl, rfl, by omega, by show _ = _; rw [List.replicate_zero, List.append_nil]; exact HS.out⟩
          case round =>
            obtain ⟨hwx, j, t2, hj, rfl, rfl, ht2, HT2⟩ := hrel
            subst hwx
            have g5 : ¬ 9223372036854775807 < t2.size + 1 := by omega
            by_cases hje : (j : Int) < ex
            · go_wp2_with fail
              refine ⟨⟨trivial, j + 1, _, by omega, rfl, by go_num, by rw [ByteArray.size_append]; show t2.size + 1 ≤ _; omega, ?_⟩, by simp [intOf]; omega⟩
              show tl _ = _
              rw [tl_append, HT2.out, List.replicate_succ', List.append_assoc]; rfl
            · have hjx : Hid (j = ex.toNat) := by show _ = _; omega
              by_cases he : ex < 0
              · have hj0 : j = 0 := by have := hjx.out; omega
                subst hj0
                obtain ⟨E, hE⟩ : ∃ E : Nat, ex = -(E : Int) := ⟨(-ex).toNat, by omega⟩
                have hE0 : 0 < E ∧ E ≤ 40 := by omega
                have HE := Lib.hid hE
                have HT3 : Hid (tl t2 = Lib.decDigits m.natAbs) := by show _ = _; rw [HT2.out, List.replicate_zero, List.append_nil]
                have HN2 : Hid (t2.size = n) := by show _ = _; rw [← tl_size, HT3.out, ← HS.out, tl_size]; exact HN.out
                have w1 : IntKind.i64.wrap (-ex) = (E : Int) := by rw [i64w (by omega) (by omega)]; omega
                have w2 : -ex = (E : Int) := by omega
                clear hE HT2 hje
                go_wp2_with fail
                go_loopw [4] (fun s4 wx => wx = wr ∧ ∃ (k : Nat) (t : ByteArray), s4 = .string t ∧ t.size = n + k ∧ n + k ≤ max n (E + 1) ∧ Hid (tl t = List.replicate k 48 ++ Lib.decDigits m.natAbs)) (fun s4 _ => 100 - strLen s4)
                case atStart => exact ⟨rfl, 0, t2, rfl, HN2.out, by omega, HT3⟩
                case round =>
                  obtain ⟨hwx, k, t4, rfl, ht4, hk, HT4⟩ := hrel
                  subst hwx
                  have hk2 : n + k ≤ 56 := by omega
                  have HK := Lib.hid ht4
                  have ht4' : t4.size ≤ 56 := by omega
                  by_cases hc : n + k ≤ E
                  · have hc' : (t4.size : Int) ≤ (E : Int) := by omega
                    clear ht4
                    go_wp2_with fail
                    refine ⟨⟨trivial, k + 1, _, rfl, ?_, by omega, ?_⟩, ?_⟩
                    · rw [ByteArray.size_append, HK.out]; show 1 + (n + k) = _; omega
                    · show tl _ = _
                      rw [tl_append, HT4.out, List.replicate_succ]; rfl
                    · have h1 : (⟨#[48]⟩ ++ t4 : ByteArray).size = 1 + t4.size := by rw [ByteArray.size_append]; rfl
                      show 100 - (⟨#[48]⟩ ++ t4 : ByteArray).size < 100 - t4.size
                      omega
                  · have hc' : ¬ (t4.size : Int) ≤ (E : Int) := by omega
                    obtain ⟨c5, hc5⟩ : ∃ c5 : Nat, t4.size = E + c5 := ⟨t4.size - E, by omega⟩
                    have e5 : (t4.size : Int) + ex = (c5 : Int) := by have := HE.out; omega
                    have w3 : IntKind.i64.wrap ((t4.size : Int) + ex) = (c5 : Int) := by rw [e5]; exact i64w (by omega) (by omega)
                    have g6 : (0 : Int) ≤ (c5 : Int) ∧ (c5 : Int) ≤ (t4.size : Int) := by omega
                    have g7 : c5 ≤ t4.size := by omega
                    have HC5 : Hid (c5 = n + k - E) := by show _ = _; omega
                    have HX : Hid ((if m < 0 then [45] else []) ++ (tl (t4.extract 0 c5) ++ 46 :: tl (t4.extract c5 t4.size)) = textL m ex) := by
                      have hdl : (Lib.decDigits m.natAbs).length = n := by rw [← HS.out]; exact HN.out
                      rw [tl_extract _ _ _ g7, tl_extract _ _ _ (Nat.le_refl _), List.drop_zero, List.take_of_length_le (i := t4.size) (l := tl t4) (by rw [tl_size]; exact Nat.le_refl _), HT4.out]
                      exact text_neg hdl HE.out hE0.1 hk hc (by omega)
                    have g8 : ¬ 9223372036854775807 < c5 + 1 := by omega
                    have g9 : ¬ 9223372036854775807 < c5 + 1 + (t4.size - c5) := by omega
                    clear ht4 hc HK hc5 e5
                    go_upto_region 18 with fail
                    refine wp_plan (S := Ext _) [(0, 0), (1, 0), (2, 0), (3, 0), (4, 0), (5, 0), (6, 0), (7, 0), (8, 0), (9, 0), (10, 0), (11, 0), (12, 0), (13, 0), (14, 0), (15, 0), (16, 0)] [] (by kernel_rfl) (by kernel_rfl) (by kernel_rfl) (fun _ _ d _ _ h => by cases d <;> exact h) (Ext.drew (Ext.refl _)) ?_
                    iterate 17 ((refine wpPl_read (v := ?_) rfl ?_ (fun _ h => ?_) ?_; rotate_left 1; rfl; (obtain ⟨_, _, rfl⟩ := h.more; go_simp; try rfl)); try simp only [Act.put, zqA, zqB, zqC])
                    refine wpPl_nil ?_
                    by_cases hneg : m < 0
                    · have HNG := Lib.hid hneg
                      go_wp2_with fail
                      go_ret
                      refine ⟨ret_str ?_, hxw.drew⟩
                      rw [← HTX.out]
                      apply tl_eq
                      rw [← HX.out, if_pos HNG.out, tl_append, tl_append, tl_append, List.append_assoc]; rfl
                    · have HNG := Lib.hid hneg
                      go_wp2_with fail
                      go_ret
                      refine ⟨ret_str ?_, hxw.drew⟩
                      rw [← HTX.out]
                      apply tl_eq
                      rw [← HX.out, if_neg (by have := HNG.out; omega), tl_append, tl_append, List.append_assoc]; rfl
              · have HX : Hid ((if m < 0 then [45] else []) ++ tl t2 = textL m ex) := by
                  show _ = _
                  rw [HT2.out]; exact text_pos (by omega) hjx.out
                have ht2' : t2.size ≤ 55 := by omega
                by_cases hneg : m < 0
                · have HNG := Lib.hid hneg
                  go_wp2_with fail
                  go_ret
                  refine ⟨ret_str ?_, hxw⟩
                  rw [← HTX.out]
                  apply tl_eq
                  rw [← HX.out, if_pos HNG.out, tl_append]; rfl
                · have HNG := Lib.hid hneg
                  go_wp2_with fail
                  go_ret
                  refine ⟨ret_str ?_, hxw⟩
                  rw [← HTX.out]
                  apply tl_eq
                  rw [← HX.out, if_neg (by have := HNG.out; omega)]; rfl
  · rw [if_neg h]
    have r1 := rtB_no h
    clear h
    go_enter Tryz.func11, Tryz.ntmps11
    go_wp2_with (go_at_call 19; (with_reducible refine (rright_rt _ _ _ (by assumption)).mono ?_); rintro e w' ⟨rfl, hbr⟩; obtain ⟨osr, dr, rfl⟩ := hbr.more)
    exact bodyPost_ret (v := .string ⟨#[]⟩) (by simp [results, Tryz.results11, go_sem]) rfl ⟨rfl, by with_reducible repeat (first | exact Ext.refl _ | apply Ext.drew | apply Ext.alloc | apply Ext.more_)⟩
end Go.Proofs.YtkcoikelcmpceaaGreatDoor
namespace Go.Proofs.YtkcoikelcmpceaaGreatDoor
open Go.RowKit NM
def upB (b : UInt8) : UInt8 := if 97 ≤ b ∧ b ≤ 122 then b - 32 else b
def foldB (s : ByteArray) : ByteArray := ⟨((tl s).map upB).toArray⟩
theorem tl_fold (s : ByteArray) : tl (foldB s) = (tl s).map upB := by unfold foldB; rfl
theorem foldB_size (s : ByteArray) : (foldB s).size = s.size := by rw [← tl_size, tl_fold, List.length_map, tl_size]
def cmpT (a b : ByteArray) : Int := Lib.compareBytes (tl (foldB a)) (tl (foldB b))
def sgI (a b : Int) : Int := if a < b then -1 else if b < a then 1 else 0
def sgB (a b : Bool) : Int := if a = b then 0 else if b then -1 else 1
def Val.only (k : Int) : Val := ⟨k, 0, 0, ⟨#[]⟩, false, 0⟩
/-- value.beside. -/
def besideV (v w : Val) : Val := if v.kind ≠ 0 then v else if w.kind = 1 ∨ w.kind = 2 ∨ w.kind = 3 then Val.only w.kind else v
def cmpK (a b : Val) : Int :=
  if a.kind ≠ b.kind then (if a.kind < b.kind then -1 else 1)
  else if a.kind = 1 then cmpS a.mant a.exp b.mant b.exp
  else if a.kind = 2 then cmpT a.text b.text
  else if a.kind = 3 then sgB a.truth b.truth
  else if a.kind = 4 then sgI a.fault b.fault
  else 0
/-- value.Compare. -/
def cmpV (a b : Val) : Int := cmpK (besideV a b) (besideV b a)
theorem cb_flip : ∀ a b : List UInt8, Lib.compareBytes b a = - Lib.compareBytes a b
  | [], [] => rfl
  | [], _ :: _ => rfl
  | _ :: _, [] => rfl
  | a :: l, b :: m => by
    unfold Lib.compareBytes
    by_cases h1 : a < b
    · rw [if_pos h1, if_neg (UInt8.lt_asymm h1), if_pos h1]; rfl
    · by_cases h2 : b < a
      · rw [if_pos h2, if_neg h1, if_pos h2]
      · rw [if_neg h2, if_neg h1, if_neg h1, if_neg h2]; exact cb_flip l m
theorem cb_vals : ∀ a b : List UInt8, Lib.compareBytes a b = -1 ∨ Lib.compareBytes a b = 0 ∨ Lib.compareBytes a b = 1
  | [], [] => Or.inr (Or.inl rfl)
  | [], _ :: _ => Or.inl rfl
  | _ :: _, [] => Or.inr (Or.inr rfl)
  | a :: l, b :: m => by
    unfold Lib.compareBytes
    split
    · exact Or.inl rfl
    · split
      · exact Or.inr (Or.inr rfl)
      · exact cb_vals l m
/-- A kind that may be, and nothing told beside it where there is nothing. -/
def Val.sane (x : Val) : Prop := 0 ≤ x.kind ∧ x.kind ≤ 4 ∧ (x.kind = 0 → x.fault = 0)
/-- Blank has nothing told. -/
def Val.tidy (x : Val) : Prop := x.sane ∧ (x.kind = 0 → x = Val.only 0)
/-- What a right value is. -/
theorem right_cases {x : Val} (h : valRight x = true) : x.tidy ∧ (x.kind = 1 → numRightB x.mant x.exp = true) ∧ (x.kind = 2 → x.text.size ≤ 255) ∧ (x.kind = 4 → 1 ≤ x.fault ∧ x.fault ≤ 9) := by
  unfold valRight at h
  by_cases h0 : x.kind = 0
  · rw [if_pos h0] at h
    have := of_decide_eq_true h
    subst this
    exact ⟨⟨⟨by decide, by decide, fun _ => rfl⟩, fun _ => rfl⟩, fun h => absurd h (by decide), fun h => absurd h (by decide), fun h => absurd h (by decide)⟩
  · rw [if_neg h0] at h
    by_cases h1 : x.kind = 1
    · rw [if_pos h1, Bool.and_eq_true] at h
      exact ⟨⟨⟨by omega, by omega, fun h => by omega⟩, fun h => by omega⟩, fun _ => h.1, fun h => by omega, fun h => by omega⟩
    · rw [if_neg h1] at h
      by_cases h2 : x.kind = 2
      · rw [if_pos h2] at h
        have := of_decide_eq_true h
        refine ⟨⟨⟨by omega, by omega, fun h => by omega⟩, fun h => by omega⟩, fun h => by omega, fun _ => ?_, fun h => by omega⟩
        unfold textV at this
        by_cases h5 : 255 < x.text.size
        · rw [if_pos h5] at this; rw [this] at h2; cases h2
        · omega
      · rw [if_neg h2] at h
        by_cases h3 : x.kind = 3
        · exact ⟨⟨⟨by omega, by omega, fun h => by omega⟩, fun h => by omega⟩, fun h => by omega, fun h => by omega, fun h => by omega⟩
        · rw [if_neg h3] at h
          by_cases h4 : x.kind = 4
          · rw [if_pos h4] at h
            have := of_decide_eq_true h
            refine ⟨⟨⟨by omega, by omega, fun h => by omega⟩, fun h => by omega⟩, fun h => by omega, fun h => by omega, fun _ => ?_⟩
            have hf : x.fault = badF x.fault := congrArg Val.fault this
            unfold badF at hf
            split at hf <;> omega
          · rw [if_neg h4] at h; cases h
end Go.Proofs.YtkcoikelcmpceaaGreatDoor
namespace Go.Proofs.YtkcoikelcmpceaaGreatDoor
open Go.RowKit NM
/-- Where num's reader stands. -/
structure St where
  st : Nat
  neg : Bool
  npow : Bool
  ds : List Nat
  beh : Nat
  pow : Nat
def isD (c : Nat) : Bool := decide (48 ≤ c ∧ c ≤ 57)
def digS (s : St) (c : Nat) : St :=
  if s.st ≤ 2 then { s with st := 2, ds := s.ds ++ [c - 48] }
  else if s.st ≤ 4 then { s with st := 4, beh := s.beh + 1, ds := s.ds ++ [c - 48] }
  else { s with st := 7, pow := if s.pow < 100000 then s.pow * 10 + (c - 48) else s.pow }
def takeS (s : St) (c : Nat) : Option St :=
  if isD c = true then some (digS s c)
  else if c = 45 ∧ s.st = 0 then some { s with neg := true, st := 1 }
  else if c = 46 ∧ s.st ≤ 2 then some { s with st := 3 }
  else if (c = 101 ∨ c = 69) ∧ (s.st = 2 ∨ s.st = 4) then some { s with st := 5 }
  else if (c = 45 ∨ c = 43) ∧ s.st = 5 then some { s with npow := decide (c = 45), st := 6 }
  else none
def runS : List Nat → St → Option St
  | [], s => some s
  | c :: l, s => (takeS s c).bind (runS l)
def endS (s : St) : Option (Int × Int) :=
  if s.st = 2 ∨ s.st = 4 ∨ s.st = 7 then rnd s.neg (val s.ds) false ((if s.npow then -(s.pow : Int) else s.pow) - s.beh) else none
def st0 : St := ⟨0, false, false, [], 0, 0⟩
def parM (l : List Nat) : Option (Int × Int) := (runS l st0).bind endS
theorem runS_append (a b : List Nat) : ∀ s, runS (a ++ b) s = (runS a s).bind (runS b) := by
  induction a with
  | nil => intro s; rfl
  | cons c l ih =>
    intro s
    show (takeS s c).bind (runS (l ++ b)) = ((takeS s c).bind (runS l)).bind (runS b)
    cases takeS s c with
    | none => rfl
    | some s' => exact ih s'
theorem run_whole (a : List Nat) (h : ∀ c ∈ a, isD c = true) : ∀ s : St, s.st ≤ 2 → runS a s = some { s with st := if a = [] then s.st else 2, ds := s.ds ++ a.map (· - 48) } := by
  induction a with
  | nil => intro s hs; simp [runS]
  | cons c l ih =>
    intro s hs
    have hc := h c (List.mem_cons_self ..)
    show (takeS s c).bind (runS l) = _
    unfold takeS
    rw [if_pos hc]
    unfold digS
    rw [if_pos hs, Option.bind_some, ih (fun c hc => h c (List.mem_cons_of_mem _ hc)) _ (Nat.le_refl 2)]
    simp
theorem run_part (a : List Nat) (h : ∀ c ∈ a, isD c = true) : ∀ s : St, s.st = 3 ∨ s.st = 4 → runS a s = some { s with st := if a = [] then s.st else 4, ds := s.ds ++ a.map (· - 48), beh := s.beh + a.length } := by
  induction a with
  | nil => intro s hs; simp [runS]
  | cons c l ih =>
    intro s hs
    have hc := h c (List.mem_cons_self ..)
    show (takeS s c).bind (runS l) = _
    unfold takeS
    rw [if_pos hc]
    unfold digS
    rw [if_neg (by omega), if_pos (by omega), Option.bind_some, ih (fun c hc => h c (List.mem_cons_of_mem _ hc)) _ (Or.inr rfl)]
    simp; omega
/-- The bytes that tell digits. -/
def chr (l : List Nat) : List Nat := l.map (48 + ·)
theorem chr_isD {l : List Nat} (h : AllD l) : ∀ c ∈ chr l, isD c = true := by
  intro c hc
  obtain ⟨d, hd, rfl⟩ := List.mem_map.1 hc
  have := h d hd
  unfold isD
  exact decide_eq_true (by omega)
theorem chr_back (l : List Nat) : (chr l).map (· - 48) = l := by
  unfold chr
  rw [List.map_map]
  conv => rhs; rw [← List.map_id l]
  apply List.map_congr_left
  intro d _
  show 48 + d - 48 = d
  omega
theorem chr_dec (n : Nat) : (Lib.decDigits n).map (·.toNat) = chr (dig0 n) := by
  rw [dec_dig, List.map_map]
  apply List.map_congr_left
  intro d hd
  have := dig0_all n d hd
  show (UInt8.ofNat (48 + d)).toNat = 48 + d
  rw [UInt8.toNat_ofNat']; omega
def sgnS (neg : Bool) : St := { st0 with neg := neg, st := if neg then 1 else 0 }
theorem run_sign (neg : Bool) (l : List Nat) : runS ((if neg then [45] else []) ++ l) st0 = runS l (sgnS neg) := by
  cases neg with
  | false => rfl
  | true =>
    show (takeS st0 45).bind (runS l) = _
    have : takeS st0 45 = some (sgnS true) := by simp [takeS, isD, st0, sgnS]
    rw [this]; rfl
theorem sgnS_st (neg : Bool) : (sgnS neg).st ≤ 2 := by cases neg <;> decide
theorem run_dot {s : St} (h : s.st = 2) : takeS s 46 = some { s with st := 3 } := by
  unfold takeS
  rw [if_neg (by decide), if_neg (by omega), if_pos (by omega)]
theorem text_back {m e : Int} (h : Rt m e) : parM ((textL m e).map (·.toNat)) = some (m, e) := by
  have hr := rnd_of_right false h
  obtain ⟨b1, b2, b3⟩ := Rt_bd h
  clear h
  have hD := dig0_all m.natAbs
  have hV := dig0_val m.natAbs
  have hlen : (Lib.decDigits m.natAbs).length = (dig0 m.natAbs).length := by rw [dec_dig, List.length_map]
  have hpos : 0 < (dig0 m.natAbs).length := by rw [dig0_length]; omega
  have hsg : (if m < 0 then [(45 : UInt8)] else []).map (·.toNat) = if decide (m < 0) then [45] else [] := by by_cases hm : m < 0 <;> simp [hm]
  unfold textL parM
  rw [List.map_append, hsg, run_sign, hlen]
  by_cases he : 0 ≤ e
  · rw [if_pos he, List.map_append, chr_dec, List.map_replicate]
    have hz : List.replicate e.toNat ((48 : UInt8).toNat) = chr (List.replicate e.toNat 0) := by unfold chr; rw [List.map_replicate]; rfl
    rw [hz]
    have ha : chr (dig0 m.natAbs) ++ chr (List.replicate e.toNat 0) = chr (dig0 m.natAbs ++ List.replicate e.toNat 0) := by unfold chr; rw [List.map_append]
    rw [ha, run_whole _ (chr_isD (hD.append (AllD.rep _ _ (by omega)))) _ (sgnS_st _), Option.bind_some, chr_back]
    unfold endS
    have hne : ¬ chr (dig0 m.natAbs ++ List.replicate e.toNat 0) = [] := by
      intro h0
      have := congrArg List.length h0
      simp only [chr, List.length_map, List.length_append, List.length_replicate, List.length_take, List.length_drop, List.length_nil] at this
      omega
    rw [if_pos (by simp [hne])]
    show rnd (decide (m < 0)) (val ([] ++ (dig0 m.natAbs ++ List.replicate e.toNat 0))) false (((0 : Nat) : Int) - ((0 : Nat) : Int)) = _
    rw [List.nil_append, val_append, val_rep0, List.length_replicate, hV, Nat.add_zero]
    have := rnd_scale (decide (m < 0)) m.natAbs e.toNat e
    rw [show e - (e.toNat : Int) = ((0 : Nat) : Int) - ((0 : Nat) : Int) by omega] at this
    rw [this, hr]
  · rw [if_neg he]
    by_cases hk : 0 < ((dig0 m.natAbs).length : Int) + e
    · rw [if_pos hk]
      obtain ⟨k, hk1⟩ : ∃ k : Nat, ((dig0 m.natAbs).length : Int) + e = k := ⟨(((dig0 m.natAbs).length : Int) + e).toNat, by omega⟩
      rw [hk1, Int.toNat_natCast, List.map_append, List.map_take, List.map_cons, List.map_drop, chr_dec]
      have e1 : (chr (dig0 m.natAbs)).take k = chr ((dig0 m.natAbs).take k) := by unfold chr; rw [List.map_take]
      have e2 : (chr (dig0 m.natAbs)).drop k = chr ((dig0 m.natAbs).drop k) := by unfold chr; rw [List.map_drop]
      rw [e1, e2, runS_append, run_whole _ (chr_isD (hD.take k)) _ (sgnS_st _), Option.bind_some, chr_back]
      have n1 : ¬ chr ((dig0 m.natAbs).take k) = [] := by
        intro h0
        have := congrArg List.length h0
        simp only [chr, List.length_map, List.length_append, List.length_replicate, List.length_take, List.length_drop, List.length_nil] at this
        omega
      have n2 : ¬ chr ((dig0 m.natAbs).drop k) = [] := by
        intro h0
        have := congrArg List.length h0
        simp only [chr, List.length_map, List.length_append, List.length_replicate, List.length_take, List.length_drop, List.length_nil] at this
        omega
      rw [if_neg n1]
      show ((takeS _ 46).bind (runS _)).bind endS = _
      rw [run_dot rfl, Option.bind_some, run_part _ (chr_isD (hD.drop k)) _ (Or.inl rfl), Option.bind_some, chr_back, if_neg n2]
      unfold endS
      rw [if_pos (by simp)]
      show rnd (decide (m < 0)) (val ([] ++ (dig0 m.natAbs).take k ++ (dig0 m.natAbs).drop k)) false (((0 : Nat) : Int) - ((0 + (chr ((dig0 m.natAbs).drop k)).length : Nat) : Int)) = _
      rw [List.nil_append, List.take_append_drop, hV]
      have : ((0 : Nat) : Int) - ((0 + (chr ((dig0 m.natAbs).drop k)).length : Nat) : Int) = e := by
        unfold chr; rw [List.length_map, List.length_drop]; omega
      rw [this, hr]
    · rw [if_neg hk]
      obtain ⟨k, hk1⟩ : ∃ k : Nat, -(((dig0 m.natAbs).length : Int) + e) = k := ⟨(-(((dig0 m.natAbs).length : Int) + e)).toNat, by omega⟩
      rw [hk1, Int.toNat_natCast, List.map_cons, List.map_cons, List.map_append, chr_dec, List.map_replicate]
      have hz : List.replicate k ((48 : UInt8).toNat) = chr (List.replicate k 0) := by unfold chr; rw [List.map_replicate]; rfl
      rw [hz]
      have ha : chr (List.replicate k 0) ++ chr (dig0 m.natAbs) = chr (List.replicate k 0 ++ dig0 m.natAbs) := by unfold chr; rw [List.map_append]
      rw [ha]
      have hAD : AllD (List.replicate k 0 ++ dig0 m.natAbs) := (AllD.rep _ _ (by omega)).append hD
      have n2 : ¬ chr (List.replicate k 0 ++ dig0 m.natAbs) = [] := by
        intro h0
        have := congrArg List.length h0
        simp only [chr, List.length_map, List.length_append, List.length_replicate, List.length_take, List.length_drop, List.length_nil] at this
        omega
      have h1 := run_whole [48] (by simp [isD]) (sgnS (decide (m < 0))) (sgnS_st _)
      show (runS ([48] ++ (46 :: chr (List.replicate k 0 ++ dig0 m.natAbs))) _).bind endS = _
      rw [runS_append, h1, Option.bind_some, if_neg (by simp)]
      show ((takeS _ 46).bind (runS _)).bind endS = _
      rw [run_dot rfl, Option.bind_some, run_part _ (chr_isD hAD) _ (Or.inl rfl), Option.bind_some, chr_back, if_neg n2]
      unfold endS
      rw [if_pos (by simp)]
      show rnd (decide (m < 0)) (val ([] ++ [0] ++ (List.replicate k 0 ++ dig0 m.natAbs))) false (((0 : Nat) : Int) - ((0 + (chr (List.replicate k 0 ++ dig0 m.natAbs)).length : Nat) : Int)) = _
      have hv : val ([] ++ [0] ++ (List.replicate k 0 ++ dig0 m.natAbs)) = m.natAbs := by
        rw [List.nil_append, val_append, val_append, val_rep0, hV]; simp [val]
      rw [hv]
      have : ((0 : Nat) : Int) - ((0 + (chr (List.replicate k 0 ++ dig0 m.natAbs)).length : Nat) : Int) = e := by
        unfold chr; rw [List.length_map, List.length_append, List.length_replicate]; omega
      rw [this, hr]
end Go.Proofs.YtkcoikelcmpceaaGreatDoor
namespace Go.Proofs.YtkcoikelcmpceaaGreatDoor
open Go.RowKit NM
theorem own_slice1 {w : World} {base : Nat} {e : TypeId} {v : Value} {n : Nat} {xs : List Value} (h : w.ownsRow base e 1 v n xs) : ∃ A L c, v = .slice A L c := by
  obtain ⟨_, h2⟩ := h
  rcases h2 with ⟨rfl, _⟩ | ⟨g, cap, cur, rfl, _⟩
  · exact ⟨_, _, _, rfl⟩
  · exact ⟨_, _, _, rfl⟩
/-- What a reader leaves as it was. -/
structure Fr (base : Nat) (w w' : World) : Prop where
  low : Below base w w'
  it : ∀ (b : Nat) (s : ByteArray) (pos : Nat), w.heap[b]? = some (Obj.stringIter s pos) → w'.heap[b]? = some (Obj.stringIter s pos)
theorem Fr.refl (base : Nat) (w : World) : Fr base w w := ⟨Below.refl _ _, fun _ _ _ h => h⟩
theorem Fr.trans {base : Nat} {a b c : World} (h : Fr base a b) (k : Fr base b c) : Fr base a c := ⟨Below.trans h.low k.low, fun i s pos hi => k.it i s pos (h.it i s pos hi)⟩
/-- A reader in block q. -/
structure RD (base q : Nat) (st : Nat) (neg npow : Bool) (ds : List Nat) (beh pow : Nat) (v : Value) (w : World) : Prop where
  row : w.heap[q]? = some (.cells #[.int .i64 (st : Int), .bool neg, .bool npow, v, .int .i64 (beh : Int), .int .i64 (pow : Int)] 172 (0, 0))
  own : w.ownsRow base 5 1 v ds.length (b8 ds)
  qb : base ≤ q
section
variable {base q st beh pow : Nat} {neg npow : Bool} {ds : List Nat} {v : Value} {w : World}
theorem RD.at (h : RD base q st neg npow ds beh pow v w) : w.cell? ⟨q, 0, none⟩ = some (.int .i64 (st : Int)) ∧ w.cell? ⟨q, 1, none⟩ = some (.bool neg) ∧ w.cell? ⟨q, 2, none⟩ = some (.bool npow) ∧ w.cell? ⟨q, 3, none⟩ = some v ∧ w.cell? ⟨q, 4, none⟩ = some (.int .i64 (beh : Int)) ∧ w.cell? ⟨q, 5, none⟩ = some (.int .i64 (pow : Int)) := by
  refine ⟨?_, ?_, ?_, ?_, ?_, ?_⟩ <;> rw [cell_of_row w q _ _ _ (0, 0) h.row] <;> rfl
theorem RD.fz (h : RD base q st neg npow ds beh pow v w) (o : Nat) : w.frozen? ⟨q, o, none⟩ = false := frozen_of_row w q o _ _ h.row
theorem RD.lt (h : RD base q st neg npow ds beh pow v w) : q < w.heap.size := lt_block h.row
theorem RD.fr (h : RD base q st neg npow ds beh pow v w) (o : Nat) (x : Value) : Fr base w (w.setCell ⟨q, o, none⟩ x) :=
  ⟨Below.setCell (Below.refl _ _) h.qb x, fun b s pos hb => by
    rw [RowKit.Below.heap_setCell _ _ _ _ (fun he => by subst he; rw [h.row] at hb; cases hb)]; exact hb⟩
theorem RD.keep (h : RD base q st neg npow ds beh pow v w) (o : Nat) (x : Value) : (w.setCell ⟨q, o, none⟩ x).ownsRow base 5 1 v ds.length (b8 ds) :=
  own_keep h.own fun g cur hg => RowKit.Below.heap_setCell _ _ _ _ (fun he => by subst he; rw [h.row] at hg; cases hg)
theorem RD.set0 (h : RD base q st neg npow ds beh pow v w) (st' : Nat) : RD base q st' neg npow ds beh pow v (w.setCell ⟨q, 0, none⟩ (.int .i64 (st' : Int))) := ⟨heap_setCell_same w q 0 _ _ _ h.row, h.keep _ _, h.qb⟩
theorem RD.set1 (h : RD base q st neg npow ds beh pow v w) (n' : Bool) : RD base q st n' npow ds beh pow v (w.setCell ⟨q, 1, none⟩ (.bool n')) := ⟨heap_setCell_same w q 1 _ _ _ h.row, h.keep _ _, h.qb⟩
theorem RD.set2 (h : RD base q st neg npow ds beh pow v w) (n' : Bool) : RD base q st neg n' ds beh pow v (w.setCell ⟨q, 2, none⟩ (.bool n')) := ⟨heap_setCell_same w q 2 _ _ _ h.row, h.keep _ _, h.qb⟩
theorem RD.set4 (h : RD base q st neg npow ds beh pow v w) (b' : Nat) : RD base q st neg npow ds b' pow v (w.setCell ⟨q, 4, none⟩ (.int .i64 (b' : Int))) := ⟨heap_setCell_same w q 4 _ _ _ h.row, h.keep _ _, h.qb⟩
theorem RD.set5 (h : RD base q st neg npow ds beh pow v w) (p' : Nat) : RD base q st neg npow ds beh p' v (w.setCell ⟨q, 5, none⟩ (.int .i64 (p' : Int))) := ⟨heap_setCell_same w q 5 _ _ _ h.row, h.keep _ _, h.qb⟩
/-- One digit more. -/
theorem RD.grown {w3 : World} {v3 : Value} {o : Obj} {d : Nat} (h : RD base q st neg npow ds beh pow v w) (hg : (w.alloc o).grownBy w3 v.ownBlock) (ho : w3.ownsRow base 5 1 v3 (ds.length + 1) (b8 ds ++ [.int .u8 (d : Int)])) (hb : base ≤ w.heap.size) :
    w3.heap[q]? = w.heap[q]? ∧ RD base q st neg npow (ds ++ [d]) beh pow v3 (w3.setCell ⟨q, 3, none⟩ v3) ∧ Fr base w (w3.setCell ⟨q, 3, none⟩ v3) := by
  have hob := own_block1 h.own
  have hne : ∀ b, (∀ cur, w.heap[b]? ≠ some (.cells cur 5 (0, 0))) → some b ≠ v.ownBlock := fun b hb he => by
    obtain ⟨_, cur, hc⟩ := hob b he.symm
    exact hb cur hc
  have hk : ∀ b, b < w.heap.size → some b ≠ v.ownBlock → w3.heap[b]? = w.heap[b]? := fun b hb he => by
    rw [hg.block b (by simp; omega) he, RowKit.Below.heap_alloc _ o b hb]
  have hq : w3.heap[q]? = w.heap[q]? := hk q h.lt (hne q fun cur hc => by rw [h.row] at hc; cases hc)
  have hrow := h.row
  rw [← hq] at hrow
  have hsz := hg.size
  simp at hsz
  refine ⟨hq, ⟨heap_setCell_same w3 q 3 _ _ v3 hrow, ?_, h.qb⟩, ?_, ?_⟩
  · rw [List.length_append, b8, List.map_append]
    exact own_keep ho fun g cur hc => RowKit.Below.heap_setCell _ _ _ _ (fun he => by subst he; rw [hrow] at hc; cases hc)
  · have hbl : Below base w w3 := ⟨hg.os, hg.tape, hg.output, by omega, fun b hb' => hk b (by omega) fun he => by have := (hob b he.symm).1; omega⟩
    exact Below.setCell hbl h.qb v3
  · intro b s pos hb'
    rw [RowKit.Below.heap_setCell _ _ _ _ (fun he => by subst he; rw [h.row] at hb'; cases hb'), hk b (lt_block hb') (hne b fun cur hc => by rw [hb'] at hc; cases hc)]
    exact hb'
end
set_option maxHeartbeats 1000000 in
theorem digit_any (base q st : Nat) (neg npow : Bool) (ds : List Nat) (beh pow c : Nat) (v : Value) (w : World) (h : RD base q st neg npow ds beh pow v w) (hbw : base ≤ w.heap.size) (hc : 48 ≤ c ∧ c ≤ 57) (hst : st ≤ 7) (hds : ds.length ≤ 300) (hbeh : beh ≤ 300) (hpow : pow ≤ 1000000) :
    Calls Tryz.prog 214 #[.pointer (some ⟨q, 0, none⟩), .int .i32 (c : Int)] w fun r w' => r = .returned (.tuple #[]) ∧ ∃ s' v', digS ⟨st, neg, npow, ds, beh, pow⟩ c = s' ∧ RD base q s'.st s'.neg s'.npow s'.ds s'.beh s'.pow v' w' ∧ Fr base w w' := by
  obtain ⟨i0, hi, hz0, hz1, hz2⟩ := info_parts info_byte
  have hcd : (c : Int) - 48 = ((c - 48 : Nat) : Int) := by omega
  obtain ⟨c0, c1, c2, c3, c4, c5⟩ := h.at
  have f0 := h.fz 0
  have f4 := h.fz 4
  have f5 := h.fz 5
  have lq := h.lt
  have HR := Lib.hid h
  clear h
  have hst' : st = 0 ∨ st = 1 ∨ st = 2 ∨ st = 3 ∨ st = 4 ∨ st = 5 ∨ st = 6 ∨ st = 7 := by omega
  rcases hst' with rfl | rfl | rfl | rfl | rfl | rfl | rfl | rfl
  · go_enter Tryz.func214, Tryz.ntmps214; go_upto_region 12 with fail; refine wp_world fun W hW => ?_; (have hR : RD base q 2 neg npow ds beh pow v W := by rw [hW]; exact HR.out.set0 2); (have hF : Fr base w W := by rw [hW]; exact HR.out.fr _ _); (have hbW : base ≤ W.heap.size := Nat.le_trans hbw hF.low.size); clear hW HR c0 c1 c2 c3 c4 c5 f0 f4 f5 lq hbw; obtain ⟨c0, c1, c2, c3, c4, c5⟩ := hR.at; have lq := hR.lt; have HR := Lib.hid hR; clear hR; go_wp2_with (at_builtin; refine wpList_append_own _ rfl _ _ _ rfl base 5 i0 (.int .u8 0) 1 1 Tryz.underlying135 hi hz0 hz1 hz2 rfl (by decide) _ ds.length (b8 ds) rfl (own_keep HR.out.own fun g cur hg => RowKit.Below.heap_alloc _ _ g (lt_block hg)) _ 1 1 [.int .u8 ((c - 48 : Nat) : Int)] rfl rfl (Rd.one_ _ _ rfl).add (one_u8 _) (by simp [maxLen]; omega) (by omega) (by simp; omega) ?_; intro v3 w3 ho3 hg3 _; obtain ⟨A3, L3, C3, hv3⟩ := own_slice1 ho3; subst hv3; obtain ⟨hq3, hRD3, hFr3⟩ := HR.out.grown hg3 ho3 hbW; have hrow3 := HR.out.row; rw [← hq3] at hrow3; have fz3 := frozen_of_row w3 q 3 _ _ hrow3; have lt3 := lt_block hrow3; have q3 : w3.cell? ⟨q, 3, none⟩ = some v := by rw [cell_of_row w3 q 3 _ _ (0, 0) hrow3]; rfl); exact bodyPost_end (v := .tuple #[]) (by simp [results, Tryz.results214, go_sem]) rfl ⟨rfl, _, _, rfl, hRD3, hF.trans hFr3⟩
  · go_enter Tryz.func214, Tryz.ntmps214; go_upto_region 12 with fail; refine wp_world fun W hW => ?_; (have hR : RD base q 2 neg npow ds beh pow v W := by rw [hW]; exact HR.out.set0 2); (have hF : Fr base w W := by rw [hW]; exact HR.out.fr _ _); (have hbW : base ≤ W.heap.size := Nat.le_trans hbw hF.low.size); clear hW HR c0 c1 c2 c3 c4 c5 f0 f4 f5 lq hbw; obtain ⟨c0, c1, c2, c3, c4, c5⟩ := hR.at; have lq := hR.lt; have HR := Lib.hid hR; clear hR; go_wp2_with (at_builtin; refine wpList_append_own _ rfl _ _ _ rfl base 5 i0 (.int .u8 0) 1 1 Tryz.underlying135 hi hz0 hz1 hz2 rfl (by decide) _ ds.length (b8 ds) rfl (own_keep HR.out.own fun g cur hg => RowKit.Below.heap_alloc _ _ g (lt_block hg)) _ 1 1 [.int .u8 ((c - 48 : Nat) : Int)] rfl rfl (Rd.one_ _ _ rfl).add (one_u8 _) (by simp [maxLen]; omega) (by omega) (by simp; omega) ?_; intro v3 w3 ho3 hg3 _; obtain ⟨A3, L3, C3, hv3⟩ := own_slice1 ho3; subst hv3; obtain ⟨hq3, hRD3, hFr3⟩ := HR.out.grown hg3 ho3 hbW; have hrow3 := HR.out.row; rw [← hq3] at hrow3; have fz3 := frozen_of_row w3 q 3 _ _ hrow3; have lt3 := lt_block hrow3; have q3 : w3.cell? ⟨q, 3, none⟩ = some v := by rw [cell_of_row w3 q 3 _ _ (0, 0) hrow3]; rfl); exact bodyPost_end (v := .tuple #[]) (by simp [results, Tryz.results214, go_sem]) rfl ⟨rfl, _, _, rfl, hRD3, hF.trans hFr3⟩
  · go_enter Tryz.func214, Tryz.ntmps214; go_upto_region 12 with fail; refine wp_world fun W hW => ?_; (have hR : RD base q 2 neg npow ds beh pow v W := by rw [hW]; exact HR.out.set0 2); (have hF : Fr base w W := by rw [hW]; exact HR.out.fr _ _); (have hbW : base ≤ W.heap.size := Nat.le_trans hbw hF.low.size); clear hW HR c0 c1 c2 c3 c4 c5 f0 f4 f5 lq hbw; obtain ⟨c0, c1, c2, c3, c4, c5⟩ := hR.at; have lq := hR.lt; have HR := Lib.hid hR; clear hR; go_wp2_with (at_builtin; refine wpList_append_own _ rfl _ _ _ rfl base 5 i0 (.int .u8 0) 1 1 Tryz.underlying135 hi hz0 hz1 hz2 rfl (by decide) _ ds.length (b8 ds) rfl (own_keep HR.out.own fun g cur hg => RowKit.Below.heap_alloc _ _ g (lt_block hg)) _ 1 1 [.int .u8 ((c - 48 : Nat) : Int)] rfl rfl (Rd.one_ _ _ rfl).add (one_u8 _) (by simp [maxLen]; omega) (by omega) (by simp; omega) ?_; intro v3 w3 ho3 hg3 _; obtain ⟨A3, L3, C3, hv3⟩ := own_slice1 ho3; subst hv3; obtain ⟨hq3, hRD3, hFr3⟩ := HR.out.grown hg3 ho3 hbW; have hrow3 := HR.out.row; rw [← hq3] at hrow3; have fz3 := frozen_of_row w3 q 3 _ _ hrow3; have lt3 := lt_block hrow3; have q3 : w3.cell? ⟨q, 3, none⟩ = some v := by rw [cell_of_row w3 q 3 _ _ (0, 0) hrow3]; rfl); exact bodyPost_end (v := .tuple #[]) (by simp [results, Tryz.results214, go_sem]) rfl ⟨rfl, _, _, rfl, hRD3, hF.trans hFr3⟩
  · go_enter Tryz.func214, Tryz.ntmps214; go_upto_region 12 with fail; refine wp_world fun W hW => ?_; (have hR : RD base q 4 neg npow ds (beh + 1) pow v W := by rw [hW]; exact (HR.out.set0 4).set4 (beh + 1)); (have hF : Fr base w W := by rw [hW]; exact (HR.out.fr _ _).trans ((HR.out.set0 4).fr _ _)); (have hbW : base ≤ W.heap.size := Nat.le_trans hbw hF.low.size); clear hW HR c0 c1 c2 c3 c4 c5 f0 f4 f5 lq hbw; obtain ⟨c0, c1, c2, c3, c4, c5⟩ := hR.at; have lq := hR.lt; have HR := Lib.hid hR; clear hR; go_wp2_with (at_builtin; refine wpList_append_own _ rfl _ _ _ rfl base 5 i0 (.int .u8 0) 1 1 Tryz.underlying135 hi hz0 hz1 hz2 rfl (by decide) _ ds.length (b8 ds) rfl (own_keep HR.out.own fun g cur hg => RowKit.Below.heap_alloc _ _ g (lt_block hg)) _ 1 1 [.int .u8 ((c - 48 : Nat) : Int)] rfl rfl (Rd.one_ _ _ rfl).add (one_u8 _) (by simp [maxLen]; omega) (by omega) (by simp; omega) ?_; intro v3 w3 ho3 hg3 _; obtain ⟨A3, L3, C3, hv3⟩ := own_slice1 ho3; subst hv3; obtain ⟨hq3, hRD3, hFr3⟩ := HR.out.grown hg3 ho3 hbW; have hrow3 := HR.out.row; rw [← hq3] at hrow3; have fz3 := frozen_of_row w3 q 3 _ _ hrow3; have lt3 := lt_block hrow3; have q3 : w3.cell? ⟨q, 3, none⟩ = some v := by rw [cell_of_row w3 q 3 _ _ (0, 0) hrow3]; rfl); exact bodyPost_end (v := .tuple #[]) (by simp [results, Tryz.results214, go_sem]) rfl ⟨rfl, _, _, rfl, hRD3, hF.trans hFr3⟩
  · go_enter Tryz.func214, Tryz.ntmps214; go_upto_region 12 with fail; refine wp_world fun W hW => ?_; (have hR : RD base q 4 neg npow ds (beh + 1) pow v W := by rw [hW]; exact (HR.out.set0 4).set4 (beh + 1)); (have hF : Fr base w W := by rw [hW]; exact (HR.out.fr _ _).trans ((HR.out.set0 4).fr _ _)); (have hbW : base ≤ W.heap.size := Nat.le_trans hbw hF.low.size); clear hW HR c0 c1 c2 c3 c4 c5 f0 f4 f5 lq hbw; obtain ⟨c0, c1, c2, c3, c4, c5⟩ := hR.at; have lq := hR.lt; have HR := Lib.hid hR; clear hR; go_wp2_with (at_builtin; refine wpList_append_own _ rfl _ _ _ rfl base 5 i0 (.int .u8 0) 1 1 Tryz.underlying135 hi hz0 hz1 hz2 rfl (by decide) _ ds.length (b8 ds) rfl (own_keep HR.out.own fun g cur hg => RowKit.Below.heap_alloc _ _ g (lt_block hg)) _ 1 1 [.int .u8 ((c - 48 : Nat) : Int)] rfl rfl (Rd.one_ _ _ rfl).add (one_u8 _) (by simp [maxLen]; omega) (by omega) (by simp; omega) ?_; intro v3 w3 ho3 hg3 _; obtain ⟨A3, L3, C3, hv3⟩ := own_slice1 ho3; subst hv3; obtain ⟨hq3, hRD3, hFr3⟩ := HR.out.grown hg3 ho3 hbW; have hrow3 := HR.out.row; rw [← hq3] at hrow3; have fz3 := frozen_of_row w3 q 3 _ _ hrow3; have lt3 := lt_block hrow3; have q3 : w3.cell? ⟨q, 3, none⟩ = some v := by rw [cell_of_row w3 q 3 _ _ (0, 0) hrow3]; rfl); exact bodyPost_end (v := .tuple #[]) (by simp [results, Tryz.results214, go_sem]) rfl ⟨rfl, _, _, rfl, hRD3, hF.trans hFr3⟩
  · go_enter Tryz.func214, Tryz.ntmps214; go_upto_region 2 with fail; refine wp_world fun W hW => ?_; (have hR : RD base q 7 neg npow ds beh pow v W := by rw [hW]; exact HR.out.set0 7); (have hF : Fr base w W := by rw [hW]; exact HR.out.fr _ _); clear hW HR c0 c1 c2 c3 c4 c5 f0 f4 f5 lq hbw; obtain ⟨c0, c1, c2, c3, c4, c5⟩ := hR.at; have f5 := hR.fz 5; have lq := hR.lt; have HR := Lib.hid hR; clear hR; by_cases hp : pow < 100000
    · have hd : decide ((pow : Int) < 100000) = true := decide_eq_true (by omega)
      have HP := Lib.hid hp
      clear hp
      go_wp2_with fail
      refine bodyPost_ret (v := .tuple #[]) (by simp [results, Tryz.results214, go_sem]) rfl ⟨rfl, ⟨7, neg, npow, ds, beh, pow * 10 + (c - 48)⟩, v, by simp [digS, HP.out], ?_, hF.trans (HR.out.fr _ _)⟩
      have := HR.out.set5 (pow * 10 + (c - 48))
      rw [Int.natCast_add, Int.natCast_mul] at this
      exact this
    · have hd : decide ((pow : Int) < 100000) = false := decide_eq_false (by omega)
      have HP := Lib.hid hp
      clear hp
      go_wp2_with fail
      exact bodyPost_ret (v := .tuple #[]) (by simp [results, Tryz.results214, go_sem]) rfl ⟨rfl, ⟨7, neg, npow, ds, beh, pow⟩, v, by simp [digS, HP.out], HR.out, hF⟩
  · go_enter Tryz.func214, Tryz.ntmps214; go_upto_region 2 with fail; refine wp_world fun W hW => ?_; (have hR : RD base q 7 neg npow ds beh pow v W := by rw [hW]; exact HR.out.set0 7); (have hF : Fr base w W := by rw [hW]; exact HR.out.fr _ _); clear hW HR c0 c1 c2 c3 c4 c5 f0 f4 f5 lq hbw; obtain ⟨c0, c1, c2, c3, c4, c5⟩ := hR.at; have f5 := hR.fz 5; have lq := hR.lt; have HR := Lib.hid hR; clear hR; by_cases hp : pow < 100000
    · have hd : decide ((pow : Int) < 100000) = true := decide_eq_true (by omega)
      have HP := Lib.hid hp
      clear hp
      go_wp2_with fail
      refine bodyPost_ret (v := .tuple #[]) (by simp [results, Tryz.results214, go_sem]) rfl ⟨rfl, ⟨7, neg, npow, ds, beh, pow * 10 + (c - 48)⟩, v, by simp [digS, HP.out], ?_, hF.trans (HR.out.fr _ _)⟩
      have := HR.out.set5 (pow * 10 + (c - 48))
      rw [Int.natCast_add, Int.natCast_mul] at this
      exact this
    · have hd : decide ((pow : Int) < 100000) = false := decide_eq_false (by omega)
      have HP := Lib.hid hp
      clear hp
      go_wp2_with fail
      exact bodyPost_ret (v := .tuple #[]) (by simp [results, Tryz.results214, go_sem]) rfl ⟨rfl, ⟨7, neg, npow, ds, beh, pow⟩, v, by simp [digS, HP.out], HR.out, hF⟩
  · go_enter Tryz.func214, Tryz.ntmps214; go_upto_region 2 with fail; refine wp_world fun W hW => ?_; (have hR : RD base q 7 neg npow ds beh pow v W := by rw [hW]; exact HR.out.set0 7); (have hF : Fr base w W := by rw [hW]; exact HR.out.fr _ _); clear hW HR c0 c1 c2 c3 c4 c5 f0 f4 f5 lq hbw; obtain ⟨c0, c1, c2, c3, c4, c5⟩ := hR.at; have f5 := hR.fz 5; have lq := hR.lt; have HR := Lib.hid hR; clear hR; by_cases hp : pow < 100000
    · have hd : decide ((pow : Int) < 100000) = true := decide_eq_true (by omega)
      have HP := Lib.hid hp
      clear hp
      go_wp2_with fail
      refine bodyPost_ret (v := .tuple #[]) (by simp [results, Tryz.results214, go_sem]) rfl ⟨rfl, ⟨7, neg, npow, ds, beh, pow * 10 + (c - 48)⟩, v, by simp [digS, HP.out], ?_, hF.trans (HR.out.fr _ _)⟩
      have := HR.out.set5 (pow * 10 + (c - 48))
      rw [Int.natCast_add, Int.natCast_mul] at this
      exact this
    · have hd : decide ((pow : Int) < 100000) = false := decide_eq_false (by omega)
      have HP := Lib.hid hp
      clear hp
      go_wp2_with fail
      exact bodyPost_ret (v := .tuple #[]) (by simp [results, Tryz.results214, go_sem]) rfl ⟨rfl, ⟨7, neg, npow, ds, beh, pow⟩, v, by simp [digS, HP.out], HR.out, hF⟩
end Go.Proofs.YtkcoikelcmpceaaGreatDoor
