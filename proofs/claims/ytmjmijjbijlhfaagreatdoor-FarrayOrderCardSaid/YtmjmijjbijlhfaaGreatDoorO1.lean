/- What the rows' proofs lean on: the contracts of the functions that they reach, and plain facts (part O1). -/
import Derived.WalkKit
import Derived.WalkLawsBesides
import Derived.WalkSpells
import Derived.Outline
import Derived.Below
import Derived.Deep.RegionHeld3
import Derived.Deep.DeepCutAuto
import Derived.Deep.AppendLies
import Derived.Maps.AppendAt
import Derived.Lib.Hide
import Derived.OrdersHeld
import Derived.Test.YtmjmijjbijlhfaaGreatDoorProg
import Derived.Shelf.Small.Bits
import Derived.Shelf.Small.Strs
import Derived.Shelf.Strconv.Itoa0
import Derived.Shelf.Strconv.Itoa1
import Derived.Shelf.LaysM
import Derived.Shelf.Strconv.Itoa2
import Derived.Shelf.Bits.Mul64
import Derived.Ground.SlgmProg
import Derived.Shelf.SortM.Plain
import Derived.Shelf.SortM.SortNone
import Derived.Lib.ItoaMem
import Derived.Lib.OthersKept
import Derived.Deep.CutBlock
import Derived.Laws.Bits64b
import Derived.Lib.AppendZeros
import Derived.Lib.Bytealg
import Derived.Laws.RangeAny
import Derived.Maps.OwnSet
import Derived.Maps.Own
import Derived.Laws.EntriesVeiled
import Derived.Lib.ConvBytes
import Derived.Lib.SlBytesRow
import Derived.Lib.SmallJoins
import Derived.RegionTactic
import Derived.Sort.OwnSortedInts
import Derived.Shelf.SlIter.Nil
import Derived.Ground.GgzProg
import Derived.Test.YtmjmijjbijlhfaaGreatDoorRows
import Derived.Test.YtmjmijjbijlhfaaGreatDoorCards
import Derived.Test.YtmjmijjbijlhfaaGreatDoorTie
import Derived.ProofKit
import Derived.LaidMore
import Derived.OpenShut
import Derived.ShutString
import Derived.ChangeOld
import Derived.Stop.Joined
import Derived.Deep.Slices
import Derived.SevenTiedAt
import Derived.Laws.MakeOwn
import Derived.Test.YtmjmijjbijlhfaaGreatDoorR5
set_option linter.unusedSimpArgs false
set_option linter.unusedVariables false
set_option maxRecDepth 100000
namespace Go.Proofs.YtmjmijjbijlhfaaGreatDoor
open Go.RowKit
section
variable {P : Program} {ops : Array Oper} {Q : Exit → Act → World → Prop} {S : World → Prop} {tl : List Nat}
variable {a : Act} {w : World} {i : Nat} {rest : List (Nat × Nat)} {o : Oper}
section picks
variable {rest : List Oper} {x y z : Operand} {c g p : Bool} {j t : Nat} {want : Bool} {f : Value}
end picks
section picks
variable {x y z : Operand} {c g p : Bool} {j t : Nat} {want : Bool} {f : Value}
theorem wpPl_gpick_and (hi : ops.toList[i]? = some o) (hg : o.guard = some (j, want)) (hd : (ops.toList[j]?).bind (·.dst) = some t) (ht : a.tmps.toList[t]? = some f) (ho : o.op = .pick x y z) (hx : a.eval x = gv c (.bool g)) (hy : a.eval y = gv (c && g) (.bool p)) (hz : a.eval z = .bool false)
    (hc : (yv f == some want) = c) (k : wpPl P ops Q S rest (a.put o.dst (gv c (.bool (g && p)))) w) : wpPl P ops Q S ((i, 0) :: rest) a w :=
  wpPl_gread hi hg hd ht hc (fun h _ _ => run_pick_andg h ho hx hy hz) k
theorem wpPl_gpick_or (hi : ops.toList[i]? = some o) (hg : o.guard = some (j, want)) (hd : (ops.toList[j]?).bind (·.dst) = some t) (ht : a.tmps.toList[t]? = some f) (ho : o.op = .pick x y z) (hx : a.eval x = gv c (.bool g)) (hy : a.eval y = .bool true) (hz : a.eval z = gv (c && !g) (.bool p))
    (hc : (yv f == some want) = c) (k : wpPl P ops Q S rest (a.put o.dst (gv c (.bool (g || p)))) w) : wpPl P ops Q S ((i, 0) :: rest) a w :=
  wpPl_gread hi hg hd ht hc (fun h _ _ => run_pick_org h ho hx hy hz) k
end picks
end
end Go.Proofs.YtmjmijjbijlhfaaGreatDoor
namespace Go.Proofs.YtmjmijjbijlhfaaGreatDoor.NM
/-- A value below 0 is rounded as it is without its sign. -/
def RS (x : Int) : Int := if x < 0 then -(R x.natAbs : Int) else R x.natAbs
end Go.Proofs.YtmjmijjbijlhfaaGreatDoor.NM
namespace Go.Proofs.YtmjmijjbijlhfaaGreatDoor.NM
/-- An exact sum: below 0, and without its sign. -/
def plusN (na nb : Bool) (Na Nb : Nat) : Bool × Nat := if na = nb then (na, Na + Nb) else if Na < Nb then (nb, Nb - Na) else (na, Na - Nb)
theorem plusN_sg (na nb : Bool) (Na Nb : Nat) : sg (plusN na nb Na Nb).1 (plusN na nb Na Nb).2 = sg na Na + sg nb Nb := by
  unfold plusN
  cases na <;> cases nb <;> simp [sg]
  · split <;> simp <;> omega
  · split <;> simp <;> omega
  · omega
theorem rnd_plus (ma ea mb eb : Int) : rnd (plusN (decide (ma < 0)) (decide (mb < 0)) (ma.natAbs * T (ea - min ea eb).toNat) (mb.natAbs * T (eb - min ea eb).toNat)).1 (plusN (decide (ma < 0)) (decide (mb < 0)) (ma.natAbs * T (ea - min ea eb).toNat) (mb.natAbs * T (eb - min ea eb).toNat)).2 false (min ea eb) = rndI (sumI ma ea mb eb) (min ea eb) := by
  rw [rnd_sg, plusN_sg, sg_mul_nat, sg_mul_nat, sg_nat, sg_nat]; rfl
/-- What of the digits is added up from place j on: a carry, and the digits. -/
theorem add_step {X Y S : List Nat} {j x y c : Nat} (hx : X[j]? = some x) (hy : Y[j]? = some y) (hl : X.length = Y.length) (hs : S.length = X.length - (j + 1)) (h : val (X.drop (j + 1)) + val (Y.drop (j + 1)) = c * T S.length + val S) :
    val (X.drop j) + val (Y.drop j) = (x + y + c) / 10 * T (S.length + 1) + val ((x + y + c) % 10 :: S) := by
  have l1 : (X.drop (j + 1)).length = S.length := by simp; omega
  have l2 : (Y.drop (j + 1)).length = S.length := by simp; omega
  rw [drop_at hx, drop_at hy, val_cons, val_cons, val_cons, l1, l2, T_succ]
  generalize T S.length = t at *
  have h3 : x * t + val (X.drop (j + 1)) + (y * t + val (Y.drop (j + 1))) = (x + y + c) * t + val S := by
    rw [Nat.add_mul, Nat.add_mul]; omega
  rw [h3]
  have h4 := Nat.div_add_mod (x + y + c) 10
  generalize (x + y + c) / 10 = q at *
  generalize (x + y + c) % 10 = r at *
  rw [← h4, Nat.add_mul, Nat.mul_comm 10 q, Nat.mul_assoc]
  omega
/-- What is taken away from place j on: what is borrowed, and the digits. -/
theorem sub_step {X Y S : List Nat} {j x y c d c' : Nat} (hx : X[j]? = some x) (hy : Y[j]? = some y) (hl : X.length = Y.length) (hs : S.length = X.length - (j + 1)) (h : val (X.drop (j + 1)) + c * T S.length = val (Y.drop (j + 1)) + val S) (hd : x + 10 * c' = y + c + d) :
    val (X.drop j) + c' * T (S.length + 1) = val (Y.drop j) + val (d :: S) := by
  have l1 : (X.drop (j + 1)).length = S.length := by simp; omega
  have l2 : (Y.drop (j + 1)).length = S.length := by simp; omega
  rw [drop_at hx, drop_at hy, val_cons, val_cons, val_cons, l1, l2, T_succ]
  generalize T S.length = t at *
  have h1 : x * t + 10 * c' * t = y * t + c * t + d * t := by rw [← Nat.add_mul, hd, Nat.add_mul, Nat.add_mul]
  rw [← Nat.mul_assoc, Nat.mul_comm c' 10]
  omega
end Go.Proofs.YtmjmijjbijlhfaaGreatDoor.NM
namespace Go.Proofs.YtmjmijjbijlhfaaGreatDoor
open Go.RowKit NM
/-- append onto a list of the call's own, of what may be nil. -/
theorem wpList_append_opt {P : Program} (w : World) {ops : Array Oper} {rest : List Oper} {o : Oper} {a : Act} {Q : Exit → Act → World → Prop} (hgd : o.guard = none) (s x : Operand) (t : TypeId)
    (ho : o.op = .call { callee := .builtin .append, args := #[s, x], argTypes := #[t, t] })
    (base : Nat) (e : TypeId) (i : TypeInfo) (z : Value) (bytes : Nat) (ht : P.underlying t = some (.slice e)) (hi : P.info? e = some i) (hz : i.zero = some z)
    (hsize : i.size = 1) (hby : i.bytes = bytes) (hzs : z.cells.size = 1)
    (v : Value) (n : Nat) (xs : List Value) (hs : a.eval s = v) (hown : w.ownsRow base e 1 v n xs)
    (B : Option Addr) (m c : Nat) (news : List Value) (hx : a.eval x = .slice B m c) (hl : news.length = m) (hB : Rd 0 w B news) (h1 : ∀ u ∈ news, u.oneCell' = true)
    (h63 : n + m ≤ maxLen) (hbytes : (n + m) * bytes ≤ 140737488355328) (hbase : base ≤ w.heap.size)
    (h : ∀ v' w', w'.ownsRow base e 1 v' (n + m) (xs ++ news) → w.grownBy w' v.ownBlock → wpList P ops Q rest (a.put o.dst v') w') : wpList P ops Q (o :: rest) a w := by
  by_cases hm : m = 0
  · subst hm
    obtain rfl : news = [] := List.eq_nil_of_length_eq_zero hl
    obtain ⟨A, cap, hv, hcap⟩ : ∃ A cap, v = .slice A n cap ∧ n ≤ cap := by
      rcases hown.2 with ⟨h2, h3⟩ | ⟨g, cap, cur, h3, h4, h5, h6, _⟩
      · exact ⟨none, 0, by rw [h2, h3], by omega⟩
      · exact ⟨_, cap, h3, h6⟩
    have hr := append_none (P := P) w t o.type e i ht hi A n cap B c hcap
    refine wpList_plain hgd fun K hK => ?_
    unfold Oper.wp execOp
    simp only [ho, resolve, invoke, builtin, Sem.run_bind, Sem.run_pure, Result.andThen_ok, List.map_toArray, List.map_cons, List.map_nil, hs, hx, hv, hr]
    refine hK _ _ (h _ _ (by rw [← hv]; simpa using hown) ⟨rfl, rfl, rfl, Nat.le_refl _, fun _ _ _ => rfl⟩)
  · have hpos : 0 < news.length := by omega
    obtain ⟨b, off, rfl, _, _⟩ := hB 0 news[0] (by simp [hpos])
    exact wpList_append_own w hgd s x t ho base e i z 1 bytes ht hi hz hsize hby hzs (by decide) v n xs hs hown ⟨b, off, none⟩ m c news hx (by omega) hB.add h1 h63 hbytes hbase fun v' w' h2 h3 _ => h v' w' h2 h3
theorem nil_own {w : World} {base n : Nat} {ty : TypeId} (hn : n = w.heap.size) (hb : base ≤ n) : (w.alloc (.cells #[] ty)).ownsRow base ty 1 (.slice (some ⟨n, 0, none⟩) 0 0) 0 [] := by
  subst hn
  exact ⟨by simp, Or.inr ⟨w.heap.size, 0, #[], rfl, hb, Array.getElem?_push_size, Nat.le_refl _, by decide, by simp, by simp⟩⟩
set_option maxHeartbeats 2000000 in
theorem wide_any (A : Option Addr) (len cap k : Nat) (l : List Nat) (w : World) (hlen : l.length = len) (h : Rd 0 w A (i6 l)) (hbig : len + k ≤ 100000) :
    Calls Tryz.prog 209 #[.slice A len cap, .int .i64 (k : Int)] w fun e w' => ∃ v, e = .returned v ∧ w'.ownsRow w.heap.size 3 1 v (len + k) (i6 (l ++ List.replicate k 0)) ∧ Ext w w' := by
  obtain ⟨i0, hi, hz0, hz1, hz2⟩ := info_parts info_int_
  have HR := Lib.hid h
  have HL := Lib.hid hlen
  clear h hlen
  go_enter Tryz.func209, Tryz.ntmps209
  go_wp2_with (at_builtin; refine wpList_append_opt _ rfl _ _ _ rfl w.heap.size 3 i0 (.int .i64 0) 8 Tryz.underlying37 hi hz0 hz1 hz2 rfl _ 0 [] rfl (nil_own rfl (Nat.le_refl _)) A len cap (i6 l) rfl (by simp [HL.out]) (HR.out.ext ((Ext.refl _).alloc _)) (one_i6 _) (by simp [maxLen]; omega) (by omega) (by simp) ?_; intro v3 w3 ho3 hg3)
  have hx3 := ext_grown ((Ext.refl w).alloc _) (nil_own rfl (Nat.le_refl _)) hg3
  have HO : Hid (w3.ownsRow w.heap.size 3 1 v3 (len + 0) (i6 (l ++ List.replicate 0 0))) := by show World.ownsRow _ _ _ _ _ _ _; simpa using ho3
  clear ho3 hg3
  go_loopw [5, 6] (fun v i wr => ∃ j : Nat, j ≤ k ∧ i = .int .i64 (j : Int) ∧ Hid (wr.ownsRow w.heap.size 3 1 v (len + j) (i6 (l ++ List.replicate j 0))) ∧ Ext w wr) (fun _ i _ => k - (intOf i).toNat)
  case atStart => exact ⟨0, Nat.zero_le _, rfl, HO, hx3⟩
  case round =>
    obtain ⟨j, hj, rfl, HW, hxr⟩ := hrel
    have hsz := hxr.size
    by_cases hlt : j < k
    · go_wp2_with (at_builtin; refine wpList_append_own _ rfl _ _ _ rfl w.heap.size 3 i0 (.int .i64 0) 1 8 Tryz.underlying37 hi hz0 hz1 hz2 rfl (by decide) _ (len + j) (i6 (l ++ List.replicate j 0)) rfl (own_allocT HW.out _) _ 1 1 [.int .i64 0] rfl rfl (Rd.one_ _ _ rfl).add (one_i6 [0]) (by simp [maxLen]; omega) (by omega) (by simp; omega) ?_; intro v4 w4 ho4 hg4 _)
      have hx4 := ext_grown (hxr.alloc _) (own_allocT HW.out _) hg4
      refine ⟨⟨j + 1, by omega, by go_num, ?_, hx4⟩, by simp [intOf]; omega⟩
      show World.ownsRow _ _ _ _ _ _ _
      rw [List.replicate_succ', ← List.append_assoc]; unfold i6; rw [List.map_append]
      exact ho4
    · go_wp2_with fail
      go_ret
      obtain rfl : j = k := by omega
      exact ⟨_, rfl, HW.out, hxr⟩
end Go.Proofs.YtmjmijjbijlhfaaGreatDoor
namespace Go.Proofs.YtmjmijjbijlhfaaGreatDoor
open Go.RowKit NM
/-- A list of digits, the same number, however many noughts ahead: in memory from 'base' on. -/
def LvOut (w : World) (L N : Nat) (v : Value) (w' : World) : Prop := ∃ A c X, v = .slice A L c ∧ Rd w.heap.size w' A (i6 X) ∧ X.length = L ∧ AllD X ∧ val X = N ∧ L ≤ c
theorem LvOut.ext {w w' w'' : World} {L N : Nat} {v : Value} (h : LvOut w L N v w') (hx : Ext w' w'') : LvOut w L N v w'' := by
  obtain ⟨A, c, X, h1, h2, h3⟩ := h
  exact ⟨A, c, X, h1, h2.ext hx, h3⟩
theorem LvOut.of_own_ {w w' : World} {base : Nat} {l : List Nat} {v : Value} {n : Nat} (h : w'.ownsRow base 3 1 v n (i6 l)) (ha : AllD l) (hb : w.heap.size ≤ base) : LvOut w n (val l) v w' := by
  obtain ⟨A, c, rfl, h1, rfl⟩ := Dg.of_own (l := l) (k := .i64) h
  exact ⟨A, c, l, rfl, h1.rd.mono hb, rfl, ha, rfl, h1.1⟩
theorem val_zero_cons (l : List Nat) : val (0 :: l) = val l := by rw [val_cons]; omega
set_option maxHeartbeats 2000000 in
theorem level_any (na nb : Bool) (A B : Option Addr) (ca cb : Nat) (la lb : List Nat) (ea eb : Int) (e : Int) (ka kb : Nat) (w : World) (ha : Rd 0 w A (i6 la)) (hb : Rd 0 w B (i6 lb)) (hla : la.length ≤ 1000) (hlb : lb.length ≤ 1000)
    (hka : ea = e + ka) (hkb : eb = e + kb) (hk0 : ka = 0 ∨ kb = 0) (hkk : ka ≤ 10000 ∧ kb ≤ 10000) (he : -1000000 ≤ e ∧ e ≤ 1000000) (hda : AllD la) (hdb : AllD lb) :
    Calls Tryz.prog 194 #[DecV na A la.length ca ea, DecV nb B lb.length cb eb] w fun r w' => (∃ va vb, r = .returned (.tuple #[va, vb, .int .i64 e]) ∧ LvOut w (max (la.length + ka) (lb.length + kb)) (val la * T ka) va w' ∧ LvOut w (max (la.length + ka) (lb.length + kb)) (val lb * T kb) vb w') ∧ Ext w w' := by
  subst hka hkb
  have hwa := fun W hW => wide_any A la.length ca ka la W rfl hW (by omega)
  have hwb := fun W hW => wide_any B lb.length cb kb lb W rfl hW (by omega)
  obtain ⟨i0, hi, hz0, hz1, hz2⟩ := info_parts info_int_
  have HA := Lib.hid ha
  have HB := Lib.hid hb
  have s1 : e + (ka : Int) - e = ka := by omega
  have s2 : e + (kb : Int) - e = kb := by omega
  clear ha hb
  have hcmp : Hid (ka = 0 ∨ kb = 0) := hk0
  clear hk0
  by_cases hlt : kb < ka
  · have e1 : decide (e + (kb : Int) < e + (ka : Int)) = true := by simp; omega
    have hkb0 : kb = 0 := by have := hcmp.out; omega
    subst hkb0
    simp only [show ((0 : Nat) : Int) = 0 from rfl, Int.add_zero] at hwb e1 s2
    simp only [show ((0 : Nat) : Int) = 0 from rfl, Int.add_zero]
    go_enter Tryz.func194, Tryz.ntmps194
    go_wp2_with (first | (go_at_call_of 209 (Value.slice A la.length ca); (with_reducible refine (hwa _ (HA.out.ext (by repeat (first | exact Ext.refl _ | apply Ext.drew | apply Ext.alloc | apply Ext.more_)))).mono ?_); rintro r w' ⟨va, rfl, hva, hxa⟩; obtain ⟨osa, da, rfl⟩ := hxa.more) | (go_at_call 209; (with_reducible refine (hwb _ (HB.out.ext (by repeat (first | exact Ext.refl _ | apply Ext.drew | apply Ext.alloc | apply Ext.more_)))).mono ?_); rintro r w' ⟨vb, rfl, hvb, hxb⟩; obtain ⟨osb, db, rfl⟩ := hxb.more))
    have hLa := (LvOut.of_own_ (w := w) hva (hda.append (AllD.rep _ _ (by omega))) (by simp; omega)).ext hxb
    have hLb := LvOut.of_own_ (w := w) hvb (hdb.append (AllD.rep _ _ (by omega))) (by simp; omega)
    rw [val_zeros] at hLa hLb
    have hxW : Ext w (more (more ((w.alloc (.cells #[.bool na, .slice A la.length ca, .int .i64 (e + (ka : Int))] 85)).alloc (.cells #[.bool nb, .slice B lb.length cb, .int .i64 e] 85)) osa da) osb db) := by repeat (first | exact Ext.refl _ | apply Ext.drew | apply Ext.alloc | apply Ext.more_)
    refine wp_world fun W hW => ?_
    rw [more_more, ← hW] at hLa hLb hxW
    clear hW hva hvb hxa hxb
    obtain ⟨Aa, cx, Xa, rfl, hra, hna, hala, hvala, hcx⟩ := hLa
    obtain ⟨Ab, cy, Xb, rfl, hrb, hnb, halb, hvalb, hcy⟩ := hLb
    generalize hNa : val la * T ka = Na at *
    generalize hNb : val lb * T 0 = Nb at *
    generalize hLLa : la.length + ka = La at *
    generalize hLLb : lb.length + 0 = Lb at *
    have HLa : Hid (LvOut w La Na (.slice Aa La cx) W) := ⟨Aa, cx, Xa, rfl, hra, hna, hala, hvala, hcx⟩
    have HLb : Hid (LvOut w Lb Nb (.slice Ab Lb cy) W) := ⟨Ab, cy, Xb, rfl, hrb, hnb, halb, hvalb, hcy⟩
    have HNa := Lib.hid hNa
    have HNb := Lib.hid hNb
    have HLLa := Lib.hid hLLa
    have HLLb := Lib.hid hLLb
    clear hra hna hala hvala hcx hrb hnb halb hvalb hcy hNa hNb
    have hLab : La ≤ 11000 ∧ Lb ≤ 11000 := by omega
    clear hLLa hLLb hwa hwb e1 s1 s2 hlt
    go_loopw [8] (fun x wr => ∃ L1, La ≤ L1 ∧ L1 ≤ max La Lb ∧ Hid (LvOut w L1 Na x wr) ∧ Hid (LvOut w Lb Nb (.slice Ab Lb cy) wr) ∧ Ext w wr) (fun x _ => Lb - slen x)
    case atStart => exact ⟨La, Nat.le_refl _, by omega, HLa, HLb, hxW⟩
    case round =>
      obtain ⟨L1, hL1, hL2, HX, HY, hxr⟩ := hrel
      obtain ⟨A8, c8, X8, rfl, hrx, hnx, halx, hvx, hcx⟩ := HX.out
      by_cases hll : L1 < Lb
      · have HNX := Lib.hid hnx
        have HVX := Lib.hid hvx
        clear hvx
        go_wp2_with (at_builtin; refine wpList_append_full _ rfl _ _ _ rfl 3 i0 (.int .i64 0) 1 8 Tryz.underlying37 hi hz0 hz1 hz2 rfl (by decide) w.heap.size _ 1 [.int .i64 0] rfl (by simp) rfl ((Rd.one _ _ _).mono hxr.size) (by have := hxr.size; simp; omega) A8 L1 c8 (i6 X8) rfl (by simp; omega) ((Rd.alloc hrx _).mono (Nat.zero_le _)) (one_i6 _) (by simp [maxLen]; omega) (by omega) ?_; intro A9 c9 os9 d9 hr9 hn9 hc9)
        refine ⟨⟨1 + L1, by omega, by omega, ?_, ?_, ?_⟩, by simp [slen]; omega⟩
        · exact ⟨A9, c9, 0 :: X8, rfl, hr9, by simp; omega, AllD.cons (by omega) halx, by rw [val_zero_cons]; exact HVX.out, hc9⟩
        · exact HY.out.ext (by repeat (first | exact Ext.refl _ | apply Ext.drew | apply Ext.alloc | apply Ext.more_))
        · exact hxr.trans (by repeat (first | exact Ext.refl _ | apply Ext.drew | apply Ext.alloc | apply Ext.more_))
      · have HNX := Lib.hid hnx
        have HVX := Lib.hid hvx
        clear hvx
        go_wp2_with fail
        go_loopw [9] (fun y wq => ∃ L2, Lb ≤ L2 ∧ L2 ≤ max La Lb ∧ Hid (LvOut w L2 Nb y wq) ∧ Hid (LvOut w L1 Na (.slice A8 L1 c8) wq) ∧ Ext w wq) (fun y _ => La - slen y)
        case atStart => exact ⟨Lb, Nat.le_refl _, by omega, HY, HX, hxr⟩
        case round =>
          clear hrx hnx halx hcx HNX HVX HX HY hxr
          obtain ⟨L2, hL3, hL4, HY, HX, hxr⟩ := hrel
          obtain ⟨A7, c7, X7, rfl, hrx, hnx, halx, hvx, hcx⟩ := HY.out
          by_cases hll2 : L2 < L1
          · have HNX := Lib.hid hnx
            have HVX := Lib.hid hvx
            clear hvx
            go_wp2_with (at_builtin; refine wpList_append_full _ rfl _ _ _ rfl 3 i0 (.int .i64 0) 1 8 Tryz.underlying37 hi hz0 hz1 hz2 rfl (by decide) w.heap.size _ 1 [.int .i64 0] rfl (by simp) rfl ((Rd.one _ _ _).mono hxr.size) (by have := hxr.size; simp; omega) A7 L2 c7 (i6 X7) rfl (by simp; omega) ((Rd.alloc hrx _).mono (Nat.zero_le _)) (one_i6 _) (by simp [maxLen]; omega) (by omega) ?_; intro A9 c9 os9 d9 hr9 hn9 hc9)
            refine ⟨⟨1 + L2, by omega, by omega, ?_, ?_, ?_⟩, by simp [slen]; omega⟩
            · exact ⟨A9, c9, 0 :: X7, rfl, hr9, by simp; omega, AllD.cons (by omega) halx, by rw [val_zero_cons]; exact HVX.out, hc9⟩
            · exact HX.out.ext (by repeat (first | exact Ext.refl _ | apply Ext.drew | apply Ext.alloc | apply Ext.more_))
            · exact hxr.trans (by repeat (first | exact Ext.refl _ | apply Ext.drew | apply Ext.alloc | apply Ext.more_))
          · clear hvx
            go_wp2_with fail
            go_ret3
            rw [HNa.out, HNb.out, HLLa.out, HLLb.out]
            obtain rfl : L1 = max La Lb := by omega
            obtain rfl : L2 = max La Lb := by omega
            exact ⟨⟨_, _, rfl, HX.out, HY.out⟩, hxr⟩
  · have e1 : decide (e + (kb : Int) < e + (ka : Int)) = false := by simp; omega
    have hka0 : ka = 0 := by have := hcmp.out; omega
    subst hka0
    simp only [show ((0 : Nat) : Int) = 0 from rfl, Int.add_zero] at hwa e1 s1
    simp only [show ((0 : Nat) : Int) = 0 from rfl, Int.add_zero]
    go_enter Tryz.func194, Tryz.ntmps194
    go_wp2_with (first | (go_at_call_of 209 (Value.slice A la.length ca); (with_reducible refine (hwa _ (HA.out.ext (by repeat (first | exact Ext.refl _ | apply Ext.drew | apply Ext.alloc | apply Ext.more_)))).mono ?_); rintro r w' ⟨va, rfl, hva, hxa⟩; obtain ⟨osa, da, rfl⟩ := hxa.more) | (go_at_call 209; (with_reducible refine (hwb _ (HB.out.ext (by repeat (first | exact Ext.refl _ | apply Ext.drew | apply Ext.alloc | apply Ext.more_)))).mono ?_); rintro r w' ⟨vb, rfl, hvb, hxb⟩; obtain ⟨osb, db, rfl⟩ := hxb.more))
    have hLa := (LvOut.of_own_ (w := w) hva (hda.append (AllD.rep _ _ (by omega))) (by simp; omega)).ext hxb
    have hLb := LvOut.of_own_ (w := w) hvb (hdb.append (AllD.rep _ _ (by omega))) (by simp; omega)
    rw [val_zeros] at hLa hLb
    have hxW : Ext w (more (more ((w.alloc (.cells #[.bool na, .slice A la.length ca, .int .i64 e] 85)).alloc (.cells #[.bool nb, .slice B lb.length cb, .int .i64 (e + (kb : Int))] 85)) osa da) osb db) := by repeat (first | exact Ext.refl _ | apply Ext.drew | apply Ext.alloc | apply Ext.more_)
    refine wp_world fun W hW => ?_
    rw [more_more, ← hW] at hLa hLb hxW
    clear hW hva hvb hxa hxb
    obtain ⟨Aa, cx, Xa, rfl, hra, hna, hala, hvala, hcx⟩ := hLa
    obtain ⟨Ab, cy, Xb, rfl, hrb, hnb, halb, hvalb, hcy⟩ := hLb
    generalize hNa : val la * T 0 = Na at *
    generalize hNb : val lb * T kb = Nb at *
    generalize hLLa : la.length + 0 = La at *
    generalize hLLb : lb.length + kb = Lb at *
    have HLa : Hid (LvOut w La Na (.slice Aa La cx) W) := ⟨Aa, cx, Xa, rfl, hra, hna, hala, hvala, hcx⟩
    have HLb : Hid (LvOut w Lb Nb (.slice Ab Lb cy) W) := ⟨Ab, cy, Xb, rfl, hrb, hnb, halb, hvalb, hcy⟩
    have HNa := Lib.hid hNa
    have HNb := Lib.hid hNb
    have HLLa := Lib.hid hLLa
    have HLLb := Lib.hid hLLb
    clear hra hna hala hvala hcx hrb hnb halb hvalb hcy hNa hNb
    have hLab : La ≤ 11000 ∧ Lb ≤ 11000 := by omega
    clear hLLa hLLb hwa hwb e1 s1 s2 hlt
    go_loopw [8] (fun x wr => ∃ L1, La ≤ L1 ∧ L1 ≤ max La Lb ∧ Hid (LvOut w L1 Na x wr) ∧ Hid (LvOut w Lb Nb (.slice Ab Lb cy) wr) ∧ Ext w wr) (fun x _ => Lb - slen x)
    case atStart => exact ⟨La, Nat.le_refl _, by omega, HLa, HLb, hxW⟩
    case round =>
      obtain ⟨L1, hL1, hL2, HX, HY, hxr⟩ := hrel
      obtain ⟨A8, c8, X8, rfl, hrx, hnx, halx, hvx, hcx⟩ := HX.out
      by_cases hll : L1 < Lb
      · have HNX := Lib.hid hnx
        have HVX := Lib.hid hvx
        clear hvx
        go_wp2_with (at_builtin; refine wpList_append_full _ rfl _ _ _ rfl 3 i0 (.int .i64 0) 1 8 Tryz.underlying37 hi hz0 hz1 hz2 rfl (by decide) w.heap.size _ 1 [.int .i64 0] rfl (by simp) rfl ((Rd.one _ _ _).mono hxr.size) (by have := hxr.size; simp; omega) A8 L1 c8 (i6 X8) rfl (by simp; omega) ((Rd.alloc hrx _).mono (Nat.zero_le _)) (one_i6 _) (by simp [maxLen]; omega) (by omega) ?_; intro A9 c9 os9 d9 hr9 hn9 hc9)
        refine ⟨⟨1 + L1, by omega, by omega, ?_, ?_, ?_⟩, by simp [slen]; omega⟩
        · exact ⟨A9, c9, 0 :: X8, rfl, hr9, by simp; omega, AllD.cons (by omega) halx, by rw [val_zero_cons]; exact HVX.out, hc9⟩
        · exact HY.out.ext (by repeat (first | exact Ext.refl _ | apply Ext.drew | apply Ext.alloc | apply Ext.more_))
        · exact hxr.trans (by repeat (first | exact Ext.refl _ | apply Ext.drew | apply Ext.alloc | apply Ext.more_))
      · have HNX := Lib.hid hnx
        have HVX := Lib.hid hvx
        clear hvx
        go_wp2_with fail
        go_loopw [9] (fun y wq => ∃ L2, Lb ≤ L2 ∧ L2 ≤ max La Lb ∧ Hid (LvOut w L2 Nb y wq) ∧ Hid (LvOut w L1 Na (.slice A8 L1 c8) wq) ∧ Ext w wq) (fun y _ => La - slen y)
        case atStart => exact ⟨Lb, Nat.le_refl _, by omega, HY, HX, hxr⟩
        case round =>
          clear hrx hnx halx hcx HNX HVX HX HY hxr
          obtain ⟨L2, hL3, hL4, HY, HX, hxr⟩ := hrel
          obtain ⟨A7, c7, X7, rfl, hrx, hnx, halx, hvx, hcx⟩ := HY.out
          by_cases hll2 : L2 < L1
          · have HNX := Lib.hid hnx
            have HVX := Lib.hid hvx
            clear hvx
            go_wp2_with (at_builtin; refine wpList_append_full _ rfl _ _ _ rfl 3 i0 (.int .i64 0) 1 8 Tryz.underlying37 hi hz0 hz1 hz2 rfl (by decide) w.heap.size _ 1 [.int .i64 0] rfl (by simp) rfl ((Rd.one _ _ _).mono hxr.size) (by have := hxr.size; simp; omega) A7 L2 c7 (i6 X7) rfl (by simp; omega) ((Rd.alloc hrx _).mono (Nat.zero_le _)) (one_i6 _) (by simp [maxLen]; omega) (by omega) ?_; intro A9 c9 os9 d9 hr9 hn9 hc9)
            refine ⟨⟨1 + L2, by omega, by omega, ?_, ?_, ?_⟩, by simp [slen]; omega⟩
            · exact ⟨A9, c9, 0 :: X7, rfl, hr9, by simp; omega, AllD.cons (by omega) halx, by rw [val_zero_cons]; exact HVX.out, hc9⟩
            · exact HX.out.ext (by repeat (first | exact Ext.refl _ | apply Ext.drew | apply Ext.alloc | apply Ext.more_))
            · exact hxr.trans (by repeat (first | exact Ext.refl _ | apply Ext.drew | apply Ext.alloc | apply Ext.more_))
          · clear hvx
            go_wp2_with fail
            go_ret3
            rw [HNa.out, HNb.out, HLLa.out, HLLb.out]
            obtain rfl : L1 = max La Lb := by omega
            obtain rfl : L2 = max La Lb := by omega
            exact ⟨⟨_, _, rfl, HX.out, HY.out⟩, hxr⟩
end Go.Proofs.YtmjmijjbijlhfaaGreatDoor
namespace Go.Proofs.YtmjmijjbijlhfaaGreatDoor
open Go.RowKit NM
theorem split_at_ {l : List Nat} {j d : Nat} (h : l[j]? = some d) : l = l.take j ++ d :: l.drop (j + 1) := by
  have hj : j < l.length := by
    rcases Nat.lt_or_ge j l.length with h1 | h1
    · exact h1
    · rw [List.getElem?_eq_none h1] at h; cases h
  have h1 := List.take_append_drop j l
  rw [List.drop_eq_getElem_cons hj] at h1
  rw [List.getElem?_eq_getElem hj] at h
  rw [← Option.some.inj h]
  exact h1.symm
theorem less_at {X Y : List Nat} {j x y : Nat} (hl : X.length = Y.length) (hX : AllD X) (hY : AllD Y) (he : X.take j = Y.take j) (hx : X[j]? = some x) (hy : Y[j]? = some y) (hne : x ≠ y) : decide (x < y) = decide (val X < val Y) := by
  have h1 := split_at_ hx
  have h2 := split_at_ hy
  have h3 := val_lt (hX.drop (j + 1))
  have h4 := val_lt (hY.drop (j + 1))
  have h5 : (X.drop (j + 1)).length = (Y.drop (j + 1)).length := by simp; omega
  have e1 : val X = val (X.take j) * T (X.drop (j + 1)).length * 10 + x * T (X.drop (j + 1)).length + val (X.drop (j + 1)) := by
    conv => lhs; rw [h1]
    rw [val_append, val_cons, List.length_cons, T_succ, Nat.mul_comm 10, ← Nat.mul_assoc, Nat.add_assoc]
  have e2 : val Y = val (X.take j) * T (X.drop (j + 1)).length * 10 + y * T (X.drop (j + 1)).length + val (Y.drop (j + 1)) := by
    conv => lhs; rw [h2]
    rw [val_append, val_cons, List.length_cons, T_succ, Nat.mul_comm 10, ← Nat.mul_assoc, Nat.add_assoc, he, h5]
  rw [← h5] at h4
  rw [e1, e2]
  generalize T (X.drop (j + 1)).length = t at *
  generalize val (X.take j) * t * 10 = z at *
  rw [Bool.eq_iff_iff, decide_eq_true_eq, decide_eq_true_eq]
  constructor
  · intro h
    have := Nat.mul_le_mul_right t (show x + 1 ≤ y from h)
    rw [Nat.add_mul, Nat.one_mul] at this
    omega
  · intro h
    rcases Nat.lt_or_ge x y with h6 | h6
    · exact h6
    · exfalso
      have := Nat.mul_le_mul_right t (show y + 1 ≤ x by omega)
      rw [Nat.add_mul, Nat.one_mul] at this
      omega
set_option maxHeartbeats 2000000 in
theorem less_any (A B : Option Addr) (ca cb L : Nat) (X Y : List Nat) (w : World) (hA : Rd 0 w A (i6 X)) (hB : Rd 0 w B (i6 Y)) (hX : X.length = L) (hY : Y.length = L) (hXd : AllD X) (hYd : AllD Y) (hL : L ≤ 1000000) :
    Calls Tryz.prog 195 #[.slice A L ca, .slice B L cb] w fun e w' => e = .returned (.bool (decide (val X < val Y))) ∧ Ext w w' := by
  have HA := Lib.hid hA
  have HB := Lib.hid hB
  have HX := Lib.hid hX
  have HY := Lib.hid hY
  generalize hR : decide (val X < val Y) = R
  have HR := Lib.hid hR
  clear hA hB hX hY hR
  go_enter Tryz.func195, Tryz.ntmps195
  go_wp2
  go_loopw [5] (fun i wr => ∃ j : Nat, j ≤ L ∧ i = .int .i64 (j : Int) ∧ Hid (X.take j = Y.take j) ∧ Ext w wr) (fun i _ => L - (intOf i).toNat)
  case atStart => exact ⟨0, Nat.zero_le _, rfl, by show _ = _; rfl, Ext.refl _⟩
  case round =>
    obtain ⟨j, hj, rfl, HE, hxr⟩ := hrel
    by_cases hlt : j < L
    · obtain ⟨x, hx⟩ : ∃ x, X[j]? = some x := ⟨X[j]'(by have := HX.out; omega), by rw [List.getElem?_eq_getElem]⟩
      obtain ⟨y, hy⟩ : ∃ y, Y[j]? = some y := ⟨Y[j]'(by have := HY.out; omega), by rw [List.getElem?_eq_getElem]⟩
      obtain ⟨ba, oa, rfl, _, hcx⟩ := Rd.at_ (HA.out.ext hxr) hx
      obtain ⟨bb, ob, rfl, _, hcy⟩ := Rd.at_ (HB.out.ext hxr) hy
      have hba := lt_of_cell hcx
      have hbb := lt_of_cell hcy
      simp only at hba hbb
      by_cases hne : x = y
      · subst hne
        have HN : Hid (X.take (j + 1) = Y.take (j + 1)) := by show _ = _; rw [take_at hx, take_at hy, HE.out]
        clear hx hy
        go_wp2
        refine wp_plan (S := Ext _) [(0, 0), (1, 0), (2, 0), (3, 0), (4, 0), (5, 0), (6, 0), (7, 0), (8, 0)] [] (by kernel_rfl) (by kernel_rfl) (by kernel_rfl) (fun _ _ d _ _ h => by cases d <;> exact h) (Ext.drew (Ext.refl _)) ?_
        iterate 9 ((refine wpPl_read (v := ?_) rfl ?_ (fun _ h => ?_) ?_; rotate_left 1; rfl; (obtain ⟨_, _, rfl⟩ := h.more; go_simp; try rfl)); try simp only [Act.put, zqA, zqB, zqC])
        refine wpPl_nil ?_
        go_wp2
        refine ⟨⟨j + 1, by omega, by go_num, HN, ?_⟩, by simp [intOf]; omega⟩
        exact hxr.trans (by repeat (first | exact Ext.refl _ | apply Ext.drew | apply Ext.alloc | apply Ext.more_))
      · have hRR : decide (x < y) = R := by rw [less_at (by rw [HX.out, HY.out]) hXd hYd HE.out hx hy hne]; exact HR.out
        have HRR := Lib.hid hRR
        have e1 : ((x : Int) == (y : Int)) = false := by simp; omega
        have e2 : (x == y) = false := by simp; omega
        clear hx hy hRR
        go_wp2
        refine wp_plan (S := Ext _) [(0, 0), (1, 0), (2, 0), (3, 0), (4, 0), (5, 0), (6, 0), (7, 0), (8, 0)] [] (by kernel_rfl) (by kernel_rfl) (by kernel_rfl) (fun _ _ d _ _ h => by cases d <;> exact h) (Ext.drew (Ext.refl _)) ?_
        iterate 9 ((refine wpPl_read (v := ?_) rfl ?_ (fun _ h => ?_) ?_; rotate_left 1; rfl; (obtain ⟨_, _, rfl⟩ := h.more; go_simp; try rfl)); try simp only [Act.put, zqA, zqB, zqC])
        refine wpPl_nil ?_
        go_wp2
        refine wp_plan (S := Ext _) [(0, 0), (1, 0), (2, 0), (3, 0), (4, 0), (5, 0), (6, 0), (7, 0), (8, 0), (9, 0)] [] (by kernel_rfl) (by kernel_rfl) (by kernel_rfl) (fun _ _ d _ _ h => by cases d <;> exact h) (Ext.drew (Ext.refl _)) ?_
        iterate 10 ((refine wpPl_read (v := ?_) rfl ?_ (fun _ h => ?_) ?_; rotate_left 1; rfl; (obtain ⟨_, _, rfl⟩ := h.more; go_simp; try rfl)); try simp only [Act.put, zqA, zqB, zqC])
        refine wpPl_nil ?_
        go_wp2
        go_ret
        exact ⟨ret_bool HRR.out, hxr.trans (by repeat (first | exact Ext.refl _ | apply Ext.drew | apply Ext.alloc | apply Ext.more_))⟩
    · have hRR : R = false := by
        rw [← HR.out]
        have h1 := HE.out
        rw [List.take_of_length_le (by have := HX.out; omega), List.take_of_length_le (by have := HY.out; omega)] at h1
        rw [h1]; simp
      subst hRR
      go_wp2
      go_ret
      exact ⟨rfl, hxr⟩
end Go.Proofs.YtmjmijjbijlhfaaGreatDoor
namespace Go.Proofs.YtmjmijjbijlhfaaGreatDoor
open Go.RowKit NM
theorem Rd.set_low {base : Nat} {w : World} {A : Option Addr} {cs : List Value} {p : Addr} (v : Value) (h : Rd base w A cs) (hp : p.block < base) : Rd base (w.setCell p v) A cs :=
  h.blocks fun b hb => RowKit.Below.heap_setCell _ _ _ _ (by omega)
/-- An exact value, as it is handed back. -/
def DecOut (w : World) (neg : Bool) (L N : Nat) (ex : Int) (e : Ending) (w' : World) : Prop := ∃ A c X, e = .returned (DecV neg A L c ex) ∧ Rd w.heap.size w' A (i6 X) ∧ X.length = L ∧ AllD X ∧ val X = N ∧ L ≤ c
/-- What Plus keeps in its loops. -/
structure PlusSt (W : World) (L j : Nat) (S : List Nat) (wr : World) : Prop where
  out : Dg .i64 3 W.heap.size wr (some ⟨W.heap.size, 0, none⟩) (L + 1) (List.replicate (j + 1) 0 ++ S)
  len : S.length = L - j
  all : AllD S
  ext : Ext W wr
theorem PlusSt.step {W wr : World} {L j d : Nat} {S : List Nat} (h : PlusSt W L (j + 1) S wr) (hd : d < 10) (hj : j + 1 ≤ L) : PlusSt W L j (d :: S) (wr.setCell ⟨W.heap.size, j + 1, none⟩ (.int .i64 (d : Int))) := by
  refine ⟨?_, by simp [h.len]; omega, AllD.cons hd h.all, h.ext.set _ (Nat.le_refl _)⟩
  have := h.out.set (i := j + 1) (d := d) (by simp; omega)
  rw [Nat.zero_add, List.set_append_left _ _ (by simp)] at this
  have he : (List.replicate (j + 1 + 1) 0).set (j + 1) d = List.replicate (j + 1) 0 ++ [d] := by
    rw [List.replicate_succ', List.set_append_right _ _ (by simp)]; simp
  rw [he, List.append_assoc, List.singleton_append] at this
  exact this
theorem PlusSt.at {W wr : World} {L j : Nat} {S : List Nat} (h : PlusSt W L j S wr) : wr.cell? ⟨W.heap.size, j, none⟩ = some (.int .i64 0) ∧ wr.frozen? ⟨W.heap.size, j, none⟩ = false := by
  obtain ⟨b, off, h1, _, h2, h3⟩ := h.out.at (i := j) (d := 0) (by rw [List.getElem?_append_left (by simp)]; simp [List.getElem?_replicate])
  simp only [Option.some.injEq, Addr.mk.injEq, and_true] at h1
  obtain ⟨rfl, rfl⟩ := h1
  rw [Nat.zero_add] at h2 h3
  exact ⟨h2, h3⟩
theorem PlusSt.drew {W wr : World} {L j : Nat} {S : List Nat} (h : PlusSt W L j S wr) : PlusSt W L j S wr.drew := ⟨h.out, h.len, h.all, h.ext.drew⟩
theorem PlusSt.ext_ {W wr wr' : World} {L j : Nat} {S : List Nat} (h : PlusSt W L j S wr) (hx : Ext wr wr') : PlusSt W L j S wr' := ⟨h.out.ext hx, h.len, h.all, h.ext.trans hx⟩
theorem PlusSt.last {W wr : World} {L : Nat} {S : List Nat} (h : PlusSt W L 0 S wr) (d : Nat) : Dg .i64 3 W.heap.size (wr.setCell ⟨W.heap.size, 0, none⟩ (.int .i64 (d : Int))) (some ⟨W.heap.size, 0, none⟩) (L + 1) (d :: S) := by
  have := h.out.set (i := 0) (d := d) (by simp)
  simpa using this
set_option maxHeartbeats 2000000 in
theorem plus_same (neg : Bool) (A B : Option Addr) (ca cb : Nat) (la lb : List Nat) (ea eb : Int) (e : Int) (ka kb L : Nat) (w : World) (ha : Rd 0 w A (i6 la)) (hb : Rd 0 w B (i6 lb)) (hla : la.length ≤ 1000) (hlb : lb.length ≤ 1000)
    (hka : ea = e + ka) (hkb : eb = e + kb) (hk0 : ka = 0 ∨ kb = 0) (hkk : ka ≤ 10000 ∧ kb ≤ 10000) (he : -1000000 ≤ e ∧ e ≤ 1000000) (hda : AllD la) (hdb : AllD lb) (hL : max (la.length + ka) (lb.length + kb) = L) :
    Calls Tryz.prog 158 #[DecV neg A la.length ca ea, DecV neg B lb.length cb eb] w fun r w' => DecOut w neg (L + 1) (val la * T ka + val lb * T kb) e r w' ∧ Ext w w' := by
  have hlv := fun W h1 h2 => level_any neg neg A B ca cb la lb ea eb e ka kb W h1 h2 hla hlb hka hkb hk0 hkk he hda hdb
  rw [hL] at hlv
  have hLb : L ≤ 11000 := by omega
  have hNa : val la * T ka < T L := by
    rw [← val_zeros]
    exact Nat.lt_of_lt_of_le (val_lt (hda.append (AllD.rep _ _ (by omega)))) (T_mono (by simp; omega))
  have hNb : val lb * T kb < T L := by
    rw [← val_zeros]
    exact Nat.lt_of_lt_of_le (val_lt (hdb.append (AllD.rep _ _ (by omega)))) (T_mono (by simp; omega))
  generalize val la * T ka = Na at *
  generalize val lb * T kb = Nb at *
  have HA := Lib.hid ha
  have HB := Lib.hid hb
  have HNa := Lib.hid hNa
  have HNb := Lib.hid hNb
  clear ha hb hka hkb hk0 hkk hL hNa hNb
  have hmk := make_int (L + 1) (by omega)
  rw [show (((L + 1 : Nat)) : Int) = (L : Int) + 1 by omega] at hmk
  go_enter Tryz.func158, Tryz.ntmps158
  go_upto_region 2 with (go_at_call 194; (with_reducible refine (hlv _ (HA.out.ext (by repeat (first | exact Ext.refl _ | apply Ext.drew | apply Ext.alloc | apply Ext.more_))) (HB.out.ext (by repeat (first | exact Ext.refl _ | apply Ext.drew | apply Ext.alloc | apply Ext.more_)))).mono ?_); rintro r w' ⟨⟨va, vb, rfl, hva, hvb⟩, hx⟩; obtain ⟨os, d, rfl⟩ := hx.more; obtain ⟨Ax, cx, X, rfl, hrx, hnx, hax, hvx, hcx⟩ := hva; obtain ⟨Ay, cy, Y, rfl, hry, hny, hay, hvy, hcy⟩ := hvb)
  refine wp_world fun W hW => ?_
  have c0 : W.cell? ⟨w.heap.size, 0, none⟩ = some (.bool neg) := by rw [hW]; go_simp
  have c1 : W.cell? ⟨w.heap.size + 1, 0, none⟩ = some (.bool neg) := by rw [hW]; go_simp
  have r0 : W.cell? ⟨w.heap.size + 1 + 1, 0, none⟩ = some (.bool false) := by rw [hW]; go_simp
  have r1 : W.cell? ⟨w.heap.size + 1 + 1, 1, none⟩ = some (.slice none 0 0) := by rw [hW]; go_simp
  have r2 : W.cell? ⟨w.heap.size + 1 + 1, 2, none⟩ = some (.int .i64 0) := by rw [hW]; go_simp
  have q0 : W.frozen? ⟨w.heap.size + 1 + 1, 0, none⟩ = false := by rw [hW]; go_simp
  have q1 : W.frozen? ⟨w.heap.size + 1 + 1, 1, none⟩ = false := by rw [hW]; go_simp
  have q2 : W.frozen? ⟨w.heap.size + 1 + 1, 2, none⟩ = false := by rw [hW]; go_simp
  have hz : w.heap.size + 1 + 1 < W.heap.size := by rw [hW]; simp; try omega
  have hz1 : w.heap.size + 1 < W.heap.size := by omega
  have hz0 : w.heap.size < W.heap.size := by omega
  have hxW : Ext w W := by rw [hW]; exact by repeat (first | exact Ext.refl _ | apply Ext.drew | apply Ext.alloc | apply Ext.more_)
  have HX : Hid (Rd 0 W Ax (i6 X)) := by show Rd _ _ _ _; rw [hW]; exact hrx.mono (Nat.zero_le _)
  have HY : Hid (Rd 0 W Ay (i6 Y)) := by show Rd _ _ _ _; rw [hW]; exact hry.mono (Nat.zero_le _)
  clear hW hrx hry hx
  have HS : Hid (PlusSt W L L [] (W.alloc (.cells (madeCells #[.int .i64 0] (L + 1)) 3))) := ⟨by have := made_dg (k := .i64) (ty := 3) (w := W) (L + 1) rfl (Nat.le_refl _); simpa using this, by simp, AllD.nil, (Ext.refl _).alloc _⟩
  have HNX := Lib.hid hnx
  have HNY := Lib.hid hny
  have HVX := Lib.hid hvx
  have HVY := Lib.hid hvy
  clear hnx hny hvx hvy
  go_wp2
  go_loopw [9, 10] (fun a i wr => ∃ (j c : Nat) (S : List Nat), j ≤ L ∧ c ≤ 1 ∧ i = .int .i64 ((j : Int) - 1) ∧ a = .int .i64 (c : Int) ∧ Hid (PlusSt W L j S wr) ∧ Hid (val (X.drop j) + val (Y.drop j) = c * T S.length + val S)) (fun _ i _ => ((intOf i) + 1).toNat)
  case atStart =>
    exact ⟨L, 0, [], Nat.le_refl _, by omega, by go_num, rfl, HS, by show _ = _; rw [List.drop_eq_nil_of_le (by rw [HNX.out]; exact Nat.le_refl _), List.drop_eq_nil_of_le (by rw [HNY.out]; exact Nat.le_refl _)]; simp [val_nil]⟩
  case round =>
    obtain ⟨j, c, S, hj, hc, rfl, rfl, H, HV⟩ := hrel
    have hxr := H.out.ext
    have hsz := hxr.size
    cases j with
    | zero =>
      obtain ⟨o0, o1⟩ := H.out.at
      have c0' := hxr.cell_some c0
      have r0' := hxr.cell_some r0
      have r1' := hxr.cell_some r1
      have r2' := hxr.cell_some r2
      have q0' := (hxr.frozen (p := ⟨w.heap.size + 1 + 1, 0, none⟩) (by show w.heap.size + 1 + 1 < _; omega)).trans q0
      have q1' := (hxr.frozen (p := ⟨w.heap.size + 1 + 1, 1, none⟩) (by show w.heap.size + 1 + 1 < _; omega)).trans q1
      have q2' := (hxr.frozen (p := ⟨w.heap.size + 1 + 1, 2, none⟩) (by show w.heap.size + 1 + 1 < _; omega)).trans q2
      have HLAST := Lib.hid (H.out.last c)
      go_wp2
      refine bodyPost_ret (v := DecV neg (some ⟨W.heap.size, 0, none⟩) (L + 1) (L + 1) e) (by simp [results, Tryz.results158, go_sem, hz, r0', r1', r2']) rfl ⟨⟨_, _, c :: S, rfl, ?_, by have := H.out.len; simp; omega, AllD.cons (by omega) H.out.all, ?_, Nat.le_refl _⟩, ?_⟩
      · exact (((HLAST.out.rd.set_low _ hz).set_low _ hz).set_low _ hz).mono (by omega)
      · rw [val_cons]
        have := HV.out
        rw [List.drop_zero, List.drop_zero, HVX.out, HVY.out] at this
        omega
      · exact (((((hxW.trans hxr).set _ (by show w.heap.size ≤ W.heap.size; omega)).set _ (by show w.heap.size ≤ w.heap.size + 1 + 1; omega)).set _ (by show w.heap.size ≤ w.heap.size + 1 + 1; omega)).set _ (by show w.heap.size ≤ w.heap.size + 1 + 1; omega))
    | succ j =>
      have hjL : j < L := by omega
      obtain ⟨x, hxj⟩ : ∃ x, X[j]? = some x := ⟨X[j]'(by have := HNX.out; omega), by rw [List.getElem?_eq_getElem]⟩
      obtain ⟨y, hyj⟩ : ∃ y, Y[j]? = some y := ⟨Y[j]'(by have := HNY.out; omega), by rw [List.getElem?_eq_getElem]⟩
      obtain ⟨ba, oa, rfl, _, hcx'⟩ := Rd.at_ (HX.out.ext hxr) hxj
      obtain ⟨bb, ob, rfl, _, hcy'⟩ := Rd.at_ (HY.out.ext hxr) hyj
      have hba := lt_of_cell hcx'
      have hbb := lt_of_cell hcy'
      simp only at hba hbb
      have hx10 := hax.at hxj
      have hy10 := hay.at hyj
      have HST := Lib.hid (add_step hxj hyj (by rw [HNX.out, HNY.out]) (by rw [H.out.len, HNX.out]) HV.out)
      obtain ⟨o0, o1⟩ := H.out.at
      have t1 : ((x : Int) + (y : Int) + (c : Int)).tmod 10 = (((x + y + c) % 10 : Nat) : Int) := rfl
      have t3 : ((x : Int) + (y : Int) + (c : Int)) % 10 = (((x + y + c) % 10 : Nat) : Int) := rfl
      have t2 : ((x : Int) + (y : Int) + (c : Int)).tdiv 10 = (((x + y + c) / 10 : Nat) : Int) := rfl
      have hd1 : (x + y + c) % 10 < 10 := by omega
      have hd2 : (x + y + c) / 10 ≤ 1 := by omega
      have hji : (((j + 1 : Nat) : Int) - 1) = (j : Int) := by omega
      rw [hji]
      have HSP := Lib.hid (H.out.step hd1 hj)
      clear hxj hyj
      generalize (x + y + c) % 10 = dg at *
      generalize (x + y + c) / 10 = cc at *
      go_wp2
      refine wp_plan (S := Ext _) [(0, 0), (1, 0), (2, 0), (3, 0), (4, 0), (5, 0), (6, 0), (7, 0), (8, 0), (9, 0), (10, 0), (11, 0)] [] (by kernel_rfl) (by kernel_rfl) (by kernel_rfl) (fun _ _ d _ _ h => by cases d <;> exact h) (Ext.drew (Ext.refl _)) ?_
      iterate 12 ((refine wpPl_read (v := ?_) rfl ?_ (fun _ h => ?_) ?_; rotate_left 1; rfl; (obtain ⟨_, _, rfl⟩ := h.more; go_simp; try rfl)); try simp only [Act.put, zqA, zqB, zqC])
      refine wpPl_nil ?_
      go_wp2
      refine ⟨⟨j, cc, dg :: S, by omega, hd2, by go_num, by rw [t2], ?_, ?_⟩, by simp [intOf]⟩
      · exact HSP.out.drew
      · exact HST
set_option maxHeartbeats 2000000 in
theorem plus_diff (na nb : Bool) (A B : Option Addr) (ca cb : Nat) (la lb : List Nat) (ea eb : Int) (e : Int) (ka kb L : Nat) (w : World) (ha : Rd 0 w A (i6 la)) (hb : Rd 0 w B (i6 lb)) (hla : la.length ≤ 1000) (hlb : lb.length ≤ 1000)
    (hka : ea = e + ka) (hkb : eb = e + kb) (hk0 : ka = 0 ∨ kb = 0) (hkk : ka ≤ 10000 ∧ kb ≤ 10000) (he : -1000000 ≤ e ∧ e ≤ 1000000) (hda : AllD la) (hdb : AllD lb) (hne : na ≠ nb) (hL : max (la.length + ka) (lb.length + kb) = L) :
    Calls Tryz.prog 158 #[DecV na A la.length ca ea, DecV nb B lb.length cb eb] w fun r w' => DecOut w (if val la * T ka < val lb * T kb then nb else na) (L + 1) (if val la * T ka < val lb * T kb then val lb * T kb - val la * T ka else val la * T ka - val lb * T kb) e r w' ∧ Ext w w' := by
  have hlv := fun W h1 h2 => level_any na nb A B ca cb la lb ea eb e ka kb W h1 h2 hla hlb hka hkb hk0 hkk he hda hdb
  rw [hL] at hlv
  have hLb : L ≤ 11000 := by omega
  generalize val la * T ka = Na at *
  generalize val lb * T kb = Nb at *
  generalize hNG : (if Na < Nb then nb else na) = NG
  generalize hVV : (if Na < Nb then Nb - Na else Na - Nb) = VV
  have HNG := Lib.hid hNG
  have HVV := Lib.hid hVV
  clear hNG hVV
  have HA := Lib.hid ha
  have HB := Lib.hid hb
  clear ha hb hka hkb hk0 hkk hL
  have hmk := make_int (L + 1) (by omega)
  rw [show (((L + 1 : Nat)) : Int) = (L : Int) + 1 by omega] at hmk
  go_enter Tryz.func158, Tryz.ntmps158
  go_upto_region 2 with (go_at_call 194; (with_reducible refine (hlv _ (HA.out.ext (by repeat (first | exact Ext.refl _ | apply Ext.drew | apply Ext.alloc | apply Ext.more_))) (HB.out.ext (by repeat (first | exact Ext.refl _ | apply Ext.drew | apply Ext.alloc | apply Ext.more_)))).mono ?_); rintro r w' ⟨⟨va, vb, rfl, hva, hvb⟩, hx⟩; obtain ⟨os, d, rfl⟩ := hx.more; obtain ⟨Ax, cx, X, rfl, hrx, hnx, hax, hvx, hcx⟩ := hva; obtain ⟨Ay, cy, Y, rfl, hry, hny, hay, hvy, hcy⟩ := hvb)
  refine wp_world fun W hW => ?_
  have c0 : W.cell? ⟨w.heap.size, 0, none⟩ = some (.bool na) := by rw [hW]; go_simp
  have c1 : W.cell? ⟨w.heap.size + 1, 0, none⟩ = some (.bool nb) := by rw [hW]; go_simp
  have r0 : W.cell? ⟨w.heap.size + 1 + 1, 0, none⟩ = some (.bool false) := by rw [hW]; go_simp
  have r1 : W.cell? ⟨w.heap.size + 1 + 1, 1, none⟩ = some (.slice none 0 0) := by rw [hW]; go_simp
  have r2 : W.cell? ⟨w.heap.size + 1 + 1, 2, none⟩ = some (.int .i64 0) := by rw [hW]; go_simp
  have q0 : W.frozen? ⟨w.heap.size + 1 + 1, 0, none⟩ = false := by rw [hW]; go_simp
  have q1 : W.frozen? ⟨w.heap.size + 1 + 1, 1, none⟩ = false := by rw [hW]; go_simp
  have q2 : W.frozen? ⟨w.heap.size + 1 + 1, 2, none⟩ = false := by rw [hW]; go_simp
  have hz : w.heap.size + 1 + 1 < W.heap.size := by rw [hW]; simp; try omega
  have hz1 : w.heap.size + 1 < W.heap.size := by omega
  have hz0 : w.heap.size < W.heap.size := by omega
  have hxW : Ext w W := by rw [hW]; exact by repeat (first | exact Ext.refl _ | apply Ext.drew | apply Ext.alloc | apply Ext.more_)
  have HX : Hid (Rd 0 W Ax (i6 X)) := by show Rd _ _ _ _; rw [hW]; exact hrx.mono (Nat.zero_le _)
  have HY : Hid (Rd 0 W Ay (i6 Y)) := by show Rd _ _ _ _; rw [hW]; exact hry.mono (Nat.zero_le _)
  clear hW hrx hry hx
  have HS : Hid (PlusSt W L L [] (W.alloc (.cells (madeCells #[.int .i64 0] (L + 1)) 3))) := ⟨by have := made_dg (k := .i64) (ty := 3) (w := W) (L + 1) rfl (Nat.le_refl _); simpa using this, by simp, AllD.nil, (Ext.refl _).alloc _⟩
  have HNX := Lib.hid hnx
  have HNY := Lib.hid hny
  have HVX := Lib.hid hvx
  have HVY := Lib.hid hvy
  clear hnx hny hvx hvy
  have hne' : (na == nb) = false := by simpa using hne
  have hls := fun W' (hx' : Ext W W') => less_any Ax Ay cx cy L X Y W' (HX.out.ext hx') (HY.out.ext hx') HNX.out HNY.out hax hay (by omega)
  go_upto_if 70 with (go_at_call 195; (with_reducible refine (hls _ (by repeat (first | exact Ext.refl _ | apply Ext.drew | apply Ext.alloc | apply Ext.more_))).mono ?_); rintro r w' ⟨rfl, hx⟩; obtain ⟨os2, d2, rfl⟩ := hx.more)
  have HS2 := HS.out.ext_ (ext_more _ os2 d2)
  have HS2 := Lib.hid HS2
  refine wp_world fun W2 hW2 => ?_
  rw [← hW2] at HS2
  clear hW2 HS hls hx
  have hx2 := HS2.out.ext
  have hz2 := hx2.size
  have c1' := hx2.cell_some c1
  go_cut [5, 6, 12] (fun s5 s6 s12 wx => ∃ (Ap Aq : Option Addr) (cp cq : Nat) (P Q : List Nat) (n : Bool), s5 = .slice Ap L cp ∧ s6 = .slice Aq L cq ∧ s12 = .bool n ∧ wx = W2 ∧ Hid (Rd 0 W Ap (i6 P)) ∧ Hid (Rd 0 W Aq (i6 Q)) ∧ Hid (P.length = L) ∧ Hid (Q.length = L) ∧ AllD P ∧ AllD Q ∧ L ≤ cp ∧ L ≤ cq ∧ Hid (val Q ≤ val P ∧ n = NG ∧ val P - val Q = VV))
  case first =>
    by_cases hlt : val X < val Y
    · have e1 : decide (val X < val Y) = true := by simp [hlt]
      have hN : Na < Nb := by rw [← HVX.out, ← HVY.out]; exact hlt
      have HN := Lib.hid hN
      have HLT := Lib.hid hlt
      clear hlt hN
      go_wp2
      go_meet
      exact ⟨Ay, Ax, cy, cx, Y, X, nb, rfl, rfl, rfl, rfl, HY, HX, HNY, HNX, hay, hax, hcy, hcx, Nat.le_of_lt HLT.out, by rw [← HNG.out, if_pos HN.out], by rw [← HVV.out, if_pos HN.out, HVX.out, HVY.out]⟩
    · have e1 : decide (val X < val Y) = false := by simp [hlt]
      have hN : ¬ Na < Nb := by rw [← HVX.out, ← HVY.out]; exact hlt
      have HN := Lib.hid hN
      have HLT := Lib.hid hlt
      clear hlt hN
      go_wp2
      go_meet
      exact ⟨Ax, Ay, cx, cy, X, Y, na, rfl, rfl, rfl, rfl, HX, HY, HNX, HNY, hax, hay, hcx, hcy, Nat.le_of_not_lt HLT.out, by rw [← HNG.out, if_neg HN.out], by rw [← HVV.out, if_neg HN.out, HVX.out, HVY.out]⟩
  case rest =>
  clear HX HY HNX HNY HVX HVY hax hay hcx hcy c1'
  obtain ⟨Ap, Aq, cp, cq, X, Y, n, rfl, rfl, rfl, rfl, HX, HY, HNX, HNY, hax, hay, hcx, hcy, HFIN⟩ := hcut
  go_wp2
  go_loopw [13, 14] (fun a i wr => ∃ (j c : Nat) (S : List Nat), j ≤ L ∧ c ≤ 1 ∧ i = .int .i64 ((j : Int) - 1) ∧ a = .int .i64 (c : Int) ∧ Hid (PlusSt W L j S wr) ∧ Hid (val (X.drop j) + c * T S.length = val (Y.drop j) + val S)) (fun _ i _ => ((intOf i) + 1).toNat)
  case atStart =>
    exact ⟨L, 0, [], Nat.le_refl _, by omega, by go_num, rfl, HS2, by show _ = _; rw [List.drop_eq_nil_of_le (by rw [HNX.out]; exact Nat.le_refl _), List.drop_eq_nil_of_le (by rw [HNY.out]; exact Nat.le_refl _)]; simp [val_nil]⟩
  case round =>
    obtain ⟨j, c, S, hj, hc, rfl, rfl, H, HV⟩ := hrel
    have hxr := H.out.ext
    have hsz := hxr.size
    cases j with
    | zero =>
      have r0' := hxr.cell_some r0
      have r1' := hxr.cell_some r1
      have r2' := hxr.cell_some r2
      have q0' := (hxr.frozen (p := ⟨w.heap.size + 1 + 1, 0, none⟩) (by show w.heap.size + 1 + 1 < _; omega)).trans q0
      have q1' := (hxr.frozen (p := ⟨w.heap.size + 1 + 1, 1, none⟩) (by show w.heap.size + 1 + 1 < _; omega)).trans q1
      have q2' := (hxr.frozen (p := ⟨w.heap.size + 1 + 1, 2, none⟩) (by show w.heap.size + 1 + 1 < _; omega)).trans q2
      have hz' : w.heap.size + 1 + 1 < wr.heap.size := by omega
      go_wp2
      obtain ⟨f1, f2, f3⟩ := HFIN.out
      refine bodyPost_ret (v := DecV n (some ⟨W.heap.size, 0, none⟩) (L + 1) (L + 1) e) (by simp [results, Tryz.results158, go_sem, hz', r0', r1', r2']) rfl ⟨⟨_, _, 0 :: S, by rw [f2], ?_, by have := H.out.len; simp; omega, AllD.cons (by omega) H.out.all, ?_, Nat.le_refl _⟩, ?_⟩
      · have hrd := H.out.out.rd
        exact (((hrd.set_low _ hz).set_low _ hz).set_low _ hz).mono (by omega)
      · rw [← f3, val_cons]
        have h1 := HV.out
        rw [List.drop_zero, List.drop_zero] at h1
        have hS := val_lt H.out.all
        have hc0 : c = 0 := by
          rcases Nat.eq_zero_or_pos c with h0 | h0
          · exact h0
          · exfalso
            have h2 := Nat.mul_le_mul_right (T S.length) h0
            rw [Nat.one_mul] at h2
            omega
        rw [hc0] at h1
        omega
      · exact ((((hxW.trans hxr).set _ (by show w.heap.size ≤ w.heap.size + 1 + 1; omega)).set _ (by show w.heap.size ≤ w.heap.size + 1 + 1; omega)).set _ (by show w.heap.size ≤ w.heap.size + 1 + 1; omega))
    | succ j =>
      have hjL : j < L := by omega
      obtain ⟨x, hxj⟩ : ∃ x, X[j]? = some x := ⟨X[j]'(by have := HNX.out; omega), by rw [List.getElem?_eq_getElem]⟩
      obtain ⟨y, hyj⟩ : ∃ y, Y[j]? = some y := ⟨Y[j]'(by have := HNY.out; omega), by rw [List.getElem?_eq_getElem]⟩
      obtain ⟨ba, oa, rfl, _, hcx'⟩ := Rd.at_ (HX.out.ext hxr) hxj
      obtain ⟨bb, ob, rfl, _, hcy'⟩ := Rd.at_ (HY.out.ext hxr) hyj
      have hba := lt_of_cell hcx'
      have hbb := lt_of_cell hcy'
      simp only at hba hbb
      have hx10 := hax.at hxj
      have hy10 := hay.at hyj
      have HST := Lib.hid (fun d c' => sub_step (d := d) (c' := c') hxj hyj (by rw [HNX.out, HNY.out]) (by rw [H.out.len, HNX.out]) HV.out)
      obtain ⟨o0, o1⟩ := H.out.at
      have hji : (((j + 1 : Nat) : Int) - 1) = (j : Int) := by omega
      rw [hji]
      have HSP := Lib.hid (fun d (hd1 : d < 10) => H.out.step hd1 hj)
      clear hxj hyj
      by_cases hneg : x < y + c
      · have e1 : (x : Int) - (y : Int) - (c : Int) < 0 := by omega
        have e2 : (x : Int) - (y : Int) - (c : Int) + 10 = ((x + 10 - y - c : Nat) : Int) := by omega
        go_wp2
        refine wp_plan (S := Ext _) [(0, 0), (1, 0), (2, 0), (3, 0), (4, 0), (5, 0), (6, 0), (7, 0), (8, 0), (9, 0), (10, 0), (11, 0)] [] (by kernel_rfl) (by kernel_rfl) (by kernel_rfl) (fun _ _ d _ _ h => by cases d <;> exact h) (Ext.drew (Ext.refl _)) ?_
        iterate 12 ((refine wpPl_read (v := ?_) rfl ?_ (fun _ h => ?_) ?_; rotate_left 1; rfl; (obtain ⟨_, _, rfl⟩ := h.more; go_simp; try rfl)); try simp only [Act.put, zqA, zqB, zqC])
        refine wpPl_nil ?_
        go_wp2
        refine ⟨⟨j, 1, (x + 10 - y - c) :: S, by omega, by omega, by go_num, rfl, ?_, HST.out _ _ (by omega)⟩, by simp [intOf]⟩
        have := (HSP.out (x + 10 - y - c) (by omega)).drew
        exact this
      · have e1 : ¬ (x : Int) - (y : Int) - (c : Int) < 0 := by omega
        have e2 : (x : Int) - (y : Int) - (c : Int) = ((x - y - c : Nat) : Int) := by omega
        go_wp2
        refine wp_plan (S := Ext _) [(0, 0), (1, 0), (2, 0), (3, 0), (4, 0), (5, 0), (6, 0), (7, 0), (8, 0), (9, 0), (10, 0), (11, 0)] [] (by kernel_rfl) (by kernel_rfl) (by kernel_rfl) (fun _ _ d _ _ h => by cases d <;> exact h) (Ext.drew (Ext.refl _)) ?_
        iterate 12 ((refine wpPl_read (v := ?_) rfl ?_ (fun _ h => ?_) ?_; rotate_left 1; rfl; (obtain ⟨_, _, rfl⟩ := h.more; go_simp; try rfl)); try simp only [Act.put, zqA, zqB, zqC])
        refine wpPl_nil ?_
        go_wp2
        refine ⟨⟨j, 0, (x - y - c) :: S, by omega, by omega, by go_num, rfl, ?_, HST.out _ _ (by omega)⟩, by simp [intOf]⟩
        have := (HSP.out (x - y - c) (by omega)).drew
        exact this
theorem plus_any (na nb : Bool) (A B : Option Addr) (ca cb : Nat) (la lb : List Nat) (ea eb : Int) (e : Int) (ka kb L : Nat) (w : World) (ha : Rd 0 w A (i6 la)) (hb : Rd 0 w B (i6 lb)) (hla : la.length ≤ 1000) (hlb : lb.length ≤ 1000)
    (hka : ea = e + ka) (hkb : eb = e + kb) (hk0 : ka = 0 ∨ kb = 0) (hkk : ka ≤ 10000 ∧ kb ≤ 10000) (he : -1000000 ≤ e ∧ e ≤ 1000000) (hda : AllD la) (hdb : AllD lb) (hL : max (la.length + ka) (lb.length + kb) = L) :
    Calls Tryz.prog 158 #[DecV na A la.length ca ea, DecV nb B lb.length cb eb] w fun r w' => DecOut w (plusN na nb (val la * T ka) (val lb * T kb)).1 (L + 1) (plusN na nb (val la * T ka) (val lb * T kb)).2 e r w' ∧ Ext w w' := by
  unfold plusN
  by_cases h : na = nb
  · rw [if_pos h]
    subst h
    exact plus_same na A B ca cb la lb ea eb e ka kb L w ha hb hla hlb hka hkb hk0 hkk he hda hdb hL
  · rw [if_neg h]
    have := plus_diff na nb A B ca cb la lb ea eb e ka kb L w ha hb hla hlb hka hkb hk0 hkk he hda hdb h hL
    split
    · rename_i hlt; rw [if_pos hlt, if_pos hlt] at this; exact this
    · rename_i hlt; rw [if_neg hlt, if_neg hlt] at this; exact this
end Go.Proofs.YtmjmijjbijlhfaaGreatDoor
namespace Go.Proofs.YtmjmijjbijlhfaaGreatDoor
open Go.RowKit NM
/-- The document's Right, in the same words. -/
theorem rright_rt (m ex : Int) (w : World) (h : I64 m) :
    Calls Tryz.prog 67 #[NV m ex] w fun e w' => e = .returned (.bool (rtB m ex)) ∧ Ext w w' := by
  have := refNumRight_any m ex w h
  rw [← numRight_eq m ex h, numRight_Rt] at this
  exact this
end Go.Proofs.YtmjmijjbijlhfaaGreatDoor
namespace Go.Proofs.YtmjmijjbijlhfaaGreatDoor
open Go.RowKit NM
/-- Minus a number. -/
def negM (m e : Int) : Int := if Rt m e then -m else 0
def zeroE (m e : Int) : Int := if Rt m e then e else 0
theorem neg_rt {m e : Int} : Rt (negM m e) (zeroE m e) := by
  unfold negM zeroE
  split
  · rename_i h
    rcases h with ⟨h1, h2⟩ | ⟨h1, h2, h3, h4, h5⟩
    · exact Or.inl ⟨by omega, h2⟩
    · right
      rw [Int.natAbs_neg]
      exact ⟨by omega, h2, h3, h4, h5⟩
  · exact Or.inl ⟨rfl, rfl⟩
end Go.Proofs.YtmjmijjbijlhfaaGreatDoor
namespace Go.Proofs.YtmjmijjbijlhfaaGreatDoor
open Go.RowKit NM
/-- A number's exact value, in Nat digits. -/
theorem rof_any (m ex : Int) (w : World) (h : I64 m) :
    Calls Tryz.prog 119 #[NV m ex] w fun e w' => ∃ A c, e = .returned (DecV (decide (m < 0)) A (nd m.natAbs) c ex) ∧ Rd w.heap.size w' A (i6 (dig m.natAbs)) ∧ nd m.natAbs ≤ c ∧ Ext w w' := by
  have hl : (digsI m).length = nd m.natAbs := by unfold digsI; rw [List.length_map, digs_dig, dig_length]
  refine (refOf_any m ex w h).mono fun e w' ⟨A, c, h1, h2, h3, h4⟩ => ⟨A, c, ?_, h2.i6_, by omega, h3⟩
  rw [← hl]; exact h1
end Go.Proofs.YtmjmijjbijlhfaaGreatDoor
namespace Go.Proofs.YtmjmijjbijlhfaaGreatDoor
open Go.RowKit NM
/-- Plus of the exact values of two right numbers. -/
theorem plus_of (ma ea mb eb : Int) (h1 : Rt ma ea) (h2 : Rt mb eb) (A B : Option Addr) (ca cb : Nat) (w : World) (ha : Rd 0 w A (i6 (dig ma.natAbs))) (hb : Rd 0 w B (i6 (dig mb.natAbs))) :
    Calls Tryz.prog 158 #[DecV (decide (ma < 0)) A (nd ma.natAbs) ca ea, DecV (decide (mb < 0)) B (nd mb.natAbs) cb eb] w fun r w' => DecOut w (plusN (decide (ma < 0)) (decide (mb < 0)) (ma.natAbs * T (ea - min ea eb).toNat) (mb.natAbs * T (eb - min ea eb).toNat)).1 (max (nd ma.natAbs + (ea - min ea eb).toNat) (nd mb.natAbs + (eb - min ea eb).toNat) + 1) (plusN (decide (ma < 0)) (decide (mb < 0)) (ma.natAbs * T (ea - min ea eb).toNat) (mb.natAbs * T (eb - min ea eb).toNat)).2 (min ea eb) r w' ∧ Ext w w' := by
  obtain ⟨b1, b2, b3⟩ := Rt_bd h1
  obtain ⟨b4, b5, b6⟩ := Rt_bd h2
  have hT15 : T 15 = 1000000000000000 := by decide
  have n1 : nd ma.natAbs ≤ 15 := (nd_le_iff _ _).2 (by omega)
  have n2 : nd mb.natAbs ≤ 15 := (nd_le_iff _ _).2 (by omega)
  have := plus_any (decide (ma < 0)) (decide (mb < 0)) A B ca cb (dig ma.natAbs) (dig mb.natAbs) ea eb (min ea eb) (ea - min ea eb).toNat (eb - min ea eb).toNat _ w ha hb (by rw [dig_length]; omega) (by rw [dig_length]; omega) (by omega) (by omega) (by omega) (by omega) (by omega) (dig_all _) (dig_all _) rfl
  rw [val_dig, val_dig, dig_length, dig_length] at this
  exact this
set_option maxHeartbeats 2000000 in
theorem radd_yes (ma ea mb eb : Int) (w : World) (h1 : Rt ma ea) (h2 : Rt mb eb) :
    Calls Tryz.prog 112 #[NV ma ea, NV mb eb] w fun e w' => e = .returned (rnV (rndI (sumI ma ea mb eb) (min ea eb))) ∧ Ext w w' := by
  obtain ⟨b1, b2, b3⟩ := Rt_bd h1
  obtain ⟨b4, b5, b6⟩ := Rt_bd h2
  have hma : I64 ma := by unfold I64; omega
  have hmb : I64 mb := by unfold I64; omega
  have r1 := rtB_yes h1
  have r2 := rtB_yes h2
  have hT15 : T 15 = 1000000000000000 := by decide
  have n1 : nd ma.natAbs ≤ 15 := (nd_le_iff _ _).2 (by omega)
  have n2 : nd mb.natAbs ≤ 15 := (nd_le_iff _ _).2 (by omega)
  have hof1 := fun W => rof_any ma ea W hma
  have hof2 := fun W => rof_any mb eb W hmb
  have hpl := fun A B ca cb W h3 h4 => plus_of ma ea mb eb h1 h2 A B ca cb W h3 h4
  have hL : max (nd ma.natAbs + (ea - min ea eb).toNat) (nd mb.natAbs + (eb - min ea eb).toNat) + 1 ≤ 1000 := by omega
  have hE : -1000000 ≤ min ea eb ∧ min ea eb ≤ 1000000 := by omega
  rw [← rnd_plus]
  generalize max (nd ma.natAbs + (ea - min ea eb).toNat) (nd mb.natAbs + (eb - min ea eb).toNat) + 1 = L at *
  generalize plusN (decide (ma < 0)) (decide (mb < 0)) (ma.natAbs * T (ea - min ea eb).toNat) (mb.natAbs * T (eb - min ea eb).toNat) = PN at *
  generalize min ea eb = E at *
  have hnr := fun (A : Option Addr) (cap : Nat) (l : List Nat) (W : World) (a1 : l.length = L) (a2 : Rd 0 W A (i6 l)) (a3 : L ≤ cap) (a4 : AllD l) (a5 : val l = PN.2) => near_any 0 PN.1 A L cap l PN.2 E false W a1 a2 a3 hL a4 a5 hE (Nat.zero_le _)
  generalize rnd PN.1 PN.2 false E = R at *
  clear h1 h2 n1 n2 hT15
  generalize ma.natAbs = Na at *
  generalize mb.natAbs = Nb at *
  go_enter Tryz.func112, Tryz.ntmps112
  go_wp2_with (go_at_call 67; (with_reducible refine (rright_rt _ _ _ (by assumption)).mono ?_); rintro e w' ⟨rfl, hbr⟩; obtain ⟨osr, dr, rfl⟩ := hbr.more)
  refine wp_plan (S := Ext _) [(0, 0), (2, 0), (1, 1), (3, 1), (4, 1), (5, 1), (6, 0), (7, 0), (8, 2), (9, 2)] [8, 9] (by kernel_rfl) (by kernel_rfl) (by kernel_rfl) (fun _ _ d _ _ h => by cases d <;> exact h) (Ext.drew (Ext.refl _)) ?_
  iterate 2 ((refine wpPl_read (v := ?_) rfl ?_ (fun _ h => ?_) ?_; rotate_left 1; rfl; (obtain ⟨_, _, rfl⟩ := h.more; go_simp; try rfl)); try simp only [Act.put, zqA, zqB, zqC])
  (refine wpPl_eff rfl ?_ (fun K hK => ?_); rfl; go_simp; (go_at_call 119; (with_reducible refine (hof1 _).mono ?_); rintro e w' ⟨A1, c1, rfl, hrd1, hcp1, hx⟩; obtain ⟨os1, d1, rfl⟩ := hx.more; have hrd1 := hrd1.mono (Nat.zero_le _); (try simp only [more_more, more_drew, drew_more, Array.append_assoc] at hrd1)); refine hK _ _ ?_ ?_; (repeat (first | (with_reducible (first | exact Ext.refl _ | exact ext_d _ _ _ _ | exact ext_app _ _ _ _ _ | exact ext_app2 _ _ _ _ _ _ | exact ext_app3 _ _ _ _ _ _ _ | exact ext_app4 _ _ _ _ _ _ _ _ | exact ext_app5 _ _ _ _ _ _ _ _ _)) | ((with_reducible refine ext_suffix ⟨_, ?_⟩); (try simp only [Array.append_assoc]); rfl) | (with_reducible (first | apply Ext.drew | apply Ext.alloc | apply Ext.more_)) | apply Ext.drew | apply Ext.alloc | apply Ext.more_)))
  try simp only [Act.put, zqA, zqB, zqC]
  (refine wpPl_eff rfl ?_ (fun K hK => ?_); rfl; go_simp; (go_at_call 119; (with_reducible refine (hof2 _).mono ?_); rintro e w' ⟨A2, c2, rfl, hrd2, hcp2, hx⟩; obtain ⟨os2, d2, rfl⟩ := hx.more; have hrd2 := hrd2.mono (Nat.zero_le _); (try simp only [more_more, more_drew, drew_more, Array.append_assoc] at hrd2)); refine hK _ _ ?_ ?_; (repeat (first | (with_reducible (first | exact Ext.refl _ | exact ext_d _ _ _ _ | exact ext_app _ _ _ _ _ | exact ext_app2 _ _ _ _ _ _ | exact ext_app3 _ _ _ _ _ _ _ | exact ext_app4 _ _ _ _ _ _ _ _ | exact ext_app5 _ _ _ _ _ _ _ _ _)) | ((with_reducible refine ext_suffix ⟨_, ?_⟩); (try simp only [Array.append_assoc]); rfl) | (with_reducible (first | apply Ext.drew | apply Ext.alloc | apply Ext.more_)) | apply Ext.drew | apply Ext.alloc | apply Ext.more_)))
  try simp only [Act.put, zqA, zqB, zqC]
  (refine wpPl_eff rfl ?_ (fun K hK => ?_); rfl; go_simp; (go_at_call 158; (with_reducible refine (hpl _ _ _ _ _ (Rd.ext hrd1 (by (try simp only [more_more, more_drew, drew_more, Array.append_assoc]); repeat (first | (with_reducible (first | exact Ext.refl _ | exact ext_d _ _ _ _ | exact ext_app _ _ _ _ _ | exact ext_app2 _ _ _ _ _ _ | exact ext_app3 _ _ _ _ _ _ _)) | ((with_reducible refine ext_suffix ⟨_, ?_⟩); (try simp only [Array.append_assoc]); rfl) | (with_reducible (first | apply Ext.drew | apply Ext.alloc | apply Ext.more_))))) (Rd.ext hrd2 (by (try simp only [more_more, more_drew, drew_more, Array.append_assoc]); repeat (first | (with_reducible (first | exact Ext.refl _ | exact ext_d _ _ _ _ | exact ext_app _ _ _ _ _ | exact ext_app2 _ _ _ _ _ _ | exact ext_app3 _ _ _ _ _ _ _)) | ((with_reducible refine ext_suffix ⟨_, ?_⟩); (try simp only [Array.append_assoc]); rfl) | (with_reducible (first | apply Ext.drew | apply Ext.alloc | apply Ext.more_)))))).mono ?_); rintro e w' ⟨⟨A3, c3, X3, rfl, hrx3, hn3, ha3, hv3, hc3⟩, hx⟩; obtain ⟨os3, d3, rfl⟩ := hx.more; (try simp only [more_more, more_drew, drew_more, Array.append_assoc] at hrx3)); refine hK _ _ ?_ ?_; (repeat (first | (with_reducible (first | exact Ext.refl _ | exact ext_d _ _ _ _ | exact ext_app _ _ _ _ _ | exact ext_app2 _ _ _ _ _ _ | exact ext_app3 _ _ _ _ _ _ _ | exact ext_app4 _ _ _ _ _ _ _ _ | exact ext_app5 _ _ _ _ _ _ _ _ _)) | ((with_reducible refine ext_suffix ⟨_, ?_⟩); (try simp only [Array.append_assoc]); rfl) | (with_reducible (first | apply Ext.drew | apply Ext.alloc | apply Ext.more_)) | apply Ext.drew | apply Ext.alloc | apply Ext.more_)))
  try simp only [Act.put, zqA, zqB, zqC]
  (refine wpPl_eff rfl ?_ (fun K hK => ?_); rfl; go_simp; (go_at_call 68; (with_reducible refine (hnr _ _ _ _ hn3 (Rd.mono hrx3 (Nat.zero_le _)) hc3 ha3 hv3).mono ?_); rintro e w' ⟨rfl, hx⟩; obtain ⟨os4, d4, rfl⟩ := hx.more); refine hK _ _ ?_ ?_; (repeat (first | (with_reducible (first | exact Ext.refl _ | exact ext_d _ _ _ _ | exact ext_app _ _ _ _ _ | exact ext_app2 _ _ _ _ _ _ | exact ext_app3 _ _ _ _ _ _ _ | exact ext_app4 _ _ _ _ _ _ _ _ | exact ext_app5 _ _ _ _ _ _ _ _ _)) | ((with_reducible refine ext_suffix ⟨_, ?_⟩); (try simp only [Array.append_assoc]); rfl) | (with_reducible (first | apply Ext.drew | apply Ext.alloc | apply Ext.more_)) | apply Ext.drew | apply Ext.alloc | apply Ext.more_)))
  try simp only [Act.put, zqA, zqB, zqC]
  iterate 2 ((refine wpPl_read (v := ?_) rfl ?_ (fun _ h => ?_) ?_; rotate_left 1; rfl; (obtain ⟨_, _, rfl⟩ := h.more; go_simp; try rfl)); try simp only [Act.put, zqA, zqB, zqC])
  (refine wpPl_tail rfl ?_ (fun K hK => ?_); rfl; go_simp; refine hK _ _ ?_)
  try simp only [Act.put]
  (refine wpPl_tail rfl ?_ (fun K hK => ?_); rfl; go_simp; refine hK _ _ ?_)
  try simp only [Act.put, zqA, zqB, zqC]
  refine wpPl_nil ?_
  go_wp2
  exact bodyPost_ret (v := rnV R) (by simp [results, Tryz.results112, go_sem]) rfl ⟨rfl, by with_reducible repeat (first | exact Ext.refl _ | apply Ext.drew | apply Ext.alloc | apply Ext.more_)⟩
set_option maxHeartbeats 1000000 in
theorem rneg_any (m ex : Int) (w : World) (hm : I64 m) :
    Calls Tryz.prog 161 #[NV m ex] w fun e w' => e = .returned (NV (negM m ex) (zeroE m ex)) ∧ Ext w w' := by
  unfold negM zeroE
  by_cases h : Rt m ex
  · have hb := Rt_bd h
    have r1 := rtB_yes h
    rw [if_pos h, if_pos h]
    clear h
    have w1 : wrap64 (-m) = -m := IntWalk.wrap64_in _ (by omega)
    go_enter Tryz.func161, Tryz.ntmps161
    go_wp2_with (go_at_call 67; (with_reducible refine (rright_rt _ _ _ (by assumption)).mono ?_); rintro e w' ⟨rfl, hbr⟩; obtain ⟨osr, dr, rfl⟩ := hbr.more)
    exact bodyPost_ret (v := NV (-m) ex) (by simp [results, Tryz.results161, go_sem]) rfl ⟨rfl, by with_reducible repeat (first | exact Ext.refl _ | apply Ext.drew | apply Ext.alloc | apply Ext.more_)⟩
  · have r1 := rtB_no h
    rw [if_neg h, if_neg h]
    clear h
    go_enter Tryz.func161, Tryz.ntmps161
    go_wp2_with (go_at_call 67; (with_reducible refine (rright_rt _ _ _ (by assumption)).mono ?_); rintro e w' ⟨rfl, hbr⟩; obtain ⟨osr, dr, rfl⟩ := hbr.more)
    exact bodyPost_ret (v := NV 0 0) (by simp [results, Tryz.results161, go_sem]) rfl ⟨rfl, by with_reducible repeat (first | exact Ext.refl _ | apply Ext.drew | apply Ext.alloc | apply Ext.more_)⟩
theorem neg_yes {m e : Int} (h : Rt m e) : negM m e = -m ∧ zeroE m e = e := by unfold negM zeroE; rw [if_pos h, if_pos h]; exact ⟨rfl, rfl⟩
theorem Rt_neg {m e : Int} (h : Rt m e) : Rt (-m) e := by
  have := neg_rt (m := m) (e := e)
  rw [(neg_yes h).1, (neg_yes h).2] at this
  exact this
theorem plusN_cmp (na nb : Bool) (Na Nb : Nat) : (sg na Na + sg nb Nb).sign = if (plusN na nb Na Nb).2 = 0 then 0 else if (plusN na nb Na Nb).1 = true then -1 else 1 := by
  rw [← plusN_sg]
  generalize plusN na nb Na Nb = p
  obtain ⟨n, N⟩ := p
  simp only
  by_cases h : N = 0
  · rw [if_pos h, h]; cases n <;> rfl
  · rw [if_neg h]
    have hp : (0 : Int) < (N : Int) := by omega
    cases n with
    | false => simp [sg]; omega
    | true => simp [sg]; omega
set_option maxHeartbeats 4000000 in
theorem rcmp_yes (ma ea mb eb : Int) (w : World) (h1 : Rt ma ea) (h2 : Rt mb eb) :
    Calls Tryz.prog 125 #[NV ma ea, NV mb eb] w fun e w' => e = .returned (.int .i64 (sumI ma ea (-mb) eb).sign) ∧ Ext w w' := by
  obtain ⟨b1, b2, b3⟩ := Rt_bd h1
  obtain ⟨b4, b5, b6⟩ := Rt_bd h2
  have hma : I64 ma := by unfold I64; omega
  have hmb : I64 mb := by unfold I64; omega
  have r1 := rtB_yes h1
  have r2 := rtB_yes h2
  have hng := fun W => rneg_any mb eb W hmb
  rw [(neg_yes h2).1, (neg_yes h2).2] at hng
  have hof1 := fun W => rof_any ma ea W hma
  have hof2 := fun W => rof_any (-mb) eb W (by unfold I64; omega)
  have hpl := fun A B ca cb W h3 h4 => plus_of ma ea (-mb) eb h1 (Rt_neg h2) A B ca cb W h3 h4
  have hT15 : T 15 = 1000000000000000 := by decide
  have n1 : nd ma.natAbs ≤ 15 := (nd_le_iff _ _).2 (by omega)
  have n2 : nd (-mb).natAbs ≤ 15 := (nd_le_iff _ _).2 (by omega)
  have hL : max (nd ma.natAbs + (ea - min ea eb).toNat) (nd (-mb).natAbs + (eb - min ea eb).toNat) + 1 ≤ 1000 := by omega
  have hs : sumI ma ea (-mb) eb = sg (decide (ma < 0)) (ma.natAbs * T (ea - min ea eb).toNat) + sg (decide (-mb < 0)) ((-mb).natAbs * T (eb - min ea eb).toNat) := by
    rw [sg_mul_nat, sg_mul_nat, sg_nat, sg_nat]; rfl
  rw [hs, plusN_cmp]
  generalize max (nd ma.natAbs + (ea - min ea eb).toNat) (nd (-mb).natAbs + (eb - min ea eb).toNat) + 1 = L at *
  generalize plusN (decide (ma < 0)) (decide (-mb < 0)) (ma.natAbs * T (ea - min ea eb).toNat) ((-mb).natAbs * T (eb - min ea eb).toNat) = PN at *
  generalize min ea eb = E at *
  obtain ⟨n, N⟩ := PN
  simp only at hpl ⊢
  have hst := fun (A : Option Addr) (cap : Nat) (l : List Nat) (W : World) (a1 : l.length = L) (a2 : Rd 0 W A (i6 l)) (a3 : L ≤ cap) (a4 : AllD l) (a5 : val l = N) => rstrip_dig 0 A cap L l N W a1 a2 (by omega) a3 a4 a5
  simp only [LOut, dig_length] at hst
  clear h1 h2 n1 n2 hT15 hs
  generalize decide (-mb < 0) = nb at *
  generalize ma.natAbs = Na at *
  generalize (-mb).natAbs = Nb at *
  by_cases h0 : N = 0
  · rw [if_pos h0]
    have hz : nd N = 0 := by rw [h0, nd_zero]
    rw [hz] at hst
    clear h0 hz
    go_enter Tryz.func125, Tryz.ntmps125
    go_wp2_with (go_at_call 67; (with_reducible refine (rright_rt _ _ _ (by assumption)).mono ?_); rintro e w' ⟨rfl, hbr⟩; obtain ⟨osr, dr, rfl⟩ := hbr.more)
    refine wp_plan (S := Ext _) [(0, 0), (2, 0), (1, 1), (3, 1), (4, 1), (5, 1), (6, 0), (7, 1), (8, 0)] [] (by kernel_rfl) (by kernel_rfl) (by kernel_rfl) (fun _ _ d _ _ h => by cases d <;> exact h) (Ext.drew (Ext.refl _)) ?_
    iterate 2 ((refine wpPl_read (v := ?_) rfl ?_ (fun _ h => ?_) ?_; rotate_left 1; rfl; (obtain ⟨_, _, rfl⟩ := h.more; go_simp; try rfl)); try simp only [Act.put, zqA, zqB, zqC])
    (refine wpPl_eff rfl ?_ (fun K hK => ?_); rfl; go_simp; (go_at_call 119; (with_reducible refine (hof1 _).mono ?_); rintro e w' ⟨A1, c1, rfl, hrd1, hcp1, hx⟩; obtain ⟨os1, d1, rfl⟩ := hx.more; have hrd1 := hrd1.mono (Nat.zero_le _); (try simp only [more_more, more_drew, drew_more, Array.append_assoc] at hrd1)); refine hK _ _ ?_ ?_; (repeat (first | (with_reducible (first | exact Ext.refl _ | exact ext_d _ _ _ _ | exact ext_app _ _ _ _ _ | exact ext_app2 _ _ _ _ _ _ | exact ext_app3 _ _ _ _ _ _ _ | exact ext_app4 _ _ _ _ _ _ _ _ | exact ext_app5 _ _ _ _ _ _ _ _ _)) | ((with_reducible refine ext_suffix ⟨_, ?_⟩); (try simp only [Array.append_assoc]); rfl) | (with_reducible (first | apply Ext.drew | apply Ext.alloc | apply Ext.more_)) | apply Ext.drew | apply Ext.alloc | apply Ext.more_)))
    try simp only [Act.put, zqA, zqB, zqC]
    (refine wpPl_eff rfl ?_ (fun K hK => ?_); rfl; go_simp; (go_at_call 161; (with_reducible refine (hng _).mono ?_); rintro e w' ⟨rfl, hx⟩; obtain ⟨osn, dn, rfl⟩ := hx.more); refine hK _ _ ?_ ?_; (repeat (first | (with_reducible (first | exact Ext.refl _ | exact ext_d _ _ _ _ | exact ext_app _ _ _ _ _ | exact ext_app2 _ _ _ _ _ _ | exact ext_app3 _ _ _ _ _ _ _ | exact ext_app4 _ _ _ _ _ _ _ _ | exact ext_app5 _ _ _ _ _ _ _ _ _)) | ((with_reducible refine ext_suffix ⟨_, ?_⟩); (try simp only [Array.append_assoc]); rfl) | (with_reducible (first | apply Ext.drew | apply Ext.alloc | apply Ext.more_)) | apply Ext.drew | apply Ext.alloc | apply Ext.more_)))
    try simp only [Act.put, zqA, zqB, zqC]
    (refine wpPl_eff rfl ?_ (fun K hK => ?_); rfl; go_simp; (go_at_call 119; (with_reducible refine (hof2 _).mono ?_); rintro e w' ⟨A2, c2, rfl, hrd2, hcp2, hx⟩; obtain ⟨os2, d2, rfl⟩ := hx.more; have hrd2 := hrd2.mono (Nat.zero_le _); (try simp only [more_more, more_drew, drew_more, Array.append_assoc] at hrd2)); refine hK _ _ ?_ ?_; (repeat (first | (with_reducible (first | exact Ext.refl _ | exact ext_d _ _ _ _ | exact ext_app _ _ _ _ _ | exact ext_app2 _ _ _ _ _ _ | exact ext_app3 _ _ _ _ _ _ _ | exact ext_app4 _ _ _ _ _ _ _ _ | exact ext_app5 _ _ _ _ _ _ _ _ _)) | ((with_reducible refine ext_suffix ⟨_, ?_⟩); (try simp only [Array.append_assoc]); rfl) | (with_reducible (first | apply Ext.drew | apply Ext.alloc | apply Ext.more_)) | apply Ext.drew | apply Ext.alloc | apply Ext.more_)))
    try simp only [Act.put, zqA, zqB, zqC]
    (refine wpPl_eff rfl ?_ (fun K hK => ?_); rfl; go_simp; (go_at_call 158; (with_reducible refine (hpl _ _ _ _ _ (Rd.ext hrd1 (by (try simp only [more_more, more_drew, drew_more, Array.append_assoc]); repeat (first | (with_reducible (first | exact Ext.refl _ | exact ext_d _ _ _ _ | exact ext_app _ _ _ _ _ | exact ext_app2 _ _ _ _ _ _ | exact ext_app3 _ _ _ _ _ _ _)) | ((with_reducible refine ext_suffix ⟨_, ?_⟩); (try simp only [Array.append_assoc]); rfl) | (with_reducible (first | apply Ext.drew | apply Ext.alloc | apply Ext.more_))))) (Rd.ext hrd2 (by (try simp only [more_more, more_drew, drew_more, Array.append_assoc]); repeat (first | (with_reducible (first | exact Ext.refl _ | exact ext_d _ _ _ _ | exact ext_app _ _ _ _ _ | exact ext_app2 _ _ _ _ _ _ | exact ext_app3 _ _ _ _ _ _ _)) | ((with_reducible refine ext_suffix ⟨_, ?_⟩); (try simp only [Array.append_assoc]); rfl) | (with_reducible (first | apply Ext.drew | apply Ext.alloc | apply Ext.more_)))))).mono ?_); rintro e w' ⟨⟨A3, c3, X3, rfl, hrx3, hn3, ha3, hv3, hc3⟩, hx⟩; obtain ⟨os3, d3, rfl⟩ := hx.more; (try simp only [more_more, more_drew, drew_more, Array.append_assoc] at hrx3)); refine hK _ _ ?_ ?_; (repeat (first | (with_reducible (first | exact Ext.refl _ | exact ext_d _ _ _ _ | exact ext_app _ _ _ _ _ | exact ext_app2 _ _ _ _ _ _ | exact ext_app3 _ _ _ _ _ _ _ | exact ext_app4 _ _ _ _ _ _ _ _ | exact ext_app5 _ _ _ _ _ _ _ _ _)) | ((with_reducible refine ext_suffix ⟨_, ?_⟩); (try simp only [Array.append_assoc]); rfl) | (with_reducible (first | apply Ext.drew | apply Ext.alloc | apply Ext.more_)) | apply Ext.drew | apply Ext.alloc | apply Ext.more_)))
    try simp only [Act.put, zqA, zqB, zqC]
    (refine wpPl_read (v := ?_) rfl ?_ (fun _ h => ?_) ?_; rotate_left 1; rfl; (obtain ⟨_, _, rfl⟩ := h.more; go_simp; try rfl))
    try simp only [Act.put, zqA, zqB, zqC]
    (refine wpPl_eff rfl ?_ (fun K hK => ?_); rfl; go_simp; (go_at_call 120; (with_reducible refine (hst _ _ _ _ hn3 (Rd.mono hrx3 (Nat.zero_le _)) hc3 ha3 hv3).mono ?_); rintro e w' ⟨⟨A4, c4, rfl, _, _⟩, rfl⟩); refine hK _ _ ?_ ?_; (repeat (first | (with_reducible (first | exact Ext.refl _ | exact ext_d _ _ _ _ | exact ext_app _ _ _ _ _ | exact ext_app2 _ _ _ _ _ _ | exact ext_app3 _ _ _ _ _ _ _ | exact ext_app4 _ _ _ _ _ _ _ _ | exact ext_app5 _ _ _ _ _ _ _ _ _)) | ((with_reducible refine ext_suffix ⟨_, ?_⟩); (try simp only [Array.append_assoc]); rfl) | (with_reducible (first | apply Ext.drew | apply Ext.alloc | apply Ext.more_)) | apply Ext.drew | apply Ext.alloc | apply Ext.more_)))
    try simp only [Act.put, zqA, zqB, zqC]
    (refine wpPl_read (v := ?_) rfl ?_ (fun _ h => ?_) ?_; rotate_left 1; rfl; (obtain ⟨_, _, rfl⟩ := h.more; go_simp; try rfl))
    try simp only [Act.put, zqA, zqB, zqC]
    refine wpPl_nil ?_
    go_wp2
    go_ret
    exact ⟨rfl, by with_reducible repeat (first | exact Ext.refl _ | apply Ext.drew | apply Ext.alloc | apply Ext.more_)⟩
  · rw [if_neg h0]
    have hz : (nd N == 0) = false := by rw [nd_pos h0]; simp
    have hz' : ((nd N : Int) == 0) = false := by rw [nd_pos h0]; simp; omega
    generalize nd N = k at *
    generalize hR : (if n = true then (-1 : Int) else 1) = R
    have HR := Lib.hid hR
    clear h0 hR
    go_enter Tryz.func125, Tryz.ntmps125
    go_wp2_with (go_at_call 67; (with_reducible refine (rright_rt _ _ _ (by assumption)).mono ?_); rintro e w' ⟨rfl, hbr⟩; obtain ⟨osr, dr, rfl⟩ := hbr.more)
    refine wp_plan (S := Ext _) [(0, 0), (2, 0), (1, 1), (3, 1), (4, 1), (5, 1), (6, 0), (7, 1), (8, 0)] [] (by kernel_rfl) (by kernel_rfl) (by kernel_rfl) (fun _ _ d _ _ h => by cases d <;> exact h) (Ext.drew (Ext.refl _)) ?_
    iterate 2 ((refine wpPl_read (v := ?_) rfl ?_ (fun _ h => ?_) ?_; rotate_left 1; rfl; (obtain ⟨_, _, rfl⟩ := h.more; go_simp; try rfl)); try simp only [Act.put, zqA, zqB, zqC])
    (refine wpPl_eff rfl ?_ (fun K hK => ?_); rfl; go_simp; (go_at_call 119; (with_reducible refine (hof1 _).mono ?_); rintro e w' ⟨A1, c1, rfl, hrd1, hcp1, hx⟩; obtain ⟨os1, d1, rfl⟩ := hx.more; have hrd1 := hrd1.mono (Nat.zero_le _); (try simp only [more_more, more_drew, drew_more, Array.append_assoc] at hrd1)); refine hK _ _ ?_ ?_; (repeat (first | (with_reducible (first | exact Ext.refl _ | exact ext_d _ _ _ _ | exact ext_app _ _ _ _ _ | exact ext_app2 _ _ _ _ _ _ | exact ext_app3 _ _ _ _ _ _ _ | exact ext_app4 _ _ _ _ _ _ _ _ | exact ext_app5 _ _ _ _ _ _ _ _ _)) | ((with_reducible refine ext_suffix ⟨_, ?_⟩); (try simp only [Array.append_assoc]); rfl) | (with_reducible (first | apply Ext.drew | apply Ext.alloc | apply Ext.more_)) | apply Ext.drew | apply Ext.alloc | apply Ext.more_)))
    try simp only [Act.put, zqA, zqB, zqC]
    (refine wpPl_eff rfl ?_ (fun K hK => ?_); rfl; go_simp; (go_at_call 161; (with_reducible refine (hng _).mono ?_); rintro e w' ⟨rfl, hx⟩; obtain ⟨osn, dn, rfl⟩ := hx.more); refine hK _ _ ?_ ?_; (repeat (first | (with_reducible (first | exact Ext.refl _ | exact ext_d _ _ _ _ | exact ext_app _ _ _ _ _ | exact ext_app2 _ _ _ _ _ _ | exact ext_app3 _ _ _ _ _ _ _ | exact ext_app4 _ _ _ _ _ _ _ _ | exact ext_app5 _ _ _ _ _ _ _ _ _)) | ((with_reducible refine ext_suffix ⟨_, ?_⟩); (try simp only [Array.append_assoc]); rfl) | (with_reducible (first | apply Ext.drew | apply Ext.alloc | apply Ext.more_)) | apply Ext.drew | apply Ext.alloc | apply Ext.more_)))
    try simp only [Act.put, zqA, zqB, zqC]
    (refine wpPl_eff rfl ?_ (fun K hK => ?_); rfl; go_simp; (go_at_call 119; (with_reducible refine (hof2 _).mono ?_); rintro e w' ⟨A2, c2, rfl, hrd2, hcp2, hx⟩; obtain ⟨os2, d2, rfl⟩ := hx.more; have hrd2 := hrd2.mono (Nat.zero_le _); (try simp only [more_more, more_drew, drew_more, Array.append_assoc] at hrd2)); refine hK _ _ ?_ ?_; (repeat (first | (with_reducible (first | exact Ext.refl _ | exact ext_d _ _ _ _ | exact ext_app _ _ _ _ _ | exact ext_app2 _ _ _ _ _ _ | exact ext_app3 _ _ _ _ _ _ _ | exact ext_app4 _ _ _ _ _ _ _ _ | exact ext_app5 _ _ _ _ _ _ _ _ _)) | ((with_reducible refine ext_suffix ⟨_, ?_⟩); (try simp only [Array.append_assoc]); rfl) | (with_reducible (first | apply Ext.drew | apply Ext.alloc | apply Ext.more_)) | apply Ext.drew | apply Ext.alloc | apply Ext.more_)))
    try simp only [Act.put, zqA, zqB, zqC]
    (refine wpPl_eff rfl ?_ (fun K hK => ?_); rfl; go_simp; (go_at_call 158; (with_reducible refine (hpl _ _ _ _ _ (Rd.ext hrd1 (by (try simp only [more_more, more_drew, drew_more, Array.append_assoc]); repeat (first | (with_reducible (first | exact Ext.refl _ | exact ext_d _ _ _ _ | exact ext_app _ _ _ _ _ | exact ext_app2 _ _ _ _ _ _ | exact ext_app3 _ _ _ _ _ _ _)) | ((with_reducible refine ext_suffix ⟨_, ?_⟩); (try simp only [Array.append_assoc]); rfl) | (with_reducible (first | apply Ext.drew | apply Ext.alloc | apply Ext.more_))))) (Rd.ext hrd2 (by (try simp only [more_more, more_drew, drew_more, Array.append_assoc]); repeat (first | (with_reducible (first | exact Ext.refl _ | exact ext_d _ _ _ _ | exact ext_app _ _ _ _ _ | exact ext_app2 _ _ _ _ _ _ | exact ext_app3 _ _ _ _ _ _ _)) | ((with_reducible refine ext_suffix ⟨_, ?_⟩); (try simp only [Array.append_assoc]); rfl) | (with_reducible (first | apply Ext.drew | apply Ext.alloc | apply Ext.more_)))))).mono ?_); rintro e w' ⟨⟨A3, c3, X3, rfl, hrx3, hn3, ha3, hv3, hc3⟩, hx⟩; obtain ⟨os3, d3, rfl⟩ := hx.more; (try simp only [more_more, more_drew, drew_more, Array.append_assoc] at hrx3)); refine hK _ _ ?_ ?_; (repeat (first | (with_reducible (first | exact Ext.refl _ | exact ext_d _ _ _ _ | exact ext_app _ _ _ _ _ | exact ext_app2 _ _ _ _ _ _ | exact ext_app3 _ _ _ _ _ _ _ | exact ext_app4 _ _ _ _ _ _ _ _ | exact ext_app5 _ _ _ _ _ _ _ _ _)) | ((with_reducible refine ext_suffix ⟨_, ?_⟩); (try simp only [Array.append_assoc]); rfl) | (with_reducible (first | apply Ext.drew | apply Ext.alloc | apply Ext.more_)) | apply Ext.drew | apply Ext.alloc | apply Ext.more_)))
    try simp only [Act.put, zqA, zqB, zqC]
    (refine wpPl_read (v := ?_) rfl ?_ (fun _ h => ?_) ?_; rotate_left 1; rfl; (obtain ⟨_, _, rfl⟩ := h.more; go_simp; try rfl))
    try simp only [Act.put, zqA, zqB, zqC]
    (refine wpPl_eff rfl ?_ (fun K hK => ?_); rfl; go_simp; (go_at_call 120; (with_reducible refine (hst _ _ _ _ hn3 (Rd.mono hrx3 (Nat.zero_le _)) hc3 ha3 hv3).mono ?_); rintro e w' ⟨⟨A4, c4, rfl, _, _⟩, rfl⟩); refine hK _ _ ?_ ?_; (repeat (first | (with_reducible (first | exact Ext.refl _ | exact ext_d _ _ _ _ | exact ext_app _ _ _ _ _ | exact ext_app2 _ _ _ _ _ _ | exact ext_app3 _ _ _ _ _ _ _ | exact ext_app4 _ _ _ _ _ _ _ _ | exact ext_app5 _ _ _ _ _ _ _ _ _)) | ((with_reducible refine ext_suffix ⟨_, ?_⟩); (try simp only [Array.append_assoc]); rfl) | (with_reducible (first | apply Ext.drew | apply Ext.alloc | apply Ext.more_)) | apply Ext.drew | apply Ext.alloc | apply Ext.more_)))
    try simp only [Act.put, zqA, zqB, zqC]
    (refine wpPl_read (v := ?_) rfl ?_ (fun _ h => ?_) ?_; rotate_left 1; rfl; (obtain ⟨_, _, rfl⟩ := h.more; go_simp; try rfl))
    try simp only [Act.put, zqA, zqB, zqC]
    refine wpPl_nil ?_
    clear hrd1 hrd2 hrx3 ha3 hv3 hn3 hst
    go_wp2
    refine wp_world fun W hW => ?_
    have c0 : W.cell? ⟨w.heap.size, 0, none⟩ = some (.int .i64 ma) := by rw [hW]; go_simp
    have c1 : W.cell? ⟨w.heap.size, 1, none⟩ = some (.int .i64 ea) := by rw [hW]; go_simp
    have c2 : W.cell? ⟨w.heap.size + 1, 0, none⟩ = some (.int .i64 mb) := by rw [hW]; go_simp
    have c3 : W.cell? ⟨w.heap.size + 1, 1, none⟩ = some (.int .i64 eb) := by rw [hW]; go_simp
    have hz1 : w.heap.size + 1 < W.heap.size := by rw [hW]; simp; try omega
    have hz0 : w.heap.size < W.heap.size := by omega
    have hxW : Ext w W := by rw [hW]; exact by with_reducible repeat (first | exact Ext.refl _ | apply Ext.drew | apply Ext.alloc | apply Ext.more_)
    clear hW
    refine wp_plan (S := Ext _) [(0, 0), (2, 0), (1, 1), (3, 1), (4, 1), (5, 1), (6, 0)] [] (by kernel_rfl) (by kernel_rfl) (by kernel_rfl) (fun _ _ d _ _ h => by cases d <;> exact h) (Ext.drew (Ext.refl _)) ?_
    iterate 2 ((refine wpPl_read (v := ?_) rfl ?_ (fun _ h => ?_) ?_; rotate_left 1; rfl; (obtain ⟨_, _, rfl⟩ := h.more; go_simp; try rfl)); try simp only [Act.put, zqA, zqB, zqC])
    (refine wpPl_eff rfl ?_ (fun K hK => ?_); rfl; go_simp; (go_at_call 119; (with_reducible refine (hof1 _).mono ?_); rintro e w' ⟨A1, c1, rfl, hrd1, hcp1, hx⟩; obtain ⟨os1, d1, rfl⟩ := hx.more; have hrd1 := hrd1.mono (Nat.zero_le _); (try simp only [more_more, more_drew, drew_more, Array.append_assoc] at hrd1)); refine hK _ _ ?_ ?_; (repeat (first | (with_reducible (first | exact Ext.refl _ | exact ext_d _ _ _ _ | exact ext_app _ _ _ _ _ | exact ext_app2 _ _ _ _ _ _ | exact ext_app3 _ _ _ _ _ _ _ | exact ext_app4 _ _ _ _ _ _ _ _ | exact ext_app5 _ _ _ _ _ _ _ _ _)) | ((with_reducible refine ext_suffix ⟨_, ?_⟩); (try simp only [Array.append_assoc]); rfl) | (with_reducible (first | apply Ext.drew | apply Ext.alloc | apply Ext.more_)) | apply Ext.drew | apply Ext.alloc | apply Ext.more_)))
    try simp only [Act.put, zqA, zqB, zqC]
    (refine wpPl_eff rfl ?_ (fun K hK => ?_); rfl; go_simp; (go_at_call 161; (with_reducible refine (hng _).mono ?_); rintro e w' ⟨rfl, hx⟩; obtain ⟨osn, dn, rfl⟩ := hx.more); refine hK _ _ ?_ ?_; (repeat (first | (with_reducible (first | exact Ext.refl _ | exact ext_d _ _ _ _ | exact ext_app _ _ _ _ _ | exact ext_app2 _ _ _ _ _ _ | exact ext_app3 _ _ _ _ _ _ _ | exact ext_app4 _ _ _ _ _ _ _ _ | exact ext_app5 _ _ _ _ _ _ _ _ _)) | ((with_reducible refine ext_suffix ⟨_, ?_⟩); (try simp only [Array.append_assoc]); rfl) | (with_reducible (first | apply Ext.drew | apply Ext.alloc | apply Ext.more_)) | apply Ext.drew | apply Ext.alloc | apply Ext.more_)))
    try simp only [Act.put, zqA, zqB, zqC]
    (refine wpPl_eff rfl ?_ (fun K hK => ?_); rfl; go_simp; (go_at_call 119; (with_reducible refine (hof2 _).mono ?_); rintro e w' ⟨A2, c2, rfl, hrd2, hcp2, hx⟩; obtain ⟨os2, d2, rfl⟩ := hx.more; have hrd2 := hrd2.mono (Nat.zero_le _); (try simp only [more_more, more_drew, drew_more, Array.append_assoc] at hrd2)); refine hK _ _ ?_ ?_; (repeat (first | (with_reducible (first | exact Ext.refl _ | exact ext_d _ _ _ _ | exact ext_app _ _ _ _ _ | exact ext_app2 _ _ _ _ _ _ | exact ext_app3 _ _ _ _ _ _ _ | exact ext_app4 _ _ _ _ _ _ _ _ | exact ext_app5 _ _ _ _ _ _ _ _ _)) | ((with_reducible refine ext_suffix ⟨_, ?_⟩); (try simp only [Array.append_assoc]); rfl) | (with_reducible (first | apply Ext.drew | apply Ext.alloc | apply Ext.more_)) | apply Ext.drew | apply Ext.alloc | apply Ext.more_)))
    try simp only [Act.put, zqA, zqB, zqC]
    (refine wpPl_eff rfl ?_ (fun K hK => ?_); rfl; go_simp; (go_at_call 158; (with_reducible refine (hpl _ _ _ _ _ (Rd.ext hrd1 (by (try simp only [more_more, more_drew, drew_more, Array.append_assoc]); repeat (first | (with_reducible (first | exact Ext.refl _ | exact ext_d _ _ _ _ | exact ext_app _ _ _ _ _ | exact ext_app2 _ _ _ _ _ _ | exact ext_app3 _ _ _ _ _ _ _)) | ((with_reducible refine ext_suffix ⟨_, ?_⟩); (try simp only [Array.append_assoc]); rfl) | (with_reducible (first | apply Ext.drew | apply Ext.alloc | apply Ext.more_))))) (Rd.ext hrd2 (by (try simp only [more_more, more_drew, drew_more, Array.append_assoc]); repeat (first | (with_reducible (first | exact Ext.refl _ | exact ext_d _ _ _ _ | exact ext_app _ _ _ _ _ | exact ext_app2 _ _ _ _ _ _ | exact ext_app3 _ _ _ _ _ _ _)) | ((with_reducible refine ext_suffix ⟨_, ?_⟩); (try simp only [Array.append_assoc]); rfl) | (with_reducible (first | apply Ext.drew | apply Ext.alloc | apply Ext.more_)))))).mono ?_); rintro e w' ⟨⟨A3, c3, X3, rfl, hrx3, hn3, ha3, hv3, hc3⟩, hx⟩; obtain ⟨os3, d3, rfl⟩ := hx.more; (try simp only [more_more, more_drew, drew_more, Array.append_assoc] at hrx3)); refine hK _ _ ?_ ?_; (repeat (first | (with_reducible (first | exact Ext.refl _ | exact ext_d _ _ _ _ | exact ext_app _ _ _ _ _ | exact ext_app2 _ _ _ _ _ _ | exact ext_app3 _ _ _ _ _ _ _ | exact ext_app4 _ _ _ _ _ _ _ _ | exact ext_app5 _ _ _ _ _ _ _ _ _)) | ((with_reducible refine ext_suffix ⟨_, ?_⟩); (try simp only [Array.append_assoc]); rfl) | (with_reducible (first | apply Ext.drew | apply Ext.alloc | apply Ext.more_)) | apply Ext.drew | apply Ext.alloc | apply Ext.more_)))
    try simp only [Act.put, zqA, zqB, zqC]
    (refine wpPl_read (v := ?_) rfl ?_ (fun _ h => ?_) ?_; rotate_left 1; rfl; (obtain ⟨_, _, rfl⟩ := h.more; go_simp; try rfl))
    try simp only [Act.put, zqA, zqB, zqC]
    refine wpPl_nil ?_
    cases n with
    | true =>
      go_wp2
      go_ret
      exact ⟨by rw [← HR.out]; rfl, hxW.trans (by with_reducible repeat (first | exact Ext.refl _ | apply Ext.drew | apply Ext.alloc | apply Ext.more_))⟩
    | false =>
      go_wp2
      go_ret
      exact ⟨by rw [← HR.out]; rfl, hxW.trans (by with_reducible repeat (first | exact Ext.refl _ | apply Ext.drew | apply Ext.alloc | apply Ext.more_))⟩
set_option maxHeartbeats 2000000 in
theorem rcmp_any (ma ea mb eb : Int) (w : World) (hma : I64 ma) (hmb : I64 mb) :
    Calls Tryz.prog 125 #[NV ma ea, NV mb eb] w fun e w' => e = .returned (.int .i64 (cmpS ma ea mb eb)) ∧ Ext w w' := by
  unfold cmpS
  by_cases h1 : Rt ma ea
  · have r1 := rtB_yes h1
    by_cases h2 : Rt mb eb
    · rw [if_pos ⟨h1, h2⟩]; exact rcmp_yes ma ea mb eb w h1 h2
    · have r2 := rtB_no h2
      rw [if_neg (fun h => h2 h.2)]
      clear h1 h2
      go_enter Tryz.func125, Tryz.ntmps125
      go_wp2_with (go_at_call 67; (with_reducible refine (rright_rt _ _ _ (by assumption)).mono ?_); rintro e w' ⟨rfl, hbr⟩; obtain ⟨osr, dr, rfl⟩ := hbr.more)
      go_ret
      exact ⟨rfl, by with_reducible repeat (first | exact Ext.refl _ | apply Ext.drew | apply Ext.alloc | apply Ext.more_)⟩
  · have r1 := rtB_no h1
    rw [if_neg (fun h => h1 h.1)]
    clear h1
    go_enter Tryz.func125, Tryz.ntmps125
    go_wp2_with (go_at_call 67; (with_reducible refine (rright_rt _ _ _ (by assumption)).mono ?_); rintro e w' ⟨rfl, hbr⟩; obtain ⟨osr, dr, rfl⟩ := hbr.more)
    go_ret
    exact ⟨rfl, by with_reducible repeat (first | exact Ext.refl _ | apply Ext.drew | apply Ext.alloc | apply Ext.more_)⟩
end Go.Proofs.YtmjmijjbijlhfaaGreatDoor
namespace Go.Proofs.YtmjmijjbijlhfaaGreatDoor
open Go.RowKit NM
theorem cmp_bd (ma ea mb eb : Int) : -1 ≤ cmpS ma ea mb eb ∧ cmpS ma ea mb eb ≤ 1 := by
  unfold cmpS; split
  · exact sign_bd _
  · omega
end Go.Proofs.YtmjmijjbijlhfaaGreatDoor
namespace Go.Proofs.YtmjmijjbijlhfaaGreatDoor
open Go.RowKit NM
theorem tl_append (a b : ByteArray) : tl (a ++ b) = tl a ++ tl b := by unfold tl; simp
end Go.Proofs.YtmjmijjbijlhfaaGreatDoor
namespace Go.Proofs.YtmjmijjbijlhfaaGreatDoor
open Go.RowKit NM
theorem cb_refl : ∀ a : List UInt8, Lib.compareBytes a a = 0
  | [] => rfl
  | a :: l => by
    unfold Lib.compareBytes
    rw [if_neg (UInt8.lt_irrefl a), if_neg (UInt8.lt_irrefl a)]
    exact cb_refl l
theorem cb_vals : ∀ a b : List UInt8, Lib.compareBytes a b = -1 ∨ Lib.compareBytes a b = 0 ∨ Lib.compareBytes a b = 1
  | [], [] => Or.inr (Or.inl rfl)
  | [], _ :: _ => Or.inl rfl
  | _ :: _, [] => Or.inr (Or.inr rfl)
  | a :: l, b :: m => by
    unfold Lib.compareBytes
    split
    · exact Or.inl rfl
    · split
      · exact Or.inr (Or.inr rfl)
      · exact cb_vals l m
theorem cb_zero : ∀ {a b : List UInt8}, Lib.compareBytes a b = 0 → a = b
  | [], [], _ => rfl
  | [], _ :: _, h => by cases h
  | _ :: _, [], h => by cases h
  | a :: l, b :: m, h => by
    unfold Lib.compareBytes at h
    by_cases h1 : a < b
    · rw [if_pos h1] at h; cases h
    · rw [if_neg h1] at h
      by_cases h2 : b < a
      · rw [if_pos h2] at h; cases h
      · rw [if_neg h2] at h
        have : a = b := by
          rw [UInt8.lt_iff_toNat_lt] at h1 h2
          exact UInt8.toNat_inj.1 (by omega)
        rw [this, cb_zero h]
/-- The model's order of strings, and what compares them. -/
theorem less_cb : ∀ a b : List UInt8, Op.bytesLess a b = decide (Lib.compareBytes a b = -1)
  | [], [] => rfl
  | [], _ :: _ => rfl
  | _ :: _, [] => rfl
  | a :: l, b :: m => by
    unfold Op.bytesLess Lib.compareBytes
    by_cases h1 : a < b
    · rw [if_pos h1, decide_eq_true h1]; rfl
    · rw [if_neg h1, decide_eq_false h1, Bool.false_or]
      by_cases h2 : b < a
      · rw [if_pos h2]
        have : (a == b) = false := by
          rw [beq_eq_false_iff_ne]; rintro rfl; exact UInt8.lt_irrefl _ h2
        rw [this]; rfl
      · rw [if_neg h2]
        have : (a == b) = true := by
          rw [beq_iff_eq]
          rw [UInt8.lt_iff_toNat_lt] at h1 h2
          exact UInt8.toNat_inj.1 (by omega)
        rw [this, Bool.true_and]; exact less_cb l m
theorem sgn2_cb (a b : List UInt8) : sgn2 (Op.bytesLess a b) (!(Op.bytesLess a b || a == b)) = Lib.compareBytes a b := by
  rw [less_cb]
  rcases cb_vals a b with h | h | h
  · rw [h]; rfl
  · have : (a == b) = true := by rw [beq_iff_eq]; exact cb_zero h
    rw [h, this]; rfl
  · have : (a == b) = false := by rw [beq_eq_false_iff_ne]; rintro rfl; rw [cb_refl] at h; cases h
    rw [h, this]; rfl
theorem sgn2_bool (a b : Bool) : sgn2 (!a && b) (a && !b) = sgB a b := by cases a <;> cases b <;> rfl
theorem sgn2_int (a b : Int) : sgn2 (decide (a < b)) (decide (b < a)) = sgI a b := by
  unfold sgn2 sgI
  by_cases h1 : a < b
  · simp [h1]
  · by_cases h2 : b < a <;> simp [h1, h2]
end Go.Proofs.YtmjmijjbijlhfaaGreatDoor
namespace Go.Proofs.YtmjmijjbijlhfaaGreatDoor
open Go.RowKit NM
theorem conv_one (w : World) (c : UInt8) : (convert 135 9 (.slice (some ⟨w.heap.size, 0, none⟩) 1 1)).run Tryz.prog (w.alloc (.cells #[.int .u8 (c.toNat : Int)] 5)) = .ok (.string ⟨#[c]⟩) (w.alloc (.cells #[.int .u8 (c.toNat : Int)] 5)) := by
  have hb : Lib.Bytes (w.alloc (.cells #[.int .u8 (c.toNat : Int)] 5)) w.heap.size 0 ⟨#[c]⟩ := by
    intro i hi
    have hi : i < 1 := hi
    obtain rfl : i = 0 := by omega
    rw [World.cell?_alloc_new]
    rfl
  exact Lib.run_convert_whole (P := Tryz.prog) _ 135 5 9 Tryz.underlying135 Tryz.underlying5 Tryz.underlying9 w.heap.size 0 ⟨#[c]⟩ hb 1
set_option maxHeartbeats 1000000 in
theorem rfold_any (s : ByteArray) (w : World) (hs : s.size ≤ 9223372036854775807) :
    Calls Tryz.prog 126 #[.string s] w fun e w' => e = .returned (.string (foldB s)) ∧ Ext w w' := by
  go_enter Tryz.func126, Tryz.ntmps126
  go_wp2_with fail
  go_loopw [3, 4] (fun v3 v4 wr => ∃ (k : Nat) (t : ByteArray), k ≤ s.size ∧ v3 = .string t ∧ v4 = .int .i64 (k : Int) ∧ t.size = k ∧ Ext w wr ∧ Hid (tl t = (tl (foldB s)).take k)) (fun _ v4 _ => s.size - (intOf v4).toNat)
  case atStart => exact ⟨0, ⟨#[]⟩, Nat.zero_le _, rfl, rfl, rfl, Ext.refl _, by show _ = _; rfl⟩
  case round =>
    obtain ⟨k, t, hk, rfl, rfl, ht, hx, H⟩ := hrel
    by_cases hks : k < s.size
    · have hb := (s[k]'hks).toNat_lt
      have HN : Hid (tl (t ++ ⟨#[upB (s[k]'hks)]⟩) = (tl (foldB s)).take (k + 1)) := by
        have hg := tl_get (foldB s) k (by rw [foldB_size]; exact hks)
        rw [fold_get s k hks] at hg
        show _ = _
        rw [tl_append, H.out, List.take_add_one, hg]; rfl
      have hcv := conv_one wr (upB (s[k]'hks))
      have HT := Lib.hid ht
      have g5 : ¬ 9223372036854775807 < t.size + 1 := by omega
      by_cases h97 : 97 ≤ (s[k]'hks).toNat
      · have g1 : (97 : Int) ≤ ((s[k]'hks).toNat : Int) := by omega
        by_cases h122 : (s[k]'hks).toNat ≤ 122
        · have g2 : ((s[k]'hks).toNat : Int) ≤ 122 := by omega
          have w1 : IntKind.u8.wrap (((s[k]'hks).toNat : Int) - 32) = ((upB (s[k]'hks)).toNat : Int) := by rw [IntKind.wrap_u8, upB_yes h97 h122]; omega
          clear h97 h122 ht
          go_wp2_with fail
          refine ⟨⟨k + 1, _, by omega, rfl, by go_num, ?_, (hx.alloc _), HN⟩, by simp [intOf]; omega⟩
          rw [ByteArray.size_append, HT.out]; rfl
        · have g2 : ¬ ((s[k]'hks).toNat : Int) ≤ 122 := by omega
          have hup : upB (s[k]'hks) = s[k]'hks := upB_no (by omega)
          rw [hup] at hcv HN
          clear h97 h122 hup ht
          go_wp2_with fail
          refine ⟨⟨k + 1, _, by omega, rfl, by go_num, ?_, (hx.alloc _), HN⟩, by simp [intOf]; omega⟩
          rw [ByteArray.size_append, HT.out]; rfl
      · have g1 : ¬ (97 : Int) ≤ ((s[k]'hks).toNat : Int) := by omega
        have hup : upB (s[k]'hks) = s[k]'hks := upB_no (by omega)
        rw [hup] at hcv HN
        clear h97 hup ht
        go_wp2_with fail
        refine ⟨⟨k + 1, _, by omega, rfl, by go_num, ?_, (hx.alloc _), HN⟩, by simp [intOf]; omega⟩
        rw [ByteArray.size_append, HT.out]; rfl
    · obtain rfl : s.size = k := by omega
      have he : Hid (t = foldB s) := by
        show _ = _
        have h1 := H.out
        rw [List.take_of_length_le (by rw [tl_size, foldB_size]; exact Nat.le_refl _)] at h1
        rw [tl_eq h1]
        generalize foldB s = u
        cases u; simp [tl]
      clear ht
      go_wp2_with fail
      exact bodyPost_ret (v := .string t) (by simp [results, Tryz.results126, go_sem]) rfl ⟨by rw [he.out], hx⟩
end Go.Proofs.YtmjmijjbijlhfaaGreatDoor
namespace Go.Proofs.YtmjmijjbijlhfaaGreatDoor
open Go.RowKit
section
variable {P : Program} {ops : Array Oper} {Q : Exit → Act → World → Prop} {tl : List Nat}
variable {W0 : World} {fs : List FL} {tp : List Nat} {a : Act} {E : World → Prop} {i : Nat} {rest : List (Nat × Nat)} {o : Oper}
theorem wpFp_pure {v : Value} (hi : ops.toList[i]? = some o) (hw : Region.wanted o (yielded ops a.tmps) = true) (h : ∀ w, (execOp a.eval o).run P w = .ok (.value v) w) (k : wpFp P ops Q W0 fs tp rest (a.put o.dst v) E) :
    wpFp P ops Q W0 fs tp ((i, 2) :: rest) a E := ⟨o, v, by simpa using hi, .inl ⟨hw, fun w _ => h w⟩, k⟩
/-- One new variable: the world behind the others. -/
theorem wpFp_one {i t : Nat} {ob : Obj} (h : ∀ os1 d1 os2 d2, E (more ((more W0 os1 d1).alloc ob) os2 d2) → wpTl P ops Q tp (a.put (some t) (.pointer (some ⟨W0.heap.size + os1.size, 0, none⟩))) (more ((more W0 os1 d1).alloc ob) os2 d2)) :
    wpFp P ops Q W0 [(i, t, ob)] tp [] a E := by
  intro β w hX hE hb _
  obtain ⟨b, hb1, hb2, hb3⟩ := hb _ (List.mem_singleton.2 rfl)
  obtain ⟨os, d, rfl⟩ := hX.more
  obtain ⟨k, rfl⟩ : ∃ k, b = W0.heap.size + k := ⟨b - W0.heap.size, by omega⟩
  have hk : os[k]? = some ob := by
    have : (W0.heap ++ os)[W0.heap.size + k]? = some ob := hb2
    rw [Array.getElem?_append_right (by omega)] at this
    simpa using this
  have hklt : k < os.size := (Array.getElem?_eq_some_iff.1 hk).1
  have hos : os = (os.extract 0 k).push ob ++ os.extract (k + 1) os.size := by
    apply Array.ext_getElem?
    intro j
    have hs : (os.extract 0 k).size = k := by simp; omega
    rcases Nat.lt_trichotomy j k with hj | rfl | hj
    · rw [Array.getElem?_append_left (by simp; omega), Array.getElem?_push, if_neg (by omega), Array.getElem?_extract]
      simp
      omega
    · rw [Array.getElem?_append_left (by simp; omega), Array.getElem?_push, if_pos (by omega)]; exact hk
    · rw [Array.getElem?_append_right (by simp; omega), Array.getElem?_extract]
      by_cases h2 : j < os.size
      · rw [if_pos (by simp; omega)]
        congr 1
        simp
        omega
      · rw [if_neg (by simp; omega), Array.getElem?_eq_none (by omega)]
  have hw : more W0 os d = more ((more W0 (os.extract 0 k) d).alloc ob) (os.extract (k + 1) os.size) d := by
    simp only [more, World.alloc]
    congr 1
    conv => lhs; rw [hos]
    simp
  have hsz : (os.extract 0 k).size = k := by simp; omega
  have := h (os.extract 0 k) d (os.extract (k + 1) os.size) d (by rw [← hw]; exact hE)
  rw [← hw, hsz] at this
  have hp : putF [(i, t, ob)] β a = a.put (some t) (ptrB (W0.heap.size + k)) := by
    unfold putF
    rw [hb1]
    rfl
  rw [hp]
  exact this
end
end Go.Proofs.YtmjmijjbijlhfaaGreatDoor
namespace Go.Proofs.YtmjmijjbijlhfaaGreatDoor
open Go.RowKit NM
def Tri (n : Int) : Prop := n = -1 ∨ n = 0 ∨ n = 1
theorem sgI_tri (a b : Int) : Tri (sgI a b) := by
  unfold sgI Tri; split
  · exact Or.inl rfl
  · split
    · exact Or.inr (Or.inr rfl)
    · exact Or.inr (Or.inl rfl)
theorem cmpS_tri (a b c d : Int) : Tri (cmpS a b c d) := by
  have := cmp_bd a b c d
  unfold Tri; omega
theorem cmpK_tri (a b : Val) : Tri (cmpK a b) := by
  by_cases h : a.kind = b.kind
  · rw [cmpK_same h]
    by_cases h1 : a.kind = 1
    · rw [if_pos h1]; exact cmpS_tri _ _ _ _
    · rw [if_neg h1]
      by_cases h2 : a.kind = 2
      · rw [if_pos h2]; exact cb_vals _ _
      · rw [if_neg h2]
        by_cases h3 : a.kind = 3
        · rw [if_pos h3]
          cases a.truth <;> cases b.truth <;> (unfold Tri sgB; simp)
        · rw [if_neg h3]
          by_cases h4 : a.kind = 4
          · rw [if_pos h4]; exact sgI_tri _ _
          · rw [if_neg h4]; exact Or.inr (Or.inl rfl)
  · unfold cmpK
    rw [if_pos h]
    split
    · exact Or.inl rfl
    · exact Or.inr (Or.inr rfl)
theorem cmpV_tri (a b : Val) : Tri (cmpV a b) := cmpK_tri _ _
end Go.Proofs.YtmjmijjbijlhfaaGreatDoor
namespace Go.Proofs.YtmjmijjbijlhfaaGreatDoor
open Go.RowKit NM
/-- Does a value stand ahead of another one, up, or down? -/
def aheadB (down : Bool) (x y : Val) : Bool := if x.kind = 0 ∨ y.kind = 0 then decide (x.kind ≠ 0 ∧ y.kind = 0) else decide ((if down then cmpV y x else cmpV x y) < 0)
theorem ahead_asym {down : Bool} {x y : Val} (h : aheadB down x y = true) : aheadB down y x = false := by
  unfold aheadB at *
  by_cases q : x.kind = 0 ∨ y.kind = 0
  · rw [if_pos q] at h
    rw [if_pos (Or.comm.1 q)]
    have h' := of_decide_eq_true h
    exact decide_eq_false (fun k => k.1 h'.2)
  · rw [if_neg q] at h
    rw [if_neg (fun k => q (Or.comm.1 k))]
    have h' := of_decide_eq_true h
    have f := cmpV_flip x y
    refine decide_eq_false (fun k => ?_)
    cases down
    · simp only [Bool.false_eq_true, if_false] at h' k; omega
    · simp only [if_true] at h' k; omega
theorem ahead_trans {down : Bool} {x y z : Val} (hx : x.right) (hy : y.right) (hz : z.right) (h1 : aheadB down y x = false) (h2 : aheadB down z y = false) : aheadB down z x = false := by
  unfold aheadB at *
  by_cases z0 : z.kind = 0
  · rw [if_pos (Or.inl z0)]; exact decide_eq_false (fun k => k.1 z0)
  · by_cases y0 : y.kind = 0
    · rw [if_pos (Or.inr y0)] at h2
      exact absurd (show z.kind ≠ 0 ∧ y.kind = 0 from ⟨z0, y0⟩) (of_decide_eq_false h2)
    · by_cases x0 : x.kind = 0
      · rw [if_pos (Or.inr x0)] at h1
        exact absurd (show y.kind ≠ 0 ∧ x.kind = 0 from ⟨y0, x0⟩) (of_decide_eq_false h1)
      · rw [if_neg (by simp [x0, y0])] at h1
        rw [if_neg (by simp [y0, z0])] at h2
        rw [if_neg (by simp [x0, z0])]
        have e1 := of_decide_eq_false h1
        have e2 := of_decide_eq_false h2
        refine decide_eq_false (fun k => ?_)
        have f1 := cmpV_flip x y
        have f2 := cmpV_flip y z
        have f3 := cmpV_flip x z
        cases down
        · simp only [Bool.false_eq_true, if_false] at e1 e2 k
          have := cmpV_nz_trans hx hy hz x0 y0 z0 (by omega) (by omega)
          omega
        · simp only [if_true] at e1 e2 k
          have := cmpV_nz_trans hz hy hx z0 y0 x0 (by omega) (by omega)
          omega
end Go.Proofs.YtmjmijjbijlhfaaGreatDoor
namespace Go.Proofs.YtmjmijjbijlhfaaGreatDoor
open Go.RowKit NM
def ltS (a : NA) (c : Nat) (down : Bool) (i j : Nat) : Bool := aheadB down (getV a.l (i * a.C + c)) (getV a.l (j * a.C + c))
theorem ltS_swo {a : NA} (ha : ∀ x ∈ a.l, x.right) (c : Nat) (down : Bool) : Swo (ltS a c down) :=
  ⟨fun _ _ h => ahead_asym h, fun _ _ _ h1 h2 => ahead_trans (getV_right ha _) (getV_right ha _) (getV_right ha _) h1 h2⟩
theorem ahead_sign {v w : Val} {way : Int} (hw : way = 1 ∨ way = -1) : decide ((if v.kind = 0 ∨ w.kind = 0 then ordV v w else ordV v w * way) < 0) = aheadB (decide (way = -1)) v w := by
  unfold aheadB ordV
  by_cases q : v.kind = 0 ∨ w.kind = 0
  · rw [if_pos q, if_pos q]
    by_cases v0 : v.kind = 0
    · by_cases w0 : w.kind = 0
      · rw [if_pos ⟨v0, w0⟩]; simp [v0]
      · rw [if_neg (by simp [w0]), if_pos v0]; simp [v0]
    · have w0 := q.resolve_left v0
      rw [if_neg (by simp [v0]), if_neg v0, if_pos w0]; simp [v0, w0]
  · have v0 : v.kind ≠ 0 := fun e => q (Or.inl e)
    have w0 : w.kind ≠ 0 := fun e => q (Or.inr e)
    rw [if_neg q, if_neg q, if_neg (by simp [v0]), if_neg v0, if_neg w0]
    have f := cmpV_flip v w
    rcases hw with rfl | rfl
    · simp
    · simp only [decide_true, if_true]
      rw [decide_eq_decide]; omega
def sortT (a : NA) (b w : Int × Int) : NA := if b.2 ≠ 0 then aloneO b.2 else if w.2 ≠ 0 then aloneO w.2 else if b.1 < 1 ∨ (a.C : Int) < b.1 ∨ (w.1 ≠ 1 ∧ w.1 ≠ -1) then aloneO 2 else rowsN a (sortN (ltS a (b.1.toNat - 1) (decide (w.1 = -1))) a.R)
def sortO (xs : List Ar) : NA := sortT (argN xs 0) (numO xs 1 1) (numO xs 2 1)
end Go.Proofs.YtmjmijjbijlhfaaGreatDoor
namespace Go.Proofs.YtmjmijjbijlhfaaGreatDoor
open Go.RowKit NM
theorem i64_zero : I64 0 := by unfold I64; omega
set_option maxHeartbeats 1000000 in
theorem rcmp00   (w : World) :
    Calls Tryz.prog 74 #[VV 0 0 0 ⟨#[]⟩ false 0, VV 0 0 0 ⟨#[]⟩ false 0] w fun e w' => e = .returned (.int .i64 (0)) ∧ Ext w w' := by
  have hs := fun W => rsign_any false false W
  rw [show sgn2 false false = 0 from rfl] at hs
  go_enter Tryz.func74, Tryz.ntmps74
  go_wp2_with ((go_at_call 73; (with_reducible refine (hs _).mono ?_); rintro e w' ⟨rfl, hb⟩; obtain ⟨os, d, rfl⟩ := hb.more; clear hb))
  go_ret
  exact ⟨rfl, by with_reducible repeat (first | exact Ext.refl _ | apply Ext.drew | apply Ext.alloc | apply Ext.more_)⟩
set_option maxHeartbeats 1000000 in
theorem rcmp01  (bm be : Int) (hbm : I64 bm) (w : World) :
    Calls Tryz.prog 74 #[VV 0 0 0 ⟨#[]⟩ false 0, VV 1 bm be ⟨#[]⟩ false 0] w fun e w' => e = .returned (.int .i64 (cmpS 0 0 bm be)) ∧ Ext w w' := by
  have hc := fun W => rcmp_any 0 0 bm be W i64_zero hbm
  generalize cmpS 0 0 bm be = z at *
  go_enter Tryz.func74, Tryz.ntmps74
  go_wp2_with ((go_at_call 125; (with_reducible refine (hc _).mono ?_); rintro e w' ⟨rfl, hb⟩; obtain ⟨os, d, rfl⟩ := hb.more; clear hb))
  go_ret
  exact ⟨rfl, by with_reducible repeat (first | exact Ext.refl _ | apply Ext.drew | apply Ext.alloc | apply Ext.more_)⟩
set_option maxHeartbeats 1000000 in
theorem rcmp02  (bt : ByteArray) (hbt : bt.size ≤ 255) (w : World) :
    Calls Tryz.prog 74 #[VV 0 0 0 ⟨#[]⟩ false 0, VV 2 0 0 bt false 0] w fun e w' => e = .returned (.int .i64 (cmpT (⟨#[]⟩) (bt))) ∧ Ext w w' := by
  have h1 := fun W => rfold_any (⟨#[]⟩ : ByteArray) W (Nat.zero_le _)
  have h2 := fun W => rfold_any bt W (by omega)
  unfold cmpT
  generalize foldB (⟨#[]⟩ : ByteArray) = X at *
  generalize foldB bt = Y at *
  have hs := fun W => rsign_any (Op.bytesLess X.toList Y.toList) (!Op.bytesLess X.toList Y.toList && !X.toList == Y.toList) W
  have he : sgn2 (Op.bytesLess X.toList Y.toList) (!Op.bytesLess X.toList Y.toList && !X.toList == Y.toList) = Lib.compareBytes (tl X) (tl Y) := by rw [ByteArray.toList_eq, ByteArray.toList_eq, ← Bool.not_or]; exact sgn2_cb _ _
  rw [he] at hs
  clear he
  generalize Lib.compareBytes (tl X) (tl Y) = z at *
  go_enter Tryz.func74, Tryz.ntmps74
  go_upto_region 10 with fail
  refine wp_plan (S := Ext _) [(0, 0), (1, 0), (3, 0), (4, 0), (2, 1), (5, 1), (6, 0), (7, 0)] [] (by kernel_rfl) (by kernel_rfl) (by kernel_rfl) (fun _ _ d _ _ h => by cases d <;> exact h) (Ext.drew (Ext.refl _)) ?_
  iterate 4 ((refine wpPl_read (v := ?_) rfl ?_ (fun _ h => ?_) ?_; rotate_left 1; rfl; (obtain ⟨_, _, rfl⟩ := h.more; go_simp; try rfl)); try simp only [Act.put, zqA, zqB, zqC])
  (refine wpPl_eff rfl ?_ (fun K hK => ?_); rfl; go_simp; refine (h1 _).mono ?_; rintro e w' ⟨rfl, hb⟩; obtain ⟨os1, d1, rfl⟩ := hb.more; clear hb; refine hK _ _ ?_ ?_; (repeat (first | (with_reducible (first | exact Ext.refl _ | exact ext_d _ _ _ _ | exact ext_app _ _ _ _ _ | exact ext_app2 _ _ _ _ _ _ | exact ext_app3 _ _ _ _ _ _ _ | exact ext_app4 _ _ _ _ _ _ _ _ | exact ext_app5 _ _ _ _ _ _ _ _ _)) | ((with_reducible refine ext_suffix ⟨_, ?_⟩); (try simp only [Array.append_assoc]); rfl) | (with_reducible (first | apply Ext.drew | apply Ext.alloc | apply Ext.more_)) | apply Ext.drew | apply Ext.alloc | apply Ext.more_)))
  try simp only [Act.put, zqA, zqB, zqC]
  (refine wpPl_eff rfl ?_ (fun K hK => ?_); rfl; go_simp; refine (h2 _).mono ?_; rintro e w' ⟨rfl, hb⟩; obtain ⟨os2, d2, rfl⟩ := hb.more; clear hb; refine hK _ _ ?_ ?_; (repeat (first | (with_reducible (first | exact Ext.refl _ | exact ext_d _ _ _ _ | exact ext_app _ _ _ _ _ | exact ext_app2 _ _ _ _ _ _ | exact ext_app3 _ _ _ _ _ _ _ | exact ext_app4 _ _ _ _ _ _ _ _ | exact ext_app5 _ _ _ _ _ _ _ _ _)) | ((with_reducible refine ext_suffix ⟨_, ?_⟩); (try simp only [Array.append_assoc]); rfl) | (with_reducible (first | apply Ext.drew | apply Ext.alloc | apply Ext.more_)) | apply Ext.drew | apply Ext.alloc | apply Ext.more_)))
  try simp only [Act.put, zqA, zqB, zqC]
  iterate 2 ((refine wpPl_read (v := ?_) rfl ?_ (fun _ h => ?_) ?_; rotate_left 1; rfl; (obtain ⟨_, _, rfl⟩ := h.more; go_simp; try rfl)); try simp only [Act.put, zqA, zqB, zqC])
  refine wpPl_nil ?_
  go_wp2_with (go_at_call 73; refine (hs _).mono ?_; rintro e w' ⟨rfl, hb⟩; obtain ⟨os, d, rfl⟩ := hb.more; clear hb)
  go_ret
  exact ⟨rfl, by with_reducible repeat (first | exact Ext.refl _ | apply Ext.drew | apply Ext.alloc | apply Ext.more_)⟩
set_option maxHeartbeats 1000000 in
theorem rcmp03  (bb : Bool) (w : World) :
    Calls Tryz.prog 74 #[VV 0 0 0 ⟨#[]⟩ false 0, VV 3 0 0 ⟨#[]⟩ bb 0] w fun e w' => e = .returned (.int .i64 (sgB false bb)) ∧ Ext w w' := by
  have hs := fun W => rsign_any (!false && bb) (false && !bb) W
  rw [sgn2_bool] at hs
  cases bb
  all_goals
    go_enter Tryz.func74, Tryz.ntmps74
    go_wp2_with ((go_at_call 73; refine (hs _).mono ?_; rintro e w' ⟨rfl, hb⟩; obtain ⟨os, d, rfl⟩ := hb.more; clear hb))
    go_ret
    exact ⟨rfl, by with_reducible repeat (first | exact Ext.refl _ | apply Ext.drew | apply Ext.alloc | apply Ext.more_)⟩
set_option maxHeartbeats 1000000 in
theorem rcmp04  (bf : Int) (w : World) :
    Calls Tryz.prog 74 #[VV 0 0 0 ⟨#[]⟩ false 0, VV 4 0 0 ⟨#[]⟩ false bf] w fun e w' => e = .returned (.int .i64 (-1)) ∧ Ext w w' := by
  have hs := fun l W => rsign_any l true W
  simp only [sgn2] at hs
  go_enter Tryz.func74, Tryz.ntmps74
  go_wp2_with ((go_at_call 73; (with_reducible refine (hs _ _).mono ?_); rintro e w' ⟨rfl, hb⟩; obtain ⟨os, d, rfl⟩ := hb.more; clear hb))
  go_ret
  exact ⟨rfl, by with_reducible repeat (first | exact Ext.refl _ | apply Ext.drew | apply Ext.alloc | apply Ext.more_)⟩
set_option maxHeartbeats 1000000 in
theorem rcmp10 (am ae : Int) (ham : I64 am)  (w : World) :
    Calls Tryz.prog 74 #[VV 1 am ae ⟨#[]⟩ false 0, VV 0 0 0 ⟨#[]⟩ false 0] w fun e w' => e = .returned (.int .i64 (cmpS am ae 0 0)) ∧ Ext w w' := by
  have hc := fun W => rcmp_any am ae 0 0 W ham i64_zero
  generalize cmpS am ae 0 0 = z at *
  go_enter Tryz.func74, Tryz.ntmps74
  go_wp2_with ((go_at_call 125; (with_reducible refine (hc _).mono ?_); rintro e w' ⟨rfl, hb⟩; obtain ⟨os, d, rfl⟩ := hb.more; clear hb))
  go_ret
  exact ⟨rfl, by with_reducible repeat (first | exact Ext.refl _ | apply Ext.drew | apply Ext.alloc | apply Ext.more_)⟩
set_option maxHeartbeats 1000000 in
theorem rcmp11 (am ae : Int) (ham : I64 am) (bm be : Int) (hbm : I64 bm) (w : World) :
    Calls Tryz.prog 74 #[VV 1 am ae ⟨#[]⟩ false 0, VV 1 bm be ⟨#[]⟩ false 0] w fun e w' => e = .returned (.int .i64 (cmpS am ae bm be)) ∧ Ext w w' := by
  have hc := fun W => rcmp_any am ae bm be W ham hbm
  generalize cmpS am ae bm be = z at *
  go_enter Tryz.func74, Tryz.ntmps74
  go_wp2_with ((go_at_call 125; (with_reducible refine (hc _).mono ?_); rintro e w' ⟨rfl, hb⟩; obtain ⟨os, d, rfl⟩ := hb.more; clear hb))
  go_ret
  exact ⟨rfl, by with_reducible repeat (first | exact Ext.refl _ | apply Ext.drew | apply Ext.alloc | apply Ext.more_)⟩
set_option maxHeartbeats 1000000 in
theorem rcmp12 (am ae : Int) (ham : I64 am) (bt : ByteArray) (hbt : bt.size ≤ 255) (w : World) :
    Calls Tryz.prog 74 #[VV 1 am ae ⟨#[]⟩ false 0, VV 2 0 0 bt false 0] w fun e w' => e = .returned (.int .i64 (-1)) ∧ Ext w w' := by
  have hs := fun l W => rsign_any l true W
  simp only [sgn2] at hs
  go_enter Tryz.func74, Tryz.ntmps74
  go_wp2_with ((go_at_call 73; (with_reducible refine (hs _ _).mono ?_); rintro e w' ⟨rfl, hb⟩; obtain ⟨os, d, rfl⟩ := hb.more; clear hb))
  go_ret
  exact ⟨rfl, by with_reducible repeat (first | exact Ext.refl _ | apply Ext.drew | apply Ext.alloc | apply Ext.more_)⟩
set_option maxHeartbeats 1000000 in
theorem rcmp13 (am ae : Int) (ham : I64 am) (bb : Bool) (w : World) :
    Calls Tryz.prog 74 #[VV 1 am ae ⟨#[]⟩ false 0, VV 3 0 0 ⟨#[]⟩ bb 0] w fun e w' => e = .returned (.int .i64 (-1)) ∧ Ext w w' := by
  have hs := fun l W => rsign_any l true W
  simp only [sgn2] at hs
  go_enter Tryz.func74, Tryz.ntmps74
  go_wp2_with ((go_at_call 73; (with_reducible refine (hs _ _).mono ?_); rintro e w' ⟨rfl, hb⟩; obtain ⟨os, d, rfl⟩ := hb.more; clear hb))
  go_ret
  exact ⟨rfl, by with_reducible repeat (first | exact Ext.refl _ | apply Ext.drew | apply Ext.alloc | apply Ext.more_)⟩
set_option maxHeartbeats 1000000 in
theorem rcmp14 (am ae : Int) (ham : I64 am) (bf : Int) (w : World) :
    Calls Tryz.prog 74 #[VV 1 am ae ⟨#[]⟩ false 0, VV 4 0 0 ⟨#[]⟩ false bf] w fun e w' => e = .returned (.int .i64 (-1)) ∧ Ext w w' := by
  have hs := fun l W => rsign_any l true W
  simp only [sgn2] at hs
  go_enter Tryz.func74, Tryz.ntmps74
  go_wp2_with ((go_at_call 73; (with_reducible refine (hs _ _).mono ?_); rintro e w' ⟨rfl, hb⟩; obtain ⟨os, d, rfl⟩ := hb.more; clear hb))
  go_ret
  exact ⟨rfl, by with_reducible repeat (first | exact Ext.refl _ | apply Ext.drew | apply Ext.alloc | apply Ext.more_)⟩
set_option maxHeartbeats 1000000 in
theorem rcmp20 (at_ : ByteArray) (hat : at_.size ≤ 255)  (w : World) :
    Calls Tryz.prog 74 #[VV 2 0 0 at_ false 0, VV 0 0 0 ⟨#[]⟩ false 0] w fun e w' => e = .returned (.int .i64 (cmpT (at_) (⟨#[]⟩))) ∧ Ext w w' := by
  have h1 := fun W => rfold_any at_ W (by omega)
  have h2 := fun W => rfold_any (⟨#[]⟩ : ByteArray) W (Nat.zero_le _)
  unfold cmpT
  generalize foldB at_ = X at *
  generalize foldB (⟨#[]⟩ : ByteArray) = Y at *
  have hs := fun W => rsign_any (Op.bytesLess X.toList Y.toList) (!Op.bytesLess X.toList Y.toList && !X.toList == Y.toList) W
  have he : sgn2 (Op.bytesLess X.toList Y.toList) (!Op.bytesLess X.toList Y.toList && !X.toList == Y.toList) = Lib.compareBytes (tl X) (tl Y) := by rw [ByteArray.toList_eq, ByteArray.toList_eq, ← Bool.not_or]; exact sgn2_cb _ _
  rw [he] at hs
  clear he
  generalize Lib.compareBytes (tl X) (tl Y) = z at *
  go_enter Tryz.func74, Tryz.ntmps74
  go_upto_region 10 with fail
  refine wp_plan (S := Ext _) [(0, 0), (1, 0), (3, 0), (4, 0), (2, 1), (5, 1), (6, 0), (7, 0)] [] (by kernel_rfl) (by kernel_rfl) (by kernel_rfl) (fun _ _ d _ _ h => by cases d <;> exact h) (Ext.drew (Ext.refl _)) ?_
  iterate 4 ((refine wpPl_read (v := ?_) rfl ?_ (fun _ h => ?_) ?_; rotate_left 1; rfl; (obtain ⟨_, _, rfl⟩ := h.more; go_simp; try rfl)); try simp only [Act.put, zqA, zqB, zqC])
  (refine wpPl_eff rfl ?_ (fun K hK => ?_); rfl; go_simp; refine (h1 _).mono ?_; rintro e w' ⟨rfl, hb⟩; obtain ⟨os1, d1, rfl⟩ := hb.more; clear hb; refine hK _ _ ?_ ?_; (repeat (first | (with_reducible (first | exact Ext.refl _ | exact ext_d _ _ _ _ | exact ext_app _ _ _ _ _ | exact ext_app2 _ _ _ _ _ _ | exact ext_app3 _ _ _ _ _ _ _ | exact ext_app4 _ _ _ _ _ _ _ _ | exact ext_app5 _ _ _ _ _ _ _ _ _)) | ((with_reducible refine ext_suffix ⟨_, ?_⟩); (try simp only [Array.append_assoc]); rfl) | (with_reducible (first | apply Ext.drew | apply Ext.alloc | apply Ext.more_)) | apply Ext.drew | apply Ext.alloc | apply Ext.more_)))
  try simp only [Act.put, zqA, zqB, zqC]
  (refine wpPl_eff rfl ?_ (fun K hK => ?_); rfl; go_simp; refine (h2 _).mono ?_; rintro e w' ⟨rfl, hb⟩; obtain ⟨os2, d2, rfl⟩ := hb.more; clear hb; refine hK _ _ ?_ ?_; (repeat (first | (with_reducible (first | exact Ext.refl _ | exact ext_d _ _ _ _ | exact ext_app _ _ _ _ _ | exact ext_app2 _ _ _ _ _ _ | exact ext_app3 _ _ _ _ _ _ _ | exact ext_app4 _ _ _ _ _ _ _ _ | exact ext_app5 _ _ _ _ _ _ _ _ _)) | ((with_reducible refine ext_suffix ⟨_, ?_⟩); (try simp only [Array.append_assoc]); rfl) | (with_reducible (first | apply Ext.drew | apply Ext.alloc | apply Ext.more_)) | apply Ext.drew | apply Ext.alloc | apply Ext.more_)))
  try simp only [Act.put, zqA, zqB, zqC]
  iterate 2 ((refine wpPl_read (v := ?_) rfl ?_ (fun _ h => ?_) ?_; rotate_left 1; rfl; (obtain ⟨_, _, rfl⟩ := h.more; go_simp; try rfl)); try simp only [Act.put, zqA, zqB, zqC])
  refine wpPl_nil ?_
  go_wp2_with (go_at_call 73; refine (hs _).mono ?_; rintro e w' ⟨rfl, hb⟩; obtain ⟨os, d, rfl⟩ := hb.more; clear hb)
  go_ret
  exact ⟨rfl, by with_reducible repeat (first | exact Ext.refl _ | apply Ext.drew | apply Ext.alloc | apply Ext.more_)⟩
set_option maxHeartbeats 1000000 in
theorem rcmp21 (at_ : ByteArray) (hat : at_.size ≤ 255) (bm be : Int) (hbm : I64 bm) (w : World) :
    Calls Tryz.prog 74 #[VV 2 0 0 at_ false 0, VV 1 bm be ⟨#[]⟩ false 0] w fun e w' => e = .returned (.int .i64 (1)) ∧ Ext w w' := by
  have hs := fun l W => rsign_any l true W
  simp only [sgn2] at hs
  go_enter Tryz.func74, Tryz.ntmps74
  go_wp2_with ((go_at_call 73; (with_reducible refine (hs _ _).mono ?_); rintro e w' ⟨rfl, hb⟩; obtain ⟨os, d, rfl⟩ := hb.more; clear hb))
  go_ret
  exact ⟨rfl, by with_reducible repeat (first | exact Ext.refl _ | apply Ext.drew | apply Ext.alloc | apply Ext.more_)⟩
set_option maxHeartbeats 1000000 in
theorem rcmp22 (at_ : ByteArray) (hat : at_.size ≤ 255) (bt : ByteArray) (hbt : bt.size ≤ 255) (w : World) :
    Calls Tryz.prog 74 #[VV 2 0 0 at_ false 0, VV 2 0 0 bt false 0] w fun e w' => e = .returned (.int .i64 (cmpT (at_) (bt))) ∧ Ext w w' := by
  have h1 := fun W => rfold_any at_ W (by omega)
  have h2 := fun W => rfold_any bt W (by omega)
  unfold cmpT
  generalize foldB at_ = X at *
  generalize foldB bt = Y at *
  have hs := fun W => rsign_any (Op.bytesLess X.toList Y.toList) (!Op.bytesLess X.toList Y.toList && !X.toList == Y.toList) W
  have he : sgn2 (Op.bytesLess X.toList Y.toList) (!Op.bytesLess X.toList Y.toList && !X.toList == Y.toList) = Lib.compareBytes (tl X) (tl Y) := by rw [ByteArray.toList_eq, ByteArray.toList_eq, ← Bool.not_or]; exact sgn2_cb _ _
  rw [he] at hs
  clear he
  generalize Lib.compareBytes (tl X) (tl Y) = z at *
  go_enter Tryz.func74, Tryz.ntmps74
  go_upto_region 10 with fail
  refine wp_plan (S := Ext _) [(0, 0), (1, 0), (3, 0), (4, 0), (2, 1), (5, 1), (6, 0), (7, 0)] [] (by kernel_rfl) (by kernel_rfl) (by kernel_rfl) (fun _ _ d _ _ h => by cases d <;> exact h) (Ext.drew (Ext.refl _)) ?_
  iterate 4 ((refine wpPl_read (v := ?_) rfl ?_ (fun _ h => ?_) ?_; rotate_left 1; rfl; (obtain ⟨_, _, rfl⟩ := h.more; go_simp; try rfl)); try simp only [Act.put, zqA, zqB, zqC])
  (refine wpPl_eff rfl ?_ (fun K hK => ?_); rfl; go_simp; refine (h1 _).mono ?_; rintro e w' ⟨rfl, hb⟩; obtain ⟨os1, d1, rfl⟩ := hb.more; clear hb; refine hK _ _ ?_ ?_; (repeat (first | (with_reducible (first | exact Ext.refl _ | exact ext_d _ _ _ _ | exact ext_app _ _ _ _ _ | exact ext_app2 _ _ _ _ _ _ | exact ext_app3 _ _ _ _ _ _ _ | exact ext_app4 _ _ _ _ _ _ _ _ | exact ext_app5 _ _ _ _ _ _ _ _ _)) | ((with_reducible refine ext_suffix ⟨_, ?_⟩); (try simp only [Array.append_assoc]); rfl) | (with_reducible (first | apply Ext.drew | apply Ext.alloc | apply Ext.more_)) | apply Ext.drew | apply Ext.alloc | apply Ext.more_)))
  try simp only [Act.put, zqA, zqB, zqC]
  (refine wpPl_eff rfl ?_ (fun K hK => ?_); rfl; go_simp; refine (h2 _).mono ?_; rintro e w' ⟨rfl, hb⟩; obtain ⟨os2, d2, rfl⟩ := hb.more; clear hb; refine hK _ _ ?_ ?_; (repeat (first | (with_reducible (first | exact Ext.refl _ | exact ext_d _ _ _ _ | exact ext_app _ _ _ _ _ | exact ext_app2 _ _ _ _ _ _ | exact ext_app3 _ _ _ _ _ _ _ | exact ext_app4 _ _ _ _ _ _ _ _ | exact ext_app5 _ _ _ _ _ _ _ _ _)) | ((with_reducible refine ext_suffix ⟨_, ?_⟩); (try simp only [Array.append_assoc]); rfl) | (with_reducible (first | apply Ext.drew | apply Ext.alloc | apply Ext.more_)) | apply Ext.drew | apply Ext.alloc | apply Ext.more_)))
  try simp only [Act.put, zqA, zqB, zqC]
  iterate 2 ((refine wpPl_read (v := ?_) rfl ?_ (fun _ h => ?_) ?_; rotate_left 1; rfl; (obtain ⟨_, _, rfl⟩ := h.more; go_simp; try rfl)); try simp only [Act.put, zqA, zqB, zqC])
  refine wpPl_nil ?_
  go_wp2_with (go_at_call 73; refine (hs _).mono ?_; rintro e w' ⟨rfl, hb⟩; obtain ⟨os, d, rfl⟩ := hb.more; clear hb)
  go_ret
  exact ⟨rfl, by with_reducible repeat (first | exact Ext.refl _ | apply Ext.drew | apply Ext.alloc | apply Ext.more_)⟩
set_option maxHeartbeats 1000000 in
theorem rcmp23 (at_ : ByteArray) (hat : at_.size ≤ 255) (bb : Bool) (w : World) :
    Calls Tryz.prog 74 #[VV 2 0 0 at_ false 0, VV 3 0 0 ⟨#[]⟩ bb 0] w fun e w' => e = .returned (.int .i64 (-1)) ∧ Ext w w' := by
  have hs := fun l W => rsign_any l true W
  simp only [sgn2] at hs
  go_enter Tryz.func74, Tryz.ntmps74
  go_wp2_with ((go_at_call 73; (with_reducible refine (hs _ _).mono ?_); rintro e w' ⟨rfl, hb⟩; obtain ⟨os, d, rfl⟩ := hb.more; clear hb))
  go_ret
  exact ⟨rfl, by with_reducible repeat (first | exact Ext.refl _ | apply Ext.drew | apply Ext.alloc | apply Ext.more_)⟩
set_option maxHeartbeats 1000000 in
theorem rcmp24 (at_ : ByteArray) (hat : at_.size ≤ 255) (bf : Int) (w : World) :
    Calls Tryz.prog 74 #[VV 2 0 0 at_ false 0, VV 4 0 0 ⟨#[]⟩ false bf] w fun e w' => e = .returned (.int .i64 (-1)) ∧ Ext w w' := by
  have hs := fun l W => rsign_any l true W
  simp only [sgn2] at hs
  go_enter Tryz.func74, Tryz.ntmps74
  go_wp2_with ((go_at_call 73; (with_reducible refine (hs _ _).mono ?_); rintro e w' ⟨rfl, hb⟩; obtain ⟨os, d, rfl⟩ := hb.more; clear hb))
  go_ret
  exact ⟨rfl, by with_reducible repeat (first | exact Ext.refl _ | apply Ext.drew | apply Ext.alloc | apply Ext.more_)⟩
set_option maxHeartbeats 1000000 in
theorem rcmp30 (ab : Bool)  (w : World) :
    Calls Tryz.prog 74 #[VV 3 0 0 ⟨#[]⟩ ab 0, VV 0 0 0 ⟨#[]⟩ false 0] w fun e w' => e = .returned (.int .i64 (sgB ab false)) ∧ Ext w w' := by
  have hs := fun W => rsign_any (!ab && false) (ab && !false) W
  rw [sgn2_bool] at hs
  cases ab
  all_goals
    go_enter Tryz.func74, Tryz.ntmps74
    go_wp2_with ((go_at_call 73; refine (hs _).mono ?_; rintro e w' ⟨rfl, hb⟩; obtain ⟨os, d, rfl⟩ := hb.more; clear hb))
    go_ret
    exact ⟨rfl, by with_reducible repeat (first | exact Ext.refl _ | apply Ext.drew | apply Ext.alloc | apply Ext.more_)⟩
set_option maxHeartbeats 1000000 in
theorem rcmp31 (ab : Bool) (bm be : Int) (hbm : I64 bm) (w : World) :
    Calls Tryz.prog 74 #[VV 3 0 0 ⟨#[]⟩ ab 0, VV 1 bm be ⟨#[]⟩ false 0] w fun e w' => e = .returned (.int .i64 (1)) ∧ Ext w w' := by
  have hs := fun l W => rsign_any l true W
  simp only [sgn2] at hs
  go_enter Tryz.func74, Tryz.ntmps74
  go_wp2_with ((go_at_call 73; (with_reducible refine (hs _ _).mono ?_); rintro e w' ⟨rfl, hb⟩; obtain ⟨os, d, rfl⟩ := hb.more; clear hb))
  go_ret
  exact ⟨rfl, by with_reducible repeat (first | exact Ext.refl _ | apply Ext.drew | apply Ext.alloc | apply Ext.more_)⟩
set_option maxHeartbeats 1000000 in
theorem rcmp32 (ab : Bool) (bt : ByteArray) (hbt : bt.size ≤ 255) (w : World) :
    Calls Tryz.prog 74 #[VV 3 0 0 ⟨#[]⟩ ab 0, VV 2 0 0 bt false 0] w fun e w' => e = .returned (.int .i64 (1)) ∧ Ext w w' := by
  have hs := fun l W => rsign_any l true W
  simp only [sgn2] at hs
  go_enter Tryz.func74, Tryz.ntmps74
  go_wp2_with ((go_at_call 73; (with_reducible refine (hs _ _).mono ?_); rintro e w' ⟨rfl, hb⟩; obtain ⟨os, d, rfl⟩ := hb.more; clear hb))
  go_ret
  exact ⟨rfl, by with_reducible repeat (first | exact Ext.refl _ | apply Ext.drew | apply Ext.alloc | apply Ext.more_)⟩
set_option maxHeartbeats 1000000 in
theorem rcmp33 (ab : Bool) (bb : Bool) (w : World) :
    Calls Tryz.prog 74 #[VV 3 0 0 ⟨#[]⟩ ab 0, VV 3 0 0 ⟨#[]⟩ bb 0] w fun e w' => e = .returned (.int .i64 (sgB ab bb)) ∧ Ext w w' := by
  have hs := fun W => rsign_any (!ab && bb) (ab && !bb) W
  rw [sgn2_bool] at hs
  cases ab <;> cases bb
  all_goals
    go_enter Tryz.func74, Tryz.ntmps74
    go_wp2_with ((go_at_call 73; refine (hs _).mono ?_; rintro e w' ⟨rfl, hb⟩; obtain ⟨os, d, rfl⟩ := hb.more; clear hb))
    go_ret
    exact ⟨rfl, by with_reducible repeat (first | exact Ext.refl _ | apply Ext.drew | apply Ext.alloc | apply Ext.more_)⟩
set_option maxHeartbeats 1000000 in
theorem rcmp34 (ab : Bool) (bf : Int) (w : World) :
    Calls Tryz.prog 74 #[VV 3 0 0 ⟨#[]⟩ ab 0, VV 4 0 0 ⟨#[]⟩ false bf] w fun e w' => e = .returned (.int .i64 (-1)) ∧ Ext w w' := by
  have hs := fun l W => rsign_any l true W
  simp only [sgn2] at hs
  go_enter Tryz.func74, Tryz.ntmps74
  go_wp2_with ((go_at_call 73; (with_reducible refine (hs _ _).mono ?_); rintro e w' ⟨rfl, hb⟩; obtain ⟨os, d, rfl⟩ := hb.more; clear hb))
  go_ret
  exact ⟨rfl, by with_reducible repeat (first | exact Ext.refl _ | apply Ext.drew | apply Ext.alloc | apply Ext.more_)⟩
set_option maxHeartbeats 1000000 in
theorem rcmp40 (af : Int)  (w : World) :
    Calls Tryz.prog 74 #[VV 4 0 0 ⟨#[]⟩ false af, VV 0 0 0 ⟨#[]⟩ false 0] w fun e w' => e = .returned (.int .i64 (1)) ∧ Ext w w' := by
  have hs := fun l W => rsign_any l true W
  simp only [sgn2] at hs
  go_enter Tryz.func74, Tryz.ntmps74
  go_wp2_with ((go_at_call 73; (with_reducible refine (hs _ _).mono ?_); rintro e w' ⟨rfl, hb⟩; obtain ⟨os, d, rfl⟩ := hb.more; clear hb))
  go_ret
  exact ⟨rfl, by with_reducible repeat (first | exact Ext.refl _ | apply Ext.drew | apply Ext.alloc | apply Ext.more_)⟩
set_option maxHeartbeats 1000000 in
theorem rcmp41 (af : Int) (bm be : Int) (hbm : I64 bm) (w : World) :
    Calls Tryz.prog 74 #[VV 4 0 0 ⟨#[]⟩ false af, VV 1 bm be ⟨#[]⟩ false 0] w fun e w' => e = .returned (.int .i64 (1)) ∧ Ext w w' := by
  have hs := fun l W => rsign_any l true W
  simp only [sgn2] at hs
  go_enter Tryz.func74, Tryz.ntmps74
  go_wp2_with ((go_at_call 73; (with_reducible refine (hs _ _).mono ?_); rintro e w' ⟨rfl, hb⟩; obtain ⟨os, d, rfl⟩ := hb.more; clear hb))
  go_ret
  exact ⟨rfl, by with_reducible repeat (first | exact Ext.refl _ | apply Ext.drew | apply Ext.alloc | apply Ext.more_)⟩
set_option maxHeartbeats 1000000 in
theorem rcmp42 (af : Int) (bt : ByteArray) (hbt : bt.size ≤ 255) (w : World) :
    Calls Tryz.prog 74 #[VV 4 0 0 ⟨#[]⟩ false af, VV 2 0 0 bt false 0] w fun e w' => e = .returned (.int .i64 (1)) ∧ Ext w w' := by
  have hs := fun l W => rsign_any l true W
  simp only [sgn2] at hs
  go_enter Tryz.func74, Tryz.ntmps74
  go_wp2_with ((go_at_call 73; (with_reducible refine (hs _ _).mono ?_); rintro e w' ⟨rfl, hb⟩; obtain ⟨os, d, rfl⟩ := hb.more; clear hb))
  go_ret
  exact ⟨rfl, by with_reducible repeat (first | exact Ext.refl _ | apply Ext.drew | apply Ext.alloc | apply Ext.more_)⟩
set_option maxHeartbeats 1000000 in
theorem rcmp43 (af : Int) (bb : Bool) (w : World) :
    Calls Tryz.prog 74 #[VV 4 0 0 ⟨#[]⟩ false af, VV 3 0 0 ⟨#[]⟩ bb 0] w fun e w' => e = .returned (.int .i64 (1)) ∧ Ext w w' := by
  have hs := fun l W => rsign_any l true W
  simp only [sgn2] at hs
  go_enter Tryz.func74, Tryz.ntmps74
  go_wp2_with ((go_at_call 73; (with_reducible refine (hs _ _).mono ?_); rintro e w' ⟨rfl, hb⟩; obtain ⟨os, d, rfl⟩ := hb.more; clear hb))
  go_ret
  exact ⟨rfl, by with_reducible repeat (first | exact Ext.refl _ | apply Ext.drew | apply Ext.alloc | apply Ext.more_)⟩
set_option maxHeartbeats 1000000 in
theorem rcmp44 (af : Int) (bf : Int) (w : World) :
    Calls Tryz.prog 74 #[VV 4 0 0 ⟨#[]⟩ false af, VV 4 0 0 ⟨#[]⟩ false bf] w fun e w' => e = .returned (.int .i64 (sgI af bf)) ∧ Ext w w' := by
  have hs := fun W => rsign_any (decide (af < bf)) (decide (bf < af)) W
  rw [sgn2_int] at hs
  generalize sgI af bf = z at *
  go_enter Tryz.func74, Tryz.ntmps74
  go_wp2_with ((go_at_call 73; refine (hs _).mono ?_; rintro e w' ⟨rfl, hb⟩; obtain ⟨os, d, rfl⟩ := hb.more; clear hb))
  go_ret
  exact ⟨rfl, by with_reducible repeat (first | exact Ext.refl _ | apply Ext.drew | apply Ext.alloc | apply Ext.more_)⟩
theorem rcompare_any (a b : Val) (w : World) (ha : a.right) (hb : b.right) :
    Calls Tryz.prog 74 #[VV a.kind a.mant a.exp a.text a.truth a.fault, VV b.kind b.mant b.exp b.text b.truth b.fault] w fun e w' => e = .returned (.int .i64 (cmpV a b)) ∧ Ext w w' := by
  rcases ha.form with rfl | ⟨m, e, rfl, hr⟩ | ⟨t, rfl, ht⟩ | ⟨x, rfl⟩ | ⟨f, rfl, hf⟩
  · rcases hb.form with rfl | ⟨m', e', rfl, hr'⟩ | ⟨t', rfl, ht'⟩ | ⟨x', rfl⟩ | ⟨f', rfl, hf'⟩
    · exact rcmp00   w
    · exact rcmp01  m' e' (Rt_i64 hr').1 w
    · exact rcmp02  t' ht' w
    · exact rcmp03  x' w
    · exact rcmp04  f' w
  · rcases hb.form with rfl | ⟨m', e', rfl, hr'⟩ | ⟨t', rfl, ht'⟩ | ⟨x', rfl⟩ | ⟨f', rfl, hf'⟩
    · exact rcmp10 m e (Rt_i64 hr).1  w
    · exact rcmp11 m e (Rt_i64 hr).1 m' e' (Rt_i64 hr').1 w
    · exact rcmp12 m e (Rt_i64 hr).1 t' ht' w
    · exact rcmp13 m e (Rt_i64 hr).1 x' w
    · exact rcmp14 m e (Rt_i64 hr).1 f' w
  · rcases hb.form with rfl | ⟨m', e', rfl, hr'⟩ | ⟨t', rfl, ht'⟩ | ⟨x', rfl⟩ | ⟨f', rfl, hf'⟩
    · exact rcmp20 t ht  w
    · exact rcmp21 t ht m' e' (Rt_i64 hr').1 w
    · exact rcmp22 t ht t' ht' w
    · exact rcmp23 t ht x' w
    · exact rcmp24 t ht f' w
  · rcases hb.form with rfl | ⟨m', e', rfl, hr'⟩ | ⟨t', rfl, ht'⟩ | ⟨x', rfl⟩ | ⟨f', rfl, hf'⟩
    · exact rcmp30 x  w
    · exact rcmp31 x m' e' (Rt_i64 hr').1 w
    · exact rcmp32 x t' ht' w
    · exact rcmp33 x x' w
    · exact rcmp34 x f' w
  · rcases hb.form with rfl | ⟨m', e', rfl, hr'⟩ | ⟨t', rfl, ht'⟩ | ⟨x', rfl⟩ | ⟨f', rfl, hf'⟩
    · exact rcmp40 f  w
    · exact rcmp41 f m' e' (Rt_i64 hr').1 w
    · exact rcmp42 f t' ht' w
    · exact rcmp43 f x' w
    · exact rcmp44 f f' w
set_option maxHeartbeats 1000000 in
theorem rorder_any (a b : Val) (w : World) (ha : a.right) (hb : b.right) :
    Calls Tryz.prog 31 #[VV a.kind a.mant a.exp a.text a.truth a.fault, VV b.kind b.mant b.exp b.text b.truth b.fault] w fun e w' => e = .returned (.int .i64 (ordV a b)) ∧ Ext w w' := by
  have hc := fun W => rcompare_any a b W ha hb
  by_cases h1 : a.kind = 0
  · have q1 : (a.kind == 0) = true := by simpa using h1
    have q3 : (a.kind != 0) = false := by simp [h1]
    by_cases h2 : b.kind = 0
    · have ho : ordV a b = 0 := by unfold ordV; rw [if_pos ⟨h1, h2⟩]
      have q2 : (b.kind == 0) = true := by simpa using h2
      have q4 : (b.kind != 0) = false := by simp [h2]
      have hs := fun W => rsign_any false false W
      simp only [sgn2, Bool.false_eq_true, if_false] at hs
      rw [ho]; clear ho h1 h2 ha hb; generalize a.kind = xk at *; generalize a.mant = xm at *; generalize a.exp = xe at *; generalize a.text = xt at *; generalize a.truth = xb at *; generalize a.fault = xf at *; generalize b.kind = yk at *; generalize b.mant = ym at *; generalize b.exp = ye at *; generalize b.text = yt at *; generalize b.truth = yb at *; generalize b.fault = yf at *; go_enter Tryz.func31, Tryz.ntmps31; go_wp2_with (first | (go_at_call 73; (with_reducible refine (hs _).mono ?_); rintro e w' ⟨rfl, hb⟩; obtain ⟨os, d, rfl⟩ := hb.more; clear hb) | (go_at_call 74; (with_reducible refine (hc _).mono ?_); rintro e w' ⟨rfl, hb⟩; obtain ⟨os, d, rfl⟩ := hb.more; clear hb)); go_ret; exact ⟨rfl, by with_reducible repeat (first | exact Ext.refl _ | apply Ext.drew | apply Ext.alloc | apply Ext.more_)⟩
    · have ho : ordV a b = 1 := by unfold ordV; rw [if_neg (fun h => h2 h.2), if_pos h1]
      have q2 : (b.kind == 0) = false := by simpa using h2
      have q4 : (b.kind != 0) = true := by simpa using h2
      have hs := fun W => rsign_any false true W
      simp only [sgn2, Bool.false_eq_true, if_false, if_true] at hs
      rw [ho]; clear ho h1 h2 ha hb; generalize a.kind = xk at *; generalize a.mant = xm at *; generalize a.exp = xe at *; generalize a.text = xt at *; generalize a.truth = xb at *; generalize a.fault = xf at *; generalize b.kind = yk at *; generalize b.mant = ym at *; generalize b.exp = ye at *; generalize b.text = yt at *; generalize b.truth = yb at *; generalize b.fault = yf at *; go_enter Tryz.func31, Tryz.ntmps31; go_wp2_with (first | (go_at_call 73; (with_reducible refine (hs _).mono ?_); rintro e w' ⟨rfl, hb⟩; obtain ⟨os, d, rfl⟩ := hb.more; clear hb) | (go_at_call 74; (with_reducible refine (hc _).mono ?_); rintro e w' ⟨rfl, hb⟩; obtain ⟨os, d, rfl⟩ := hb.more; clear hb)); go_ret; exact ⟨rfl, by with_reducible repeat (first | exact Ext.refl _ | apply Ext.drew | apply Ext.alloc | apply Ext.more_)⟩
  · have q1 : (a.kind == 0) = false := by simpa using h1
    have q3 : (a.kind != 0) = true := by simpa using h1
    by_cases h2 : b.kind = 0
    · have ho : ordV a b = -1 := by unfold ordV; rw [if_neg (fun h => h1 h.1), if_neg h1, if_pos h2]
      have q2 : (b.kind == 0) = true := by simpa using h2
      have q4 : (b.kind != 0) = false := by simp [h2]
      have hs := fun W => rsign_any true false W
      simp only [sgn2, Bool.false_eq_true, if_false, if_true] at hs
      rw [ho]; clear ho h1 h2 ha hb; generalize a.kind = xk at *; generalize a.mant = xm at *; generalize a.exp = xe at *; generalize a.text = xt at *; generalize a.truth = xb at *; generalize a.fault = xf at *; generalize b.kind = yk at *; generalize b.mant = ym at *; generalize b.exp = ye at *; generalize b.text = yt at *; generalize b.truth = yb at *; generalize b.fault = yf at *; go_enter Tryz.func31, Tryz.ntmps31; go_wp2_with (first | (go_at_call 73; (with_reducible refine (hs _).mono ?_); rintro e w' ⟨rfl, hb⟩; obtain ⟨os, d, rfl⟩ := hb.more; clear hb) | (go_at_call 74; (with_reducible refine (hc _).mono ?_); rintro e w' ⟨rfl, hb⟩; obtain ⟨os, d, rfl⟩ := hb.more; clear hb)); go_ret; exact ⟨rfl, by with_reducible repeat (first | exact Ext.refl _ | apply Ext.drew | apply Ext.alloc | apply Ext.more_)⟩
    · have ho : ordV a b = cmpV a b := by unfold ordV; rw [if_neg (fun h => h1 h.1), if_neg h1, if_neg h2]
      have q2 : (b.kind == 0) = false := by simpa using h2
      have q4 : (b.kind != 0) = true := by simpa using h2
      have hs := fun W => rsign_any true false W
      generalize cmpV a b = n at *
      rw [ho]; clear ho h1 h2 ha hb; generalize a.kind = xk at *; generalize a.mant = xm at *; generalize a.exp = xe at *; generalize a.text = xt at *; generalize a.truth = xb at *; generalize a.fault = xf at *; generalize b.kind = yk at *; generalize b.mant = ym at *; generalize b.exp = ye at *; generalize b.text = yt at *; generalize b.truth = yb at *; generalize b.fault = yf at *; go_enter Tryz.func31, Tryz.ntmps31; go_wp2_with (first | (go_at_call 73; (with_reducible refine (hs _).mono ?_); rintro e w' ⟨rfl, hb⟩; obtain ⟨os, d, rfl⟩ := hb.more; clear hb) | (go_at_call 74; (with_reducible refine (hc _).mono ?_); rintro e w' ⟨rfl, hb⟩; obtain ⟨os, d, rfl⟩ := hb.more; clear hb)); go_ret; exact ⟨rfl, by with_reducible repeat (first | exact Ext.refl _ | apply Ext.drew | apply Ext.alloc | apply Ext.more_)⟩
end Go.Proofs.YtmjmijjbijlhfaaGreatDoor
namespace Go.Proofs.YtmjmijjbijlhfaaGreatDoor
open Go.RowKit NM
theorem numO_out {xs : List Ar} {k : Nat} {l : Int} (h : givenB xs k = false) : numO xs k l = (l, 0) := by
  unfold numO; rw [if_neg (by simp [h])]
theorem argV_right {w : World} {A : Option Addr} {n cap k : Nat} {xs : List Ar} (h : ArgsIn w A n cap xs) (hg : givenB xs k = true) : (argV xs k).right := by
  unfold givenB at hg
  unfold argV
  cases hx : xs[k]? with
  | none => rw [hx] at hg; cases hg
  | some a =>
    have ha := (h.all a (List.mem_of_getElem? hx)).right
    obtain ⟨r1, r2, r3, r4, r5⟩ := rightA_nat.1 ha
    exact r5 _ (getV_mem (by rw [r4]; exact Nat.mul_pos r1 r2))
theorem intGo_i64 : ∀ {k : Nat} {n i : Int}, I64 n → intGo n k = some i → I64 i
  | 0, n, i, h, e => by
    simp only [intGo, Option.some.injEq] at e
    subst e; exact h
  | k + 1, n, i, h, e => by
    unfold intGo at e
    split at e
    · cases e
    · exact intGo_i64 (by unfold I64; omega) e
theorem int_i64 {m e i : Int} (h : Rt m e) (hi : intS m e = some i) : I64 i := by
  unfold intS at hi
  split at hi
  · cases hi
  · exact intGo_i64 (rt_i64 h) hi
/-- A number's argument is one that an int holds. -/
theorem wholeO_i64 {x : Val} (h : x.right) : I64 (wholeO x).1 := by
  unfold wholeO
  split
  · show I64 (Option.getD _ 0)
    cases hi : intS (floorS (tnP x).1 (tnP x).2).1 (floorS (tnP x).1 (tnP x).2).2 with
    | none => show I64 0; unfold I64; omega
    | some i => exact int_i64 (floor_spec (tn_rt h)).1 hi
  · show I64 0; unfold I64; omega
theorem numO_i64 {w : World} {A : Option Addr} {n cap k : Nat} {xs : List Ar} {l : Int} (h : ArgsIn w A n cap xs) (hl : I64 l) : I64 (numO xs k l).1 := by
  cases hg : givenB xs k with
  | false => rw [numO_out hg]; exact hl
  | true => unfold numO; rw [if_pos hg]; exact wholeO_i64 (argV_right h hg)
end Go.Proofs.YtmjmijjbijlhfaaGreatDoor
namespace Go.Proofs.YtmjmijjbijlhfaaGreatDoor
open Go.RowKit NM
theorem gvar_at (w : World) (o : Obj) (osa osb : Array Obj) (da db : Nat) : (more ((more w osa da).alloc o) osb db).heap[w.heap.size + osa.size]? = some o := by
  have h := gheap_new (more w osa da) o
  rw [show (more w osa da).heap.size = w.heap.size + osa.size by simp] at h
  have x0 : Ext ((more w osa da).alloc o) (more ((more w osa da).alloc o) osb db) := by with_reducible repeat (first | exact Ext.refl _ | apply Ext.drew | apply Ext.alloc | apply Ext.more_)
  rw [x0.block (b := w.heap.size + osa.size) (by simp)]
  exact h
theorem gheap_var (w : World) (o o' : Obj) (osa osb : Array Obj) (da db : Nat) {b : Nat} (hb : b ≠ w.heap.size + osa.size) :
    (more ((more w osa da).alloc o') osb db).heap[b]? = (more ((more w osa da).alloc o) osb db).heap[b]? := by
  simp only [more, World.alloc, Array.getElem?_append, Array.getElem?_push, Array.size_push, Array.size_append]
  by_cases h : b < w.heap.size + osa.size + 1
  · rw [if_pos h, if_pos h, if_neg hb, if_neg hb]
  · rw [if_neg h, if_neg h]
/-- Values elsewhere than in a variable of three cells. -/
theorem rd_var {base : Nat} {w : World} {osa osb : Array Obj} {da db : Nat} {p q r : Value} (u v x : Value) {t : TypeId} {A : Option Addr} {l : List Val}
    (h : SlV base (more ((more w osa da).alloc (.cells #[p, q, r] t)) osb db) A l) : SlV base (more ((more w osa da).alloc (.cells #[u, v, x] t)) osb db) A l := by
  intro j y hu
  obtain ⟨b', off, hA, hl, hc⟩ := h j y hu
  refine ⟨b', off, hA, hl, ?_⟩
  have hne : b' ≠ w.heap.size + osa.size := by
    intro e
    cases l with
    | nil => simp [vcells] at hu
    | cons z l =>
      obtain ⟨b2, off2, hA', _, hc3⟩ := h 3 (.string z.text) (by simp [vcells, Val.cells])
      rw [hA] at hA'
      simp only [Option.some.injEq, Addr.mk.injEq, and_true] at hA'
      obtain ⟨rfl, rfl⟩ := hA'
      subst e
      have hv := gvar_at w (.cells #[p, q, r] t) osa osb da db
      simp [World.cell?, hv] at hc3
  rw [← hc]
  exact World.cell?_of_block (a := ⟨b', off + j, none⟩) (gheap_var w _ _ osa osb da db hne)
end Go.Proofs.YtmjmijjbijlhfaaGreatDoor
namespace Go.Proofs.YtmjmijjbijlhfaaGreatDoor
open Go.RowKit NM
theorem heap_one (Z : World) (o o' : Obj) (os : Array Obj) (d : Nat) {g : Nat} (hg : Z.heap.size + 1 ≤ g) : (more (Z.alloc o) os d).heap[g]? = (more (Z.alloc o') os d).heap[g]? := by
  simp only [more, World.alloc, Array.getElem?_append, Array.getElem?_push, Array.size_push]
  by_cases h : g < Z.heap.size + 1
  · omega
  · rw [if_neg h, if_neg h]
end Go.Proofs.YtmjmijjbijlhfaaGreatDoor
namespace Go.Proofs.YtmjmijjbijlhfaaGreatDoor
open Go.RowKit NM
set_option maxHeartbeats 1000000 in
theorem rahead_any (a b : Val) (down : Bool) (w : World) (ha : a.right) (hb : b.right) :
    Calls Tryz.prog 19 #[VV a.kind a.mant a.exp a.text a.truth a.fault, VV b.kind b.mant b.exp b.text b.truth b.fault, .bool down] w fun e w' => e = .returned (.bool (aheadB down a b)) ∧ Ext w w' := by
  obtain ⟨r, hr⟩ : ∃ r, aheadB down a b = r := ⟨_, rfl⟩
  rw [hr]
  have hc0 := fun W => rorder_any a b W ha hb
  by_cases h1 : a.kind = 0
  · have q1 : (a.kind == 0) = true := by simpa using h1
    have q3 : (a.kind != 0) = false := by simp [h1]
    have HO : Hid (r = false) := by show _ = _; rw [← hr]; unfold aheadB; rw [if_pos (Or.inl h1)]; simp [h1]
    have hc := hc0
    have h2 := h1
    clear hr hc0
    generalize ordV a b = z at *
    clear h1 h2 ha hb; generalize a.kind = xk at *; generalize a.mant = xm at *; generalize a.exp = xe at *; generalize a.text = xt at *; generalize a.truth = xb at *; generalize a.fault = xf at *; generalize b.kind = yk at *; generalize b.mant = ym at *; generalize b.exp = ye at *; generalize b.text = yt at *; generalize b.truth = yb at *; generalize b.fault = yf at *; go_enter Tryz.func19, Tryz.ntmps19; go_wp2_with (first | (go_at_call 31; (with_reducible refine (hc _).mono ?_); rintro e w' ⟨rfl, hb⟩; obtain ⟨os, d, rfl⟩ := hb.more; clear hb)); go_ret; exact ⟨by first | rfl | (rw [HO.out]; rfl) | rw [HO.out], by with_reducible repeat (first | exact Ext.refl _ | apply Ext.drew | apply Ext.alloc | apply Ext.more_)⟩
  · have q1 : (a.kind == 0) = false := by simpa using h1
    have q3 : (a.kind != 0) = true := by simpa using h1
    by_cases h2 : b.kind = 0
    · have q2 : (b.kind == 0) = true := by simpa using h2
      have HO : Hid (r = true) := by show _ = _; rw [← hr]; unfold aheadB; rw [if_pos (Or.inr h2)]; simp [h1, h2]
      have hc := hc0
      clear hr hc0
      generalize ordV a b = z at *
      clear h1 h2 ha hb; generalize a.kind = xk at *; generalize a.mant = xm at *; generalize a.exp = xe at *; generalize a.text = xt at *; generalize a.truth = xb at *; generalize a.fault = xf at *; generalize b.kind = yk at *; generalize b.mant = ym at *; generalize b.exp = ye at *; generalize b.text = yt at *; generalize b.truth = yb at *; generalize b.fault = yf at *; go_enter Tryz.func19, Tryz.ntmps19; go_wp2_with (first | (go_at_call 31; (with_reducible refine (hc _).mono ?_); rintro e w' ⟨rfl, hb⟩; obtain ⟨os, d, rfl⟩ := hb.more; clear hb)); go_ret; exact ⟨by first | rfl | (rw [HO.out]; rfl) | rw [HO.out], by with_reducible repeat (first | exact Ext.refl _ | apply Ext.drew | apply Ext.alloc | apply Ext.more_)⟩
    · have q2 : (b.kind == 0) = false := by simpa using h2
      have ho : ∀ x y : Val, x.kind ≠ 0 → y.kind ≠ 0 → ordV x y = cmpV x y := fun x y h1 h2 => by unfold ordV; rw [if_neg (fun h => h1 h.1), if_neg h1, if_neg h2]
      have ha2 : aheadB down a b = decide ((if down then cmpV b a else cmpV a b) < 0) := by unfold aheadB; rw [if_neg (by simp [h1, h2])]
      cases down with
      | true =>
        have hc := fun W => rorder_any b a W hb ha
        rw [ho b a h2 h1] at hc
        simp only [if_true] at ha2
        have HO : Hid (r = decide (cmpV b a < 0)) := by show _ = _; rw [← hr, ha2]
        clear hr hc0 ha2 ho
        generalize cmpV b a = z at *
        clear h1 h2 ha hb; generalize a.kind = xk at *; generalize a.mant = xm at *; generalize a.exp = xe at *; generalize a.text = xt at *; generalize a.truth = xb at *; generalize a.fault = xf at *; generalize b.kind = yk at *; generalize b.mant = ym at *; generalize b.exp = ye at *; generalize b.text = yt at *; generalize b.truth = yb at *; generalize b.fault = yf at *; go_enter Tryz.func19, Tryz.ntmps19; go_wp2_with (first | (go_at_call 31; (with_reducible refine (hc _).mono ?_); rintro e w' ⟨rfl, hb⟩; obtain ⟨os, d, rfl⟩ := hb.more; clear hb)); go_ret; exact ⟨by first | rfl | (rw [HO.out]; rfl) | rw [HO.out], by with_reducible repeat (first | exact Ext.refl _ | apply Ext.drew | apply Ext.alloc | apply Ext.more_)⟩
      | false =>
        have hc := fun W => rorder_any a b W ha hb
        rw [ho a b h1 h2] at hc
        simp only [Bool.false_eq_true, if_false] at ha2
        have HO : Hid (r = decide (cmpV a b < 0)) := by show _ = _; rw [← hr, ha2]
        clear hr hc0 ha2 ho
        generalize cmpV a b = z at *
        clear h1 h2 ha hb; generalize a.kind = xk at *; generalize a.mant = xm at *; generalize a.exp = xe at *; generalize a.text = xt at *; generalize a.truth = xb at *; generalize a.fault = xf at *; generalize b.kind = yk at *; generalize b.mant = ym at *; generalize b.exp = ye at *; generalize b.text = yt at *; generalize b.truth = yb at *; generalize b.fault = yf at *; go_enter Tryz.func19, Tryz.ntmps19; go_wp2_with (first | (go_at_call 31; (with_reducible refine (hc _).mono ?_); rintro e w' ⟨rfl, hb⟩; obtain ⟨os, d, rfl⟩ := hb.more; clear hb)); go_ret; exact ⟨by first | rfl | (rw [HO.out]; rfl) | rw [HO.out], by with_reducible repeat (first | exact Ext.refl _ | apply Ext.drew | apply Ext.alloc | apply Ext.more_)⟩
end Go.Proofs.YtmjmijjbijlhfaaGreatDoor
namespace Go.Proofs.YtmjmijjbijlhfaaGreatDoor
open Go.RowKit NM
theorem ordV_tri (a b : Val) : -1 ≤ ordV a b ∧ ordV a b ≤ 1 := by
  unfold ordV
  split
  · omega
  · split
    · omega
    · split
      · omega
      · rcases cmpV_tri a b with h | h | h <;> omega
/-- A value, as a variable holds it; a value stored into a variable. -/
abbrev valB (x : Val) : Obj := .cells #[.int .i64 x.kind, .int .i64 x.mant, .int .i64 x.exp, .string x.text, .bool x.truth, .int .i64 x.fault] 43
abbrev set6 (w : World) (b : Nat) (x : Val) : World := (((((w.setCell ⟨b, 0, none⟩ (.int .i64 x.kind)).setCell ⟨b, 1, none⟩ (.int .i64 x.mant)).setCell ⟨b, 2, none⟩ (.int .i64 x.exp)).setCell ⟨b, 3, none⟩ (.string x.text)).setCell ⟨b, 4, none⟩ (.bool x.truth)).setCell ⟨b, 5, none⟩ (.int .i64 x.fault)
theorem set6_heap {w : World} {b : Nat} {x : Val} {c0 c1 c2 c3 c4 c5 : Value} (h : w.heap[b]? = some (.cells #[c0, c1, c2, c3, c4, c5] 43)) : (set6 w b x).heap[b]? = some (valB x) := by
  have h0 := heap_setCell_same _ b 0 _ _ (.int .i64 x.kind) h
  have h1 := heap_setCell_same _ b 1 _ _ (.int .i64 x.mant) h0
  have h2 := heap_setCell_same _ b 2 _ _ (.int .i64 x.exp) h1
  have h3 := heap_setCell_same _ b 3 _ _ (.string x.text) h2
  have h4 := heap_setCell_same _ b 4 _ _ (.bool x.truth) h3
  have h5 := heap_setCell_same _ b 5 _ _ (.int .i64 x.fault) h4
  simpa using h5
theorem set6_other {w : World} {b q : Nat} {x : Val} (h : q ≠ b) : (set6 w b x).heap[q]? = w.heap[q]? := by
  unfold set6
  rw [Below.heap_setCell _ _ _ _ h, Below.heap_setCell _ _ _ _ h, Below.heap_setCell _ _ _ _ h, Below.heap_setCell _ _ _ _ h, Below.heap_setCell _ _ _ _ h, Below.heap_setCell _ _ _ _ h]
theorem set6_ext {W0 w : World} {b : Nat} {x : Val} (h : Ext W0 w) (hb : W0.heap.size ≤ b) : Ext W0 (set6 w b x) :=
  (((((Below.setCell h hb _).setCell hb _).setCell hb _).setCell hb _).setCell hb _).setCell hb _
set_option maxHeartbeats 4000000 in
theorem srt1_any (a : NA) (D : Option Addr) (n cap pa pb pw bb i j : Nat) (way : Int) (w : World) (hA : ArrIn w D n cap a.l) (ha : a.right) (hi : i < a.R) (hj : j < a.R) (c1 : w.cell? ⟨pa, 1, none⟩ = some (.int .i64 (a.C : Int))) (c2 : w.cell? ⟨pa, 2, none⟩ = some (.slice D n cap)) (c3 : w.cell? ⟨pb, 0, none⟩ = some (.int .i64 (bb : Int))) (c4 : w.cell? ⟨pw, 0, none⟩ = some (.int .i64 way)) (hb1 : 1 ≤ bb) (hb2 : bb ≤ a.C) (hw : way = 1 ∨ way = -1) :
    Calls Tryz.prog 97 #[.int .i64 (i : Int), .int .i64 (j : Int), .pointer (some ⟨pa, 0, none⟩), .pointer (some ⟨pb, 0, none⟩), .pointer (some ⟨pw, 0, none⟩)] w fun e w' => ∃ c : Int, e = .returned (.int .i64 c) ∧ decide (c < 0) = ltS a (bb - 1) (decide (way = -1)) i j ∧ Ext w w' := by
  obtain ⟨c, hc⟩ : ∃ c, bb - 1 = c := ⟨_, rfl⟩
  rw [hc]
  obtain ⟨r1, r2, r3, r4, r5⟩ := row_at ha hA hi (show c < a.C by omega)
  obtain ⟨s1, _, s3, _, s5⟩ := row_at ha hA hj (show c < a.C by omega)
  have hwf := (rightA_nat.1 ha).2.2.2.2
  obtain ⟨C, hC⟩ : ∃ C, a.C = C := ⟨_, rfl⟩
  obtain ⟨u, hu⟩ : ∃ u, i * C = u := ⟨_, rfl⟩
  obtain ⟨v, hv⟩ : ∃ v, j * C = v := ⟨_, rfl⟩
  obtain ⟨p, hp⟩ : ∃ p, u + c = p := ⟨_, rfl⟩
  obtain ⟨q, hq⟩ : ∃ q, v + c = q := ⟨_, rfl⟩
  rw [hC, hu] at r1 r3
  rw [hC, hv] at s1 s3
  rw [hp] at r1
  rw [hq] at s1
  rw [hC] at c1
  have e1 : IntKind.i64.wrap ((i : Int) * (C : Int)) = (u : Int) := by rw [← Int.natCast_mul, hu, IntKind.wrap_i64]; omega
  have e2 : IntKind.i64.wrap ((j : Int) * (C : Int)) = (v : Int) := by rw [← Int.natCast_mul, hv, IntKind.wrap_i64]; omega
  have e3 : IntKind.i64.wrap ((u : Int) + (bb : Int)) = (p : Int) + 1 := by rw [IntKind.wrap_i64]; omega
  have e4 : IntKind.i64.wrap ((v : Int) + (bb : Int)) = (q : Int) + 1 := by rw [IntKind.wrap_i64]; omega
  have e5 : IntKind.i64.wrap (p : Int) = (p : Int) := by rw [IntKind.wrap_i64]; omega
  have e6 : IntKind.i64.wrap (q : Int) = (q : Int) := by rw [IntKind.wrap_i64]; omega
  obtain ⟨x, b, off, hx, hxo, rfl, hxat⟩ := hA.at r1
  obtain ⟨x0, x1, x2, x3, x4, x5⟩ := hxat
  obtain ⟨y, b', off', hy, hyo, e, hyat⟩ := hA.at s1
  simp only [Option.some.injEq, Addr.mk.injEq, and_true] at e
  obtain ⟨rfl, rfl⟩ := e
  obtain ⟨y0, y1, y2, y3, y4, y5⟩ := hyat
  have hbl : b < w.heap.size := lt_of_cell x0
  have la := lt_of_cell c1
  have lb := lt_of_cell c3
  have lw := lt_of_cell c4
  have gx : getV a.l (i * a.C + c) = x := by rw [hC, hu, hp]; unfold getV; rw [hx]; rfl
  have gy : getV a.l (j * a.C + c) = y := by rw [hC, hv, hq]; unfold getV; rw [hy]; rfl
  have hxr : x.right := hwf x (List.mem_of_getElem? hx)
  have hyr : y.right := hwf y (List.mem_of_getElem? hy)
  have hs := ahead_sign (v := x) (w := y) hw
  have hlt : ltS a c (decide (way = -1)) i j = aheadB (decide (way = -1)) x y := by unfold ltS; rw [gx, gy]
  rw [hlt]
  obtain ⟨BB, hBB⟩ : ∃ BB, aheadB (decide (way = -1)) x y = BB := ⟨_, rfl⟩
  rw [hBB] at hs
  rw [hBB]
  have hord := fun W => vorder_any x y W hxr hyr
  obtain ⟨t1, t2⟩ := ordV_tri x y
  generalize ordV x y = z at *
  have hwz : IntKind.i64.wrap (z * way) = z * way := by
    rcases hw with rfl | rfl <;> (rw [IntKind.wrap_i64]; omega)
  have hcap := hA.cap
  have HS := Lib.hid hs
  clear hs hBB hlt gx gy hwf hx hy hxo hyo hu hv hC hc hA ha hi hj hp hq hxr hyr hb1 hb2 hw
  go_enter Tryz.func97, Tryz.ntmps97
  go_upto_region 1 with fail
  go_cut [8, 9] (fun s8 s9 wx => ∃ px py : Nat, s8 = .pointer (some ⟨px, 0, none⟩) ∧ s9 = .pointer (some ⟨py, 0, none⟩) ∧ Ext w wx ∧ (wx.cell? ⟨px, 0, none⟩ = some (.int .i64 x.kind) ∧ wx.cell? ⟨px, 1, none⟩ = some (.int .i64 x.mant) ∧ wx.cell? ⟨px, 2, none⟩ = some (.int .i64 x.exp) ∧ wx.cell? ⟨px, 3, none⟩ = some (.string x.text) ∧ wx.cell? ⟨px, 4, none⟩ = some (.bool x.truth) ∧ wx.cell? ⟨px, 5, none⟩ = some (.int .i64 x.fault)) ∧ wx.cell? ⟨py, 0, none⟩ = some (.int .i64 y.kind) ∧ wx.cell? ⟨py, 1, none⟩ = some (.int .i64 y.mant) ∧ wx.cell? ⟨py, 2, none⟩ = some (.int .i64 y.exp) ∧ wx.cell? ⟨py, 3, none⟩ = some (.string y.text) ∧ wx.cell? ⟨py, 4, none⟩ = some (.bool y.truth) ∧ wx.cell? ⟨py, 5, none⟩ = some (.int .i64 y.fault))
  case first =>
    refine wp_floatG [(0, 0), (1, 0), (2, 0), (3, 0), (4, 0), (5, 0), (6, 0), (7, 0), (8, 0), (9, 0), (10, 0), (11, 0), (12, 0), (13, 0), (14, 0), (15, 0), (16, 0), (17, 0), (18, 0), (19, 0), (20, 0), (21, 0), (22, 4), (23, 4), (23, 3), (22, 3), (24, 5)] [25] [25] [] (by kernel_rfl) (by kernel_rfl) (by kernel_rfl) (fun _ _ d _ _ h => by cases d <;> exact h) (fun _ _ d _ _ h => by cases d <;> exact h) ?_
    iterate 22 ((refine wpFg_read (v := ?_) rfl ?_ (fun w1 h1 => ?_) ?_; rotate_left 1; rfl; (obtain ⟨os1, d1, rfl⟩ := h1.more; go_simp; first | done | rfl)); try simp only [Act.put, zqA, zqB, zqC])
    (refine wpFg_launch (t := 8) (Obj.cells #[.int .i64 0, .int .i64 0, .int .i64 0, .string ⟨#[]⟩, .bool false, .int .i64 0] 43) ptrB rfl rfl rfl (fun w1 => ?_) ?_; (first | rfl | (simp [go_sem, ptrB]; done) | (go_simp; rfl)))
    (refine wpFg_launch (t := 9) (Obj.cells #[.int .i64 0, .int .i64 0, .int .i64 0, .string ⟨#[]⟩, .bool false, .int .i64 0] 43) ptrB rfl rfl rfl (fun w1 => ?_) ?_; (first | rfl | (simp [go_sem, ptrB]; done) | (go_simp; rfl)))
    refine wpFg_wait fun q1 g1 _ _ => ?_; refine ⟨fun W => W.heap[q1]? = some (Obj.cells #[.int .i64 0, .int .i64 0, .int .i64 0, .string ⟨#[]⟩, .bool false, .int .i64 0] 43), fun w1 w2 hx h => (hx.block (lt_of_block h)).trans h, fun W _ hE h1 => h1, ?_⟩
    try simp only [Act.put, zqA, zqB, zqC]
    refine wpFg_wait fun q2 g2 n2 _ => ?_; refine ⟨fun W => W.heap[q1]? = some (Obj.cells #[.int .i64 0, .int .i64 0, .int .i64 0, .string ⟨#[]⟩, .bool false, .int .i64 0] 43) ∧ W.heap[q2]? = some (Obj.cells #[.int .i64 0, .int .i64 0, .int .i64 0, .string ⟨#[]⟩, .bool false, .int .i64 0] 43), fun w1 w2 hx h => ⟨(hx.block (lt_of_block h.1)).trans h.1, (hx.block (lt_of_block h.2)).trans h.2⟩, fun W _ hE h1 => ⟨hE, h1⟩, ?_⟩
    try simp only [Act.put, zqA, zqB, zqC]
    (refine wpFg_store rfl ?_ (fun wf hXf hE K hK => ?_); rfl; obtain ⟨e1, e2⟩ := hE; (have u0 := cell_of_row _ _ 0 _ _ _ e2); (have u1 := cell_of_row _ _ 1 _ _ _ e2); (have u2 := cell_of_row _ _ 2 _ _ _ e2); (have u3 := cell_of_row _ _ 3 _ _ _ e2); (have u4 := cell_of_row _ _ 4 _ _ _ e2); (have u5 := cell_of_row _ _ 5 _ _ _ e2); (have v0 := frozen_of_row _ _ 0 _ _ e2); (have v1 := frozen_of_row _ _ 1 _ _ e2); (have v2 := frozen_of_row _ _ 2 _ _ e2); (have v3 := frozen_of_row _ _ 3 _ _ e2); (have v4 := frozen_of_row _ _ 4 _ _ e2); (have v5 := frozen_of_row _ _ 5 _ _ e2); (simp only [ptrB]); go_simp; refine hK _ _ (fun W => W.heap[q1]? = some (Obj.cells #[.int .i64 0, .int .i64 0, .int .i64 0, .string ⟨#[]⟩, .bool false, .int .i64 0] 43) ∧ W.heap[q2]? = some (valB x)) (set6_ext hXf g2) (by simp) (fun w1 w2 hx h => ⟨(hx.block (lt_of_block h.1)).trans h.1, (hx.block (lt_of_block h.2)).trans h.2⟩) ⟨(set6_other (fun e => n2 (by simp [e]))).trans e1, set6_heap e2⟩ ?_)
    try simp only [Act.put, zqA, zqB, zqC]
    refine wpFg_done fun wz hXz hE => ?_
    obtain ⟨e1, e2⟩ := hE; (have u0 := cell_of_row _ _ 0 _ _ _ e1); (have u1 := cell_of_row _ _ 1 _ _ _ e1); (have u2 := cell_of_row _ _ 2 _ _ _ e1); (have u3 := cell_of_row _ _ 3 _ _ _ e1); (have u4 := cell_of_row _ _ 4 _ _ _ e1); (have u5 := cell_of_row _ _ 5 _ _ _ e1); (have v0 := frozen_of_row _ _ 0 _ _ e1); (have v1 := frozen_of_row _ _ 1 _ _ e1); (have v2 := frozen_of_row _ _ 2 _ _ e1); (have v3 := frozen_of_row _ _ 3 _ _ e1); (have v4 := frozen_of_row _ _ 4 _ _ e1); (have v5 := frozen_of_row _ _ 5 _ _ e1); (have f1 := set6_heap (x := y) e1); (have f2 := (set6_other (x := y) (fun e => n2 (by simp [e]) : q2 ≠ q1)).trans e2); (have f3 : Ext w _ := Ext.trans (by with_reducible repeat (first | exact Ext.refl _ | apply Ext.drew | apply Ext.alloc | apply Ext.more_) : Ext w w.drew) (set6_ext (x := y) hXz g1)); (try simp only [ptrB])
    (refine wpTl_op rfl ?_ (fun K hK => ?_); rfl; go_simp; refine hK _ _ ?_)
    try simp only [Act.put, zqA, zqB, zqC]
    refine wpTl_nil ?_
    clear u0 u1 u2 u3 u4 u5 v0 v1 v2 v3 v4 v5 e1 e2
    go_wp2_with fail
    go_meet
    exact ⟨q2, q1, rfl, rfl, f3, ⟨cell_of_row _ _ 0 _ _ _ f2, cell_of_row _ _ 1 _ _ _ f2, cell_of_row _ _ 2 _ _ _ f2, cell_of_row _ _ 3 _ _ _ f2, cell_of_row _ _ 4 _ _ _ f2, cell_of_row _ _ 5 _ _ _ f2⟩, cell_of_row _ _ 0 _ _ _ f1, cell_of_row _ _ 1 _ _ _ f1, cell_of_row _ _ 2 _ _ _ f1, cell_of_row _ _ 3 _ _ _ f1, cell_of_row _ _ 4 _ _ _ f1, cell_of_row _ _ 5 _ _ _ f1⟩
  case rest =>
  obtain ⟨px, py, rfl, rfl, hx, ⟨k0, k1, k2, k3, k4, k5⟩, m0, m1, m2, m3, m4, m5⟩ := hcut
  have lx := lt_of_cell k0
  have ly := lt_of_cell m0
  replace c4 := hx.cell_some c4
  have lw := lt_of_cell c4
  clear x0 x1 x2 x3 x4 x5 y0 y1 y2 y3 y4 y5 c1 c2 c3 e1 e2 e3 e4 e5 e6
  by_cases q1 : x.kind = 0
  · have q1' : (x.kind == 0) = true := by simpa using q1
    have HO : Hid (decide (z < 0) = BB) := by show _ = _; rw [← HS.out, if_pos (Or.inl q1)]
    clear q1
    go_wp2_with (go_at_call 98; (with_reducible refine (hord _).mono ?_); rintro e w' ⟨rfl, hb⟩; obtain ⟨os1, d1, rfl⟩ := hb.more; clear hb)
    go_ret
    exact ⟨z, rfl, HO.out, hx.trans (by with_reducible repeat (first | exact Ext.refl _ | apply Ext.drew | apply Ext.alloc | apply Ext.more_))⟩
  · have q1' : (x.kind == 0) = false := by simpa using q1
    by_cases q2 : y.kind = 0
    · have q2' : (y.kind == 0) = true := by simpa using q2
      have HO : Hid (decide (z < 0) = BB) := by show _ = _; rw [← HS.out, if_pos (Or.inr q2)]
      clear q1 q2
      go_wp2_with (go_at_call 98; (with_reducible refine (hord _).mono ?_); rintro e w' ⟨rfl, hb⟩; obtain ⟨os1, d1, rfl⟩ := hb.more; clear hb)
      go_ret
      exact ⟨z, rfl, HO.out, hx.trans (by with_reducible repeat (first | exact Ext.refl _ | apply Ext.drew | apply Ext.alloc | apply Ext.more_))⟩
    · have q2' : (y.kind == 0) = false := by simpa using q2
      have HO : Hid (decide (z * way < 0) = BB) := by show _ = _; rw [← HS.out, if_neg (fun h => h.elim q1 q2)]
      clear q1 q2
      go_wp2_with (go_at_call 98; (with_reducible refine (hord _).mono ?_); rintro e w' ⟨rfl, hb⟩; obtain ⟨os1, d1, rfl⟩ := hb.more; clear hb)
      go_ret
      exact ⟨z * way, rfl, HO.out, hx.trans (by with_reducible repeat (first | exact Ext.refl _ | apply Ext.drew | apply Ext.alloc | apply Ext.more_))⟩
end Go.Proofs.YtmjmijjbijlhfaaGreatDoor
namespace Go.Proofs.YtmjmijjbijlhfaaGreatDoor
open Go.RowKit NM
set_option maxHeartbeats 8000000 in
theorem gsort_any (A : Option Addr) (n cap : Nat) (xs : List Ar) (w : World) (h : ArgsIn w A n cap xs) (h1 : 1 ≤ n) :
    Calls Tryz.prog 45 #[.slice A n cap] w fun e w' => ResA w (sortO xs) e w' := by
  obtain ⟨R, C, l, b1, off1, n1, cap1, b, off, x0, ha, rfl, ⟨v0, v1, v2⟩, _, hc1, _, _, _, hbl, _, _, _, harr, _⟩ := h.first h1
  have hxr : NA.right ⟨R, C, l⟩ := (h.all _ (List.mem_of_getElem? ha)).right
  have hcap := h.cap
  have hsm := h.small
  simp only [Nat.zero_mul, Nat.add_zero] at v0 v1 v2
  have hx0 : argN xs 0 = ⟨R, C, l⟩ := by unfold argN; rw [ha]
  obtain ⟨r1, r2, r3, r4, r5⟩ := rightA_nat.1 hxr
  simp only at r1 r2 r3 r4
  have hR4 : R ≤ 4096 := Nat.le_trans (Nat.le_mul_of_pos_right R r2) r3
  have hC4 : C ≤ 4096 := Nat.le_trans (Nat.le_mul_of_pos_left C r1) r3
  have n0 := fun W (hW : ArgsIn W (some ⟨b, off, none⟩) n cap xs) => gnumber_any _ n cap xs 1 1 W hW _ rfl
  have n2 := fun W (hW : ArgsIn W (some ⟨b, off, none⟩) n cap xs) => gnumber_any _ n cap xs 2 1 W hW _ rfl
  have i1 : I64 (numO xs 1 1).1 := numO_i64 h (by unfold I64; omega)
  have i2 : I64 (numO xs 2 1).1 := numO_i64 h (by unfold I64; omega)
  unfold sortO
  rw [hx0]
  generalize numO xs 1 1 = mm at *
  generalize numO xs 2 1 = kk at *
  obtain ⟨mi, mf⟩ := mm
  obtain ⟨ki, kf⟩ := kk
  simp only [show ((1 : Nat) : Int) = 1 from rfl, show ((2 : Nat) : Int) = 2 from rfl] at n0 n2
  have H := Lib.hid h
  have HA := Lib.hid harr
  clear h harr i1 i2 ha hx0 r4 r5
  obtain ⟨X, hX⟩ : ∃ X, sortT ⟨R, C, l⟩ (mi, mf) (ki, kf) = X := ⟨_, rfl⟩
  rw [hX]
  by_cases hmf : mf = 0
  · subst hmf
    by_cases hkf : kf = 0
    · subst hkf
      obtain ⟨bad, hbad⟩ : ∃ bad, decide (mi < 1 ∨ (C : Int) < mi ∨ (ki ≠ 1 ∧ ki ≠ -1)) = bad := ⟨_, rfl⟩
      have HX := Lib.hid hX
      have HB := Lib.hid hbad
      clear hX
      go_enter Tryz.func45, Tryz.ntmps45
      go_upto_region 8 with (first | (go_at_call 81; (with_reducible refine (n0 _ (H.out.ext (by with_reducible repeat (first | exact Ext.refl _ | apply Ext.drew | apply Ext.alloc | apply Ext.more_)))).mono ?_); rintro e w' ⟨rfl, hb⟩; obtain ⟨osa, da, rfl⟩ := hb.more; clear hb) | (go_at_call 81; (with_reducible refine (n2 _ (H.out.ext (by with_reducible repeat (first | exact Ext.refl _ | apply Ext.drew | apply Ext.alloc | apply Ext.more_)))).mono ?_); rintro e w' ⟨rfl, hb⟩; obtain ⟨osb, db, rfl⟩ := hb.more; clear hb))
      go_cut [3, 4, 6, 43] (fun s3 s4 s6 s43 wx => ∃ pa pb pw : Nat, s3 = .pointer (some ⟨pa, 0, none⟩) ∧ s4 = .pointer (some ⟨pb, 0, none⟩) ∧ s6 = .pointer (some ⟨pw, 0, none⟩) ∧ s43 = .bool bad ∧ Ext w wx ∧ w.heap.size + 1 ≤ wx.heap.size ∧ wx.cell? ⟨pa, 0, none⟩ = some (.int .i64 (R : Int)) ∧ wx.cell? ⟨pa, 1, none⟩ = some (.int .i64 (C : Int)) ∧ wx.cell? ⟨pa, 2, none⟩ = some (.slice (some ⟨b1, off1, none⟩) n1 cap1) ∧ wx.cell? ⟨pb, 0, none⟩ = some (.int .i64 mi) ∧ wx.cell? ⟨pw, 0, none⟩ = some (.int .i64 ki) ∧ Hid (∃ os d, wx = more (w.alloc (Obj.cells #[.int .i64 0, .int .i64 0, .slice none 0 0] 31)) os d))
      case first =>
        by_cases q1 : mi < 1
        · obtain rfl : true = bad := by rw [← hbad]; simp [q1]
          clear hbad
          (go_wp2_with fail; go_meet; refine ⟨_, _, _, rfl, rfl, rfl, rfl, by with_reducible repeat (first | exact Ext.refl _ | apply Ext.drew | apply Ext.alloc | apply Ext.more_), by simp; omega, ?_, ?_, ?_, ?_, ?_, (show Ext (w.alloc (Obj.cells #[.int .i64 0, .int .i64 0, .slice none 0 0] 31)) _ from (by with_reducible repeat (first | exact Ext.refl _ | apply Ext.drew | apply Ext.alloc | apply Ext.more_))).more⟩; all_goals (simp [go_sem]; done))
        · by_cases q2 : (C : Int) < mi
          · obtain rfl : true = bad := by rw [← hbad]; simp [q2]
            clear hbad
            (go_wp2_with fail; go_meet; refine ⟨_, _, _, rfl, rfl, rfl, rfl, by with_reducible repeat (first | exact Ext.refl _ | apply Ext.drew | apply Ext.alloc | apply Ext.more_), by simp; omega, ?_, ?_, ?_, ?_, ?_, (show Ext (w.alloc (Obj.cells #[.int .i64 0, .int .i64 0, .slice none 0 0] 31)) _ from (by with_reducible repeat (first | exact Ext.refl _ | apply Ext.drew | apply Ext.alloc | apply Ext.more_))).more⟩; all_goals (simp [go_sem]; done))
          · by_cases q3 : ki = 1
            · have q3' : (ki != 1) = false := by simpa using q3
              obtain rfl : false = bad := by rw [← hbad]; simp [q1, q2, q3]
              clear hbad q3
              (go_wp2_with fail; go_meet; refine ⟨_, _, _, rfl, rfl, rfl, rfl, by with_reducible repeat (first | exact Ext.refl _ | apply Ext.drew | apply Ext.alloc | apply Ext.more_), by simp; omega, ?_, ?_, ?_, ?_, ?_, (show Ext (w.alloc (Obj.cells #[.int .i64 0, .int .i64 0, .slice none 0 0] 31)) _ from (by with_reducible repeat (first | exact Ext.refl _ | apply Ext.drew | apply Ext.alloc | apply Ext.more_))).more⟩; all_goals (simp [go_sem]; done))
            · have q3' : (ki != 1) = true := by simpa using q3
              by_cases q4 : ki = -1
              · have q4' : (ki != -1) = false := by simpa using q4
                obtain rfl : false = bad := by rw [← hbad]; simp [q1, q2, q3, q4]
                clear hbad q3 q4
                (go_wp2_with fail; go_meet; refine ⟨_, _, _, rfl, rfl, rfl, rfl, by with_reducible repeat (first | exact Ext.refl _ | apply Ext.drew | apply Ext.alloc | apply Ext.more_), by simp; omega, ?_, ?_, ?_, ?_, ?_, (show Ext (w.alloc (Obj.cells #[.int .i64 0, .int .i64 0, .slice none 0 0] 31)) _ from (by with_reducible repeat (first | exact Ext.refl _ | apply Ext.drew | apply Ext.alloc | apply Ext.more_))).more⟩; all_goals (simp [go_sem]; done))
              · have q4' : (ki != -1) = true := by simpa using q4
                obtain rfl : true = bad := by rw [← hbad]; simp [q1, q2, q3, q4]
                clear hbad q3 q4
                (go_wp2_with fail; go_meet; refine ⟨_, _, _, rfl, rfl, rfl, rfl, by with_reducible repeat (first | exact Ext.refl _ | apply Ext.drew | apply Ext.alloc | apply Ext.more_), by simp; omega, ?_, ?_, ?_, ?_, ?_, (show Ext (w.alloc (Obj.cells #[.int .i64 0, .int .i64 0, .slice none 0 0] 31)) _ from (by with_reducible repeat (first | exact Ext.refl _ | apply Ext.drew | apply Ext.alloc | apply Ext.more_))).more⟩; all_goals (simp [go_sem]; done))
      case rest =>
      clear hbad v0 v1 v2 n0 n2
      obtain ⟨pa, pb, pw, rfl, rfl, rfl, rfl, hx, hsz, c0, c1, c2, c3, c4, HU⟩ := hcut
      have la := lt_of_cell c0
      have lb := lt_of_cell c3
      have lw := lt_of_cell c4
      cases bad with
      | true =>
        obtain rfl : aloneO 2 = X := by
          rw [← HX.out]; unfold sortT
          rw [if_neg (by simp), if_neg (by simp), if_pos]
          have := HB.out
          exact of_decide_eq_true this
        go_wp2_with ((go_at_call 29; (with_reducible refine (galone_any _ _).mono ?_); rintro e w' ⟨D, m, cc, rfl, hD, hb⟩; obtain ⟨os5, d5, rfl⟩ := hb.more; clear hb; have hDr := hD.rd); obtain ⟨osu, du, rfl⟩ := HU.out)
        exact bodyPost_ret (v := AV (aloneO 2).R (aloneO 2).C (.slice D m cc)) (by simp [results, Tryz.results45, go_sem]) rfl ⟨D, m, cc, rfl, ⟨(by (try simp only [more_alloc, more_more] at hDr); (try simp only [more_alloc, more_more]); (try simp only [drew_more] at hDr); (try simp only [more_drew] at hDr); (try simp only [Array.append_assoc] at hDr); (try simp only [Array.append_assoc]); exact Rd.swap hDr (by first | (simp; done) | (simp; omega) | omega) (by first | (simp; done) | (simp; omega) | omega) (by first | (simp; done) | (simp; omega) | omega)), hD.len, hD.cap, hD.small, hD.ok⟩, by with_reducible repeat (first | exact Ext.refl _ | apply Ext.drew | apply Ext.alloc | apply Ext.more_)⟩
      | false =>
        have hgood := of_decide_eq_false HB.out
        obtain ⟨bb, rfl⟩ : ∃ bb : Nat, mi = bb := ⟨mi.toNat, by omega⟩
        have hb1 : 1 ≤ bb := by omega
        have hb2 : bb ≤ C := by omega
        have hway : ki = 1 ∨ ki = -1 := by omega
        have hXe : rowsN ⟨R, C, l⟩ (sortN (ltS ⟨R, C, l⟩ (bb - 1) (decide (ki = -1))) R) = X := by
          rw [← HX.out]; unfold sortT
          rw [if_neg (by simp), if_neg (by simp), if_neg hgood]
          rfl
        have hsw : Swo (ltS ⟨R, C, l⟩ (bb - 1) (decide (ki = -1))) := ltS_swo (rightA_nat.1 hxr).2.2.2.2 _ _
        have hl : (sortN (ltS ⟨R, C, l⟩ (bb - 1) (decide (ki = -1))) R).length = R := sortN_length _ _
        have hPl : PlOk (sortN (ltS ⟨R, C, l⟩ (bb - 1) (decide (ki = -1))) R) R := ⟨by omega, by omega, sortN_lt hsw⟩
        have hio := fun W (hW : Ext wc W) => inOrder_any hsw 97 #[.pointer (some ⟨pa, 0, none⟩), .pointer (some ⟨pb, 0, none⟩), .pointer (some ⟨pw, 0, none⟩)] R W hR4 (fun args W => by go_simp)
          (fun i j W' hi hj hW' => srt1_any ⟨R, C, l⟩ (some ⟨b1, off1, none⟩) n1 cap1 pa pb pw bb i j ki W' (HA.out.ext (hx.trans (hW.trans hW'))) hxr hi hj ((hW.trans hW').cell_some c1) ((hW.trans hW').cell_some c2) ((hW.trans hW').cell_some c3) ((hW.trans hW').cell_some c4) hb1 hb2 hway)
        have hro := fun W B cb (hW : ArrIn W (some ⟨b1, off1, none⟩) n1 cap1 l) hB hcb => rowsOf_pl ⟨R, C, l⟩ _ n1 cap1 _ B cb W hW hxr hB hcb hPl
        rw [hXe, hl] at hro
        have HIO := Lib.hid hio
        have HRO := Lib.hid hro
        have HL := Lib.hid hl
        clear hio hro hl hPl hsw hXe hgood hway hb1 hb2 HX HB hxr
        go_upto_region 10 with fail
        refine wp_plan (S := Ext _) [(0, 0), (1, 0), (2, 0), (3, 0), (4, 1), (5, 1), (6, 2)] [6] (by kernel_rfl) (by kernel_rfl) (by kernel_rfl) (fun _ _ d _ _ h => by cases d <;> exact h) (Ext.drew (Ext.refl _)) ?_
        iterate 4 ((refine wpPl_read (v := ?_) rfl ?_ (fun _ h => ?_) ?_; rotate_left 1; rfl; (obtain ⟨_, _, rfl⟩ := h.more; go_simp; try rfl)); try simp only [Act.put, zqA, zqB, zqC])
        (refine wpPl_eff rfl ?_ (fun K hK => ?_); rfl; go_simp; refine (HIO.out _ (by with_reducible repeat (first | exact Ext.refl _ | apply Ext.drew | apply Ext.alloc | apply Ext.more_))).mono ?_; rintro e w' ⟨⟨B1, cb1, rfl, hB1⟩, hb⟩; have hB2 := Rd.mono (Dg.rd hB1) (Nat.zero_le _); have hcb1 := hB1.1; rw [HL.out] at hcb1; obtain ⟨os1, d1, rfl⟩ := hb.more; clear hb hB1; (try simp only [more_more, drew_more, more_drew, Array.append_assoc] at hB2); refine hK _ _ ?_ ?_; (repeat (first | (with_reducible (first | exact Ext.refl _ | exact ext_d _ _ _ _ | exact ext_app _ _ _ _ _ | exact ext_app2 _ _ _ _ _ _ | exact ext_app3 _ _ _ _ _ _ _ | exact ext_app4 _ _ _ _ _ _ _ _ | exact ext_app5 _ _ _ _ _ _ _ _ _)) | ((with_reducible refine ext_suffix ⟨_, ?_⟩); (try simp only [Array.append_assoc]); rfl) | (with_reducible (first | apply Ext.drew | apply Ext.alloc | apply Ext.more_)) | apply Ext.drew | apply Ext.alloc | apply Ext.more_)))
        try simp only [Act.put, zqA, zqB, zqC]
        (refine wpPl_eff rfl ?_ (fun K hK => ?_); rfl; go_simp; refine (HRO.out _ B1 cb1 (HA.out.ext (hx.trans (by with_reducible repeat (first | exact Ext.refl _ | apply Ext.drew | apply Ext.alloc | apply Ext.more_)))) hB2 hcb1).mono ?_; rintro e w' ⟨D, m, cc, rfl, hD, hb⟩; obtain ⟨os4, d4, rfl⟩ := hb.more; clear hb hB2; obtain ⟨osu, du, rfl⟩ := HU.out; have hDr := hD.rd; refine hK _ _ ?_ ?_; (repeat (first | (with_reducible (first | exact Ext.refl _ | exact ext_d _ _ _ _ | exact ext_app _ _ _ _ _ | exact ext_app2 _ _ _ _ _ _ | exact ext_app3 _ _ _ _ _ _ _ | exact ext_app4 _ _ _ _ _ _ _ _ | exact ext_app5 _ _ _ _ _ _ _ _ _)) | ((with_reducible refine ext_suffix ⟨_, ?_⟩); (try simp only [Array.append_assoc]); rfl) | (with_reducible (first | apply Ext.drew | apply Ext.alloc | apply Ext.more_)) | apply Ext.drew | apply Ext.alloc | apply Ext.more_)))
        try simp only [Act.put, zqA, zqB, zqC]
        (refine wpPl_tail rfl ?_ (fun K hK => ?_); rfl; go_simp; refine hK _ _ ?_)
        try simp only [Act.put]
        refine wpPl_nil ?_
        go_wp2_with fail
        exact bodyPost_ret (v := AV X.R X.C (.slice D m cc)) (by simp [results, Tryz.results45, go_sem]) rfl ⟨D, m, cc, rfl, ⟨(by (try simp only [more_alloc, more_more] at hDr); (try simp only [more_alloc, more_more]); (try simp only [drew_more] at hDr); (try simp only [more_drew] at hDr); (try simp only [Array.append_assoc] at hDr); (try simp only [Array.append_assoc]); exact Rd.swap hDr (by first | (simp; done) | (simp; omega) | omega) (by first | (simp; done) | (simp; omega) | omega) (by first | (simp; done) | (simp; omega) | omega)), hD.len, hD.cap, hD.small, hD.ok⟩, by with_reducible repeat (first | exact Ext.refl _ | apply Ext.drew | apply Ext.alloc | apply Ext.more_)⟩
    · obtain rfl : aloneO kf = X := by rw [← hX]; unfold sortT; rw [if_neg (by simp), if_pos hkf]
      have hf' : (kf != 0) = true := by simpa using hkf
      clear hX hkf
      go_enter Tryz.func45, Tryz.ntmps45
      go_wp2_with (first | (first | (go_at_call 81; (with_reducible refine (n0 _ (H.out.ext (by with_reducible repeat (first | exact Ext.refl _ | apply Ext.drew | apply Ext.alloc | apply Ext.more_)))).mono ?_); rintro e w' ⟨rfl, hb⟩; obtain ⟨osa, da, rfl⟩ := hb.more; clear hb) | (go_at_call 81; (with_reducible refine (n2 _ (H.out.ext (by with_reducible repeat (first | exact Ext.refl _ | apply Ext.drew | apply Ext.alloc | apply Ext.more_)))).mono ?_); rintro e w' ⟨rfl, hb⟩; obtain ⟨osb, db, rfl⟩ := hb.more; clear hb)) | (go_at_call 29; (with_reducible refine (galone_any _ _).mono ?_); rintro e w' ⟨D, m, cc, rfl, hD, hb⟩; obtain ⟨os5, d5, rfl⟩ := hb.more; clear hb; have hDr := hD.rd))
      exact bodyPost_ret (v := AV (aloneO kf).R (aloneO kf).C (.slice D m cc)) (by simp [results, Tryz.results45, go_sem]) rfl ⟨D, m, cc, rfl, ⟨(by (try simp only [more_alloc, more_more] at hDr); (try simp only [more_alloc, more_more]); (try simp only [drew_more] at hDr); (try simp only [more_drew] at hDr); (try simp only [Array.append_assoc] at hDr); (try simp only [Array.append_assoc]); exact Rd.swap hDr (by first | (simp; done) | (simp; omega) | omega) (by first | (simp; done) | (simp; omega) | omega) (by first | (simp; done) | (simp; omega) | omega)), hD.len, hD.cap, hD.small, hD.ok⟩, by with_reducible repeat (first | exact Ext.refl _ | apply Ext.drew | apply Ext.alloc | apply Ext.more_)⟩
  · obtain rfl : aloneO mf = X := by rw [← hX]; unfold sortT; rw [if_pos hmf]
    have hf' : (mf != 0) = true := by simpa using hmf
    clear hX hmf
    go_enter Tryz.func45, Tryz.ntmps45
    go_wp2_with (first | (go_at_call 81; (with_reducible refine (n0 _ (H.out.ext (by with_reducible repeat (first | exact Ext.refl _ | apply Ext.drew | apply Ext.alloc | apply Ext.more_)))).mono ?_); rintro e w' ⟨rfl, hb⟩; obtain ⟨osa, da, rfl⟩ := hb.more; clear hb) | (go_at_call 29; (with_reducible refine (galone_any _ _).mono ?_); rintro e w' ⟨D, m, cc, rfl, hD, hb⟩; obtain ⟨os5, d5, rfl⟩ := hb.more; clear hb; have hDr := hD.rd))
    exact bodyPost_ret (v := AV (aloneO mf).R (aloneO mf).C (.slice D m cc)) (by simp [results, Tryz.results45, go_sem]) rfl ⟨D, m, cc, rfl, ⟨(by (try simp only [more_alloc, more_more] at hDr); (try simp only [more_alloc, more_more]); (try simp only [drew_more] at hDr); (try simp only [more_drew] at hDr); (try simp only [Array.append_assoc] at hDr); (try simp only [Array.append_assoc]); exact Rd.swap hDr (by first | (simp; done) | (simp; omega) | omega) (by first | (simp; done) | (simp; omega) | omega) (by first | (simp; done) | (simp; omega) | omega)), hD.len, hD.cap, hD.small, hD.ok⟩, by with_reducible repeat (first | exact Ext.refl _ | apply Ext.drew | apply Ext.alloc | apply Ext.more_)⟩
end Go.Proofs.YtmjmijjbijlhfaaGreatDoor
namespace Go.Proofs.YtmjmijjbijlhfaaGreatDoor
open Go.RowKit NM
theorem pcall_sort (A : Option Addr) (n cap : Nat) (gs : List GA) (w : World) (h : ArgsG w A n cap gs) : Calls Tryz.prog 16 #[.string ⟨#[83, 79, 82, 84]⟩, .slice A n cap] w (CallG w (callX 1 3 gs (sortO (arsOf gs)))) :=
  gcall_any ⟨#[83, 79, 82, 84]⟩ 1 3 45 (fun _ _ => #[]) (by decide) (fun _ _ => rfl) (fun args W => by go_simp) (by decide) (by decide) A n cap gs w h _ (fun hr h1 _ p1 p2 W hW _ => gsort_any A n cap _ W ((arsOf_in h hr).ext hW) h1)
end Go.Proofs.YtmjmijjbijlhfaaGreatDoor
namespace Go.Proofs.YtmjmijjbijlhfaaGreatDoor
open Go.RowKit NM
theorem ltS_rows {a : NA} {ps : List Nat} (hl : a.l.length = a.R * a.C) (hp : ∀ r ∈ ps, r < a.R) {c : Nat} (hc : c < a.C) (down : Bool) {i j : Nat} (hi : i < ps.length) (hj : j < ps.length) :
    ltS (rowsN a ps) c down i j = ltS a c down (plc ps i) (plc ps j) := by
  unfold ltS
  show aheadB down (getV (rowsN a ps).l (i * a.C + c)) (getV (rowsN a ps).l (j * a.C + c)) = _
  rw [rowsN_l hl hp, getV_vals _ hi hc, getV_vals _ hj hc]
theorem sort_pair {lt : Nat → Nat → Bool} (h : Swo lt) {n i j : Nat} (hij : i < j) (hj : j < n) : Lx lt (plc (sortN lt n) i) (plc (sortN lt n) j) := by
  have hl := sortN_length lt n
  have hp := List.pairwise_iff_getElem.1 (sortN_spec h n).2 i j (by omega) (by omega) hij
  simpa [plc, show i < (sortN lt n).length by omega, show j < (sortN lt n).length by omega] using hp
theorem sort_again {a : NA} (ha : a.right) {c : Nat} (hc : c < a.C) (down : Bool) : sortN (ltS (rowsN a (sortN (ltS a c down) a.R)) c down) a.R = List.range a.R := by
  obtain ⟨r1, r2, r3, r4, r5⟩ := rightA_nat.1 ha
  have hs := ltS_swo r5 c down
  have hl := sortN_length (ltS a c down) a.R
  have hp : ∀ r ∈ sortN (ltS a c down) a.R, r < a.R := sortN_lt hs
  have hu : ∀ x ∈ (rowsN a (sortN (ltS a c down) a.R)).l, x.right := rowsN_all r4 hp r5
  refine (sortN_one (ltS_swo hu c down) (List.Perm.refl _) ?_).symm
  refine List.pairwise_iff_getElem.2 fun i j hi hj hij => ?_
  simp only [List.length_range] at hi hj
  simp only [List.getElem_range]
  have h1 := sort_pair hs hij hj
  unfold Lx at h1 ⊢
  rw [ltS_rows r4 hp hc down (by omega) (by omega), ltS_rows r4 hp hc down (by omega) (by omega)]
  rcases h1 with h1 | ⟨h1, _⟩
  · exact Or.inl h1
  · exact Or.inr ⟨h1, hij⟩
theorem sort_right {a : NA} (ha : a.right) (c : Nat) (down : Bool) : (rowsN a (sortN (ltS a c down) a.R)).right := by
  obtain ⟨r1, r2, r3, r4, r5⟩ := rightA_nat.1 ha
  have hl := sortN_length (ltS a c down) a.R
  exact rowsN_right ha (sortN_lt (ltS_swo r5 c down)) (by omega) (by omega)
theorem sort_twice {a : NA} (ha : a.right) {c : Nat} (hc : c < a.C) (down : Bool) :
    rowsN (rowsN a (sortN (ltS a c down) a.R)) (sortN (ltS (rowsN a (sortN (ltS a c down) a.R)) c down) (rowsN a (sortN (ltS a c down) a.R)).R) = rowsN a (sortN (ltS a c down) a.R) := by
  have hR : (rowsN a (sortN (ltS a c down) a.R)).R = a.R := sortN_length _ _
  rw [hR, sort_again ha hc down]
  have := rowsN_self (sort_right ha c down)
  rwa [hR] at this
theorem ahead_self (down : Bool) (x : Val) : aheadB down x x = false := by
  cases h : aheadB down x x
  · rfl
  · have := ahead_asym h; rw [h] at this; cases this
/-- A row like that one, from further up, was taken before. -/
theorem order_first {a : NA} (ha : a.right) {c : Nat} (hc : c < a.C) (down : Bool) {i j : Nat} (hi : i < a.R) (hj : j < plc (sortN (ltS a c down) a.R) i) (hrow : rowV a (plc (sortN (ltS a c down) a.R) i) = rowV a j) :
    ∃ t, t < i ∧ plc (sortN (ltS a c down) a.R) t = j := by
  obtain ⟨r1, r2, r3, r4, r5⟩ := rightA_nat.1 ha
  have hs := ltS_swo r5 c down
  have hl := sortN_length (ltS a c down) a.R
  have hpi : plc (sortN (ltS a c down) a.R) i < a.R := sortN_lt hs _ (plc_mem (by omega))
  have hv : getV a.l (plc (sortN (ltS a c down) a.R) i * a.C + c) = getV a.l (j * a.C + c) := by
    rw [← rowV_get a _ hc, ← rowV_get a _ hc, hrow]
  have h1 : Lx (ltS a c down) j (plc (sortN (ltS a c down) a.R) i) := by
    refine Or.inr ⟨?_, hj⟩
    show aheadB down (getV a.l (plc (sortN (ltS a c down) a.R) i * a.C + c)) (getV a.l (j * a.C + c)) = false
    rw [hv]
    exact ahead_self _ _
  have hm : j ∈ sortN (ltS a c down) a.R := (sortN_spec hs a.R).1.mem_iff.2 (List.mem_range.2 (by omega))
  obtain ⟨t, ht, htj⟩ := List.mem_iff_getElem.1 hm
  have htp : plc (sortN (ltS a c down) a.R) t = j := by simp [plc, ht, htj]
  refine ⟨t, ?_, htp⟩
  rcases Nat.lt_trichotomy t i with h | h | h
  · exact h
  · subst h; omega
  · have h2 := sort_pair hs h (show t < a.R by omega)
    rw [htp] at h2
    have := Lx.asymm hs h1 h2
    omega
theorem order_step {a : NA} (ha : a.right) (c : Nat) (down : Bool) {i : Nat} (hi : i + 1 < a.R) :
    ltS a c down (plc (sortN (ltS a c down) a.R) (i + 1)) (plc (sortN (ltS a c down) a.R) i) = false ∧ (ltS a c down (plc (sortN (ltS a c down) a.R) i) (plc (sortN (ltS a c down) a.R) (i + 1)) = true ∨ plc (sortN (ltS a c down) a.R) i < plc (sortN (ltS a c down) a.R) (i + 1)) := by
  have hs := ltS_swo (rightA_nat.1 ha).2.2.2.2 c down
  have h1 := sort_pair hs (show i < i + 1 by omega) hi
  refine ⟨Lx.le hs h1, ?_⟩
  rcases h1 with h | h
  · exact Or.inl h
  · exact Or.inr h.2
theorem order_new {a : NA} (ha : a.right) (c : Nat) (down : Bool) {i t : Nat} (ht : t < i) (hi : i < a.R) : plc (sortN (ltS a c down) a.R) t ≠ plc (sortN (ltS a c down) a.R) i := by
  have hs := ltS_swo (rightA_nat.1 ha).2.2.2.2 c down
  have hl := sortN_length (ltS a c down) a.R
  have hn : (sortN (ltS a c down) a.R).Nodup := (sortN_spec hs a.R).1.nodup_iff.2 List.nodup_range
  have hp := List.pairwise_iff_getElem.1 hn t i (by omega) (by omega) ht
  simpa [plc, show i < (sortN (ltS a c down) a.R).length by omega, show t < (sortN (ltS a c down) a.R).length by omega] using hp
end Go.Proofs.YtmjmijjbijlhfaaGreatDoor
namespace Go.Proofs.YtmjmijjbijlhfaaGreatDoor
open Go.RowKit NM
theorem num_of {xs : List Ar} {k : Nat} {n : Int} {D : Option Addr} {m c : Nat} (left : Int) (hk : xs[k]? = some (arAt (oneA (cntV n)) D m c)) (hn : n.natAbs < T 15) : numO xs k left = (n, 0) := by
  obtain ⟨g1, a1⟩ := given_one (y := cntV n) rfl D m c xs k hk
  unfold numO
  rw [if_pos g1, a1, whole_cnt hn]
end Go.Proofs.YtmjmijjbijlhfaaGreatDoor
namespace Go.Proofs.YtmjmijjbijlhfaaGreatDoor
open Go.RowKit NM
theorem BoxN.ext {W W' : World} {p : Nat} {x : NA} {D : Option Addr} {m c : Nat} (h : BoxN W p x D m c) (hx : Ext W W') : BoxN W' p x D m c :=
  ⟨by rw [hx.block (lt_of_block h.1)]; exact h.1, h.2.ext hx⟩
end Go.Proofs.YtmjmijjbijlhfaaGreatDoor
namespace Go.Proofs.YtmjmijjbijlhfaaGreatDoor
open Go.RowKit NM
def Bk (t : TypeId) (w : World) (b : Nat) (L : List Value) : Prop := w.heap[b]? = some (.cells L.toArray t (0, 0))
section
variable {t : TypeId} {w w' : World} {b b' i : Nat} {L : List Value} {v : Value}
theorem Bk.cell (h : Bk t w b L) (hi : L[i]? = some v) : w.cell? ⟨b, i, none⟩ = some v := by
  unfold World.cell?; unfold Bk at h; rw [h]; simpa using hi
theorem Bk.free (h : Bk t w b L) (i : Nat) : w.frozen? ⟨b, i, none⟩ = false := by
  unfold World.frozen?; unfold Bk at h; rw [h]; simp
theorem Bk.set (h : Bk t w b L) (i : Nat) (v : Value) : Bk t (w.setCell ⟨b, i, none⟩ v) b (L.set i v) := by
  unfold Bk at *; simp [World.setCell, Array.getElem?_modify, h]
theorem Bk.other (h : Bk t w b L) (hne : b' ≠ b) (i : Nat) (v : Value) : Bk t (w.setCell ⟨b', i, none⟩ v) b L := by
  unfold Bk at *; simp [World.setCell, Array.getElem?_modify, h, hne]
theorem Bk.ext (h : Bk t w b L) (hx : Ext w w') : Bk t w' b L := by
  unfold Bk at *; rw [hx.block (lt_block h)]; exact h
end
theorem map_range_set {α : Type} {f g : Nat → α} {R i : Nat} {v : α} (hi : g i = v) (h : ∀ t, t < R → t ≠ i → f t = g t) : ((List.range R).map f).set i v = (List.range R).map g := by
  refine List.ext_getElem? fun t => ?_
  rw [List.getElem?_set]
  by_cases hR : t < R
  · by_cases e : i = t
    · subst e; simp [hR, hi]
    · simp [e, hR, h t hR (Ne.symm e)]
  · simp [hR]
    intro e
    subst e
    omega
/-- Where row t of the sorted array comes from, of those that are found (below i); the one under way. -/
def atF (P : Nat → Nat) (i t : Nat) : Value := .int .i64 (if t < i then (P t : Int) else 0)
def atG (P : Nat → Nat) (i j t : Nat) : Value := .int .i64 (if t < i then (P t : Int) else if t = i then (if P i < j then (P i : Int) else -1) else 0)
def tkB (P : Nat → Nat) (i r : Nat) : Bool := (List.range i).any fun t => P t == r
def tkF (P : Nat → Nat) (i r : Nat) : Value := .bool (tkB P i r)
def tkG (P : Nat → Nat) (i j r : Nat) : Value := .bool (tkB P i r || (r == P i && decide (P i < j)))
theorem tkB_iff {P : Nat → Nat} {i r : Nat} : tkB P i r = true ↔ ∃ t, t < i ∧ P t = r := by
  unfold tkB; rw [List.any_eq_true]
  constructor
  · rintro ⟨t, ht, h⟩; exact ⟨t, List.mem_range.1 ht, by simpa using h⟩
  · rintro ⟨t, ht, h⟩; exact ⟨t, List.mem_range.2 ht, by simpa using h⟩
theorem tkB_succ {P : Nat → Nat} {i r : Nat} : tkB P (i + 1) r = (tkB P i r || r == P i) := by
  unfold tkB; rw [List.range_succ, List.any_append]; simp [Bool.beq_comm, eq_comm, beq_iff_eq, BEq.comm]
theorem atF_start (P : Nat → Nat) (R i : Nat) : ((List.range R).map (atF P i)).set i (.int .i64 (-1)) = (List.range R).map (atG P i 0) :=
  map_range_set (by simp [atG]) fun t _ h => by simp [atF, atG, h]
theorem atG_hit {P : Nat → Nat} {R i j : Nat} (h : P i = j) : ((List.range R).map (atG P i j)).set i (.int .i64 (j : Int)) = (List.range R).map (atG P i (j + 1)) :=
  map_range_set (by simp [atG, h]) fun t _ ht => by simp [atG, ht]
theorem atG_miss {P : Nat → Nat} {R i j : Nat} (h : P i ≠ j) : (List.range R).map (atG P i j) = (List.range R).map (atG P i (j + 1)) := by
  refine List.map_congr_left fun t _ => ?_
  have : (P i < j + 1) = (P i < j) := propext ⟨fun h => by omega, fun h => by omega⟩
  simp only [atG, this]
theorem atG_end {P : Nat → Nat} {R i : Nat} (h : P i < R) : (List.range R).map (atG P i R) = (List.range R).map (atF P (i + 1)) := by
  refine List.map_congr_left fun t _ => ?_
  unfold atG atF
  rw [if_pos h]
  by_cases h1 : t < i
  · rw [if_pos h1, if_pos (by omega)]
  · by_cases h2 : t = i
    · subst h2; rw [if_neg h1, if_pos rfl, if_pos (by omega)]
    · rw [if_neg h1, if_neg h2, if_neg (by omega)]
theorem tkF_start (P : Nat → Nat) (R i : Nat) : (List.range R).map (tkF P i) = (List.range R).map (tkG P i 0) :=
  List.map_congr_left fun r _ => by simp [tkF, tkG]
theorem tkG_hit {P : Nat → Nat} {R i j : Nat} (h : P i = j) : ((List.range R).map (tkG P i j)).set j (.bool true) = (List.range R).map (tkG P i (j + 1)) :=
  map_range_set (by simp [tkG, h]) fun t _ ht => by
    have h2 : (t == P i) = false := by rw [h]; simpa using ht
    simp only [tkG, h2, Bool.false_and]
theorem tkG_miss {P : Nat → Nat} {R i j : Nat} (h : P i ≠ j) : (List.range R).map (tkG P i j) = (List.range R).map (tkG P i (j + 1)) := by
  refine List.map_congr_left fun t _ => ?_
  have : (P i < j + 1) = (P i < j) := propext ⟨fun h => by omega, fun h => by omega⟩
  simp only [tkG, this]
theorem tkG_end {P : Nat → Nat} {R i : Nat} (h : P i < R) : (List.range R).map (tkG P i R) = (List.range R).map (tkF P (i + 1)) := by
  refine List.map_congr_left fun t _ => ?_
  simp [tkG, tkF, tkB_succ, h]
theorem zeros_at (P : Nat → Nat) (R : Nat) : List.replicate R (Value.int .i64 0) = (List.range R).map (atF P 0) := by
  refine (List.ext_getElem? fun t => ?_)
  by_cases h : t < R
  · simp [h, atF]
  · simp [h]
theorem zeros_tk (P : Nat → Nat) (R : Nat) : List.replicate R (Value.bool false) = (List.range R).map (tkF P 0) := by
  refine (List.ext_getElem? fun t => ?_)
  by_cases h : t < R
  · simp [h, tkF, tkB]
  · simp [h]
theorem mapr_get {α : Type} {f : Nat → α} {R i : Nat} (h : i < R) : ((List.range R).map f)[i]? = some (f i) := by simp [h]
theorem made_one (z : Value) (n : Nat) : madeCells #[z] n = (List.replicate n z).toArray := by
  apply Array.ext
  · simp [madeCells]
  · intro i h1 h2
    simp [madeCells, Nat.mod_one]
theorem info_bool_ : (Tryz.prog.info? 4).map (fun i => (i.zero, i.size, i.bytes)) = some (some (.bool false), 1, 1) := by kernel_rfl
theorem make_ints (n : Nat) (hn : n ≤ 100000) (W : World) : (Instr.makeSlice 37 (.int .i64 (n : Int)) (.int .i64 (n : Int))).run Tryz.prog W = .ok (.slice (some ⟨W.heap.size, 0, none⟩) n n) (W.alloc (.cells (madeCells #[.int .i64 0] n) 3)) := by
  obtain ⟨i0, hi, hz0, hz1, hz2⟩ := info_parts info_int_
  have := run_make (P := Tryz.prog) W 37 3 i0 _ Tryz.underlying37 hi hz0 .i64 .i64 (n : Int) (n : Int) (by omega) (by omega) (by rw [hz2]; omega) (by omega)
  simpa [hz1, Value.cells] using this
theorem make_bools (n : Nat) (hn : n ≤ 100000) (W : World) : (Instr.makeSlice 38 (.int .i64 (n : Int)) (.int .i64 (n : Int))).run Tryz.prog W = .ok (.slice (some ⟨W.heap.size, 0, none⟩) n n) (W.alloc (.cells (madeCells #[.bool false] n) 4)) := by
  obtain ⟨i0, hi, hz0, hz1, hz2⟩ := info_parts info_bool_
  have := run_make (P := Tryz.prog) W 38 4 i0 _ Tryz.underlying38 hi hz0 .i64 .i64 (n : Int) (n : Int) (by omega) (by omega) (by rw [hz2]; omega) (by omega)
  simpa [hz1, Value.cells] using this
theorem Bk.ints (P : Nat → Nat) {w : World} {q n : Nat} (h : w.heap[q]? = some (.cells (madeCells #[.int .i64 0] n) 3)) : Bk 3 w q ((List.range n).map (atF P 0)) := by
  unfold Bk; rw [h, made_one, zeros_at P]
theorem Bk.bools (P : Nat → Nat) {w : World} {q n : Nat} (h : w.heap[q]? = some (.cells (madeCells #[.bool false] n) 4)) : Bk 4 w q ((List.range n).map (tkF P 0)) := by
  unfold Bk; rw [h, made_one, zeros_tk P]
end Go.Proofs.YtmjmijjbijlhfaaGreatDoor
namespace Go.Proofs.YtmjmijjbijlhfaaGreatDoor
open Go.RowKit NM
/-- The first k places of two rows are alike. -/
def RowAl (a b : NA) (i j k : Nat) : Prop := ∀ t, t < k → getV a.l (i * a.C + t) = getV b.l (j * b.C + t)
def rowS (a : NA) (i : Nat) (b : NA) (j : Nat) : Bool := decide (((List.range a.C).map fun t => getV a.l (i * a.C + t)) = (List.range b.C).map fun t => getV b.l (j * b.C + t))
theorem rowS_iff {a b : NA} {i j : Nat} (hC : a.C = b.C) : rowS a i b j = true ↔ RowAl a b i j a.C := by
  unfold rowS RowAl
  rw [decide_eq_true_eq]
  constructor
  · intro h t ht
    have h9 := congrArg (fun l => l[t]?) h
    simp only [List.getElem?_map] at h9
    rw [List.getElem?_range ht, List.getElem?_range (by rw [← hC]; exact ht)] at h9
    simpa using h9
  · intro h
    have e : (List.range b.C).map (fun t => getV b.l (j * b.C + t)) = (List.range a.C).map fun t => getV b.l (j * b.C + t) := by rw [← hC]
    rw [e]
    exact List.map_congr_left fun t ht => h t (List.mem_range.1 ht)
set_option maxHeartbeats 2000000 in
theorem rowsSame_any (a b : NA) (A B : Option Addr) (n cap n' cap' i j : Nat) (w : World) (h : ArrIn w A n cap a.l) (h' : ArrIn w B n' cap' b.l) (ha : a.right) (hb : b.right) (hC : a.C = b.C) (hi : i < a.R) (hj : j < b.R) :
    Calls Tryz.prog 18 #[AV a.R a.C (.slice A n cap), .int .i64 (i : Int), AV b.R b.C (.slice B n' cap'), .int .i64 (j : Int)] w fun e w' => e = .returned (.bool (rowS a i b j)) ∧ Ext w w' := by
  have hneq := neq_val
  have hsm := h.small
  have hsm' := h'.small
  have hln := h.len
  have hln' := h'.len
  obtain ⟨a1, a2, a3, a4, a5⟩ := rightA_nat.1 ha
  obtain ⟨b1, b2, b3, b4, b5⟩ := rightA_nat.1 hb
  obtain ⟨R, hR⟩ : ∃ R, rowS a i b j = R := ⟨_, rfl⟩
  have HR : Hid ((R = true) = RowAl a b i j a.C) := by show _ = _; rw [← hR]; exact propext (rowS_iff hC)
  rw [hR]
  obtain ⟨C, hCe⟩ : ∃ C, a.C = C := ⟨_, rfl⟩
  obtain ⟨s, hs⟩ : ∃ s, i * C = s := ⟨_, rfl⟩
  obtain ⟨u, hu⟩ : ∃ u, j * C = u := ⟨_, rfl⟩
  have hsn : s + C ≤ n := by
    have := Nat.mul_le_mul_right C (show i + 1 ≤ a.R from hi)
    rw [Nat.add_mul, Nat.one_mul, hs] at this
    rw [← hln, a4, hCe]; exact this
  have hun : u + C ≤ n' := by
    have := Nat.mul_le_mul_right C (show j + 1 ≤ b.R from hj)
    rw [Nat.add_mul, Nat.one_mul, hu] at this
    rw [← hln', b4, ← hC, hCe]; exact this
  have e1 : IntKind.i64.wrap ((i : Int) * (C : Int)) = (s : Int) := by rw [← Int.natCast_mul, hs, IntKind.wrap_i64]; omega
  have e2 : IntKind.i64.wrap ((j : Int) * (C : Int)) = (u : Int) := by rw [← Int.natCast_mul, hu, IntKind.wrap_i64]; omega
  have HF : Hid (i * a.C = s ∧ j * b.C = u ∧ a.C = C) := ⟨by rw [hCe]; exact hs, by rw [← hC, hCe]; exact hu, hCe⟩
  rw [← hC]
  rw [hCe]
  obtain ⟨l, hl⟩ : ∃ l, a.l = l := ⟨_, rfl⟩
  obtain ⟨l', hl'⟩ : ∃ l', b.l = l' := ⟨_, rfl⟩
  obtain ⟨r, hr⟩ : ∃ r : Nat, a.R = r := ⟨_, rfl⟩
  obtain ⟨r', hr'⟩ : ∃ r' : Nat, b.R = r' := ⟨_, rfl⟩
  rw [hr, hr']
  rw [hl] at h
  rw [hl'] at h'
  have HL : Hid (a.l = l ∧ b.l = l') := ⟨hl, hl'⟩
  clear hR ha hb hC hi hj hln hln' a1 a2 a3 a4 a5 b1 b2 b3 b4 b5 hCe hs hu hl hl' hr hr'
  go_enter Tryz.func18, Tryz.ntmps18
  go_wp2
  go_loopw [12] (fun x wr => ∃ k : Nat, k ≤ C ∧ x = .int .i64 (k : Int) ∧ Ext ((w.alloc (Obj.cells #[.int .i64 (r : Int), .int .i64 (C : Int), .slice A n cap] 31)).alloc (Obj.cells #[.int .i64 (r' : Int), .int .i64 (C : Int), .slice B n' cap'] 31)) wr ∧ Hid (RowAl a b i j k)) (fun x _ => C - (intOf x).toNat)
  case atStart => exact ⟨0, Nat.zero_le _, rfl, Ext.refl _, fun t ht => absurd ht (Nat.not_lt_zero _)⟩
  case round =>
    obtain ⟨k, hk, rfl, hX, H⟩ := hrel
    obtain ⟨os, d, rfl⟩ := hX.more
    by_cases hlt : k < C
    · obtain ⟨p, hp⟩ : ∃ p, s + k = p := ⟨_, rfl⟩
      obtain ⟨q, hq⟩ : ∃ q, u + k = q := ⟨_, rfl⟩
      have e3 : IntKind.i64.wrap ((s : Int) + (k : Int)) = (p : Int) := by rw [IntKind.wrap_i64]; omega
      have e4 : IntKind.i64.wrap ((u : Int) + (k : Int)) = (q : Int) := by rw [IntKind.wrap_i64]; omega
      have hpn : p < n := by omega
      have hqn : q < n' := by omega
      have hlt' : (k : Int) < (C : Int) := by omega
      obtain ⟨x, bl, off, hx, hxo, rfl, hv⟩ := h.at hpn
      obtain ⟨v0, v1, v2, v3, v4, v5⟩ := hv
      have hbl : bl < w.heap.size := lt_of_cell v0
      obtain ⟨y, bl', off', hy, hyo, rfl, hv'⟩ := h'.at hqn
      obtain ⟨u0, u1, u2, u3, u4, u5⟩ := hv'
      have hbl' : bl' < w.heap.size := lt_of_cell u0
      have gx : getV a.l (i * a.C + k) = x := by rw [HL.out.1, HF.out.1, hp]; unfold getV; rw [hx]; rfl
      have gy : getV b.l (j * b.C + k) = y := by rw [HL.out.2, HF.out.2.1, hq]; unfold getV; rw [hy]; rfl
      by_cases hxy : x = y
      · have HK : Hid (RowAl a b i j (k + 1)) := fun t ht => by
          by_cases e : t = k
          · rw [e, gx, gy, hxy]
          · exact H.out t (by omega)
        have hxy' : eqV x y = true := by rw [hxy]; simp [eqV]
        clear gx gy hxy hx hxo hy hyo hp hq H
        go_wp2
        refine wp_plan (S := Ext _) [(0, 0), (1, 0), (2, 0), (3, 0), (4, 0), (5, 0), (6, 0), (7, 0), (8, 0), (9, 0), (10, 0), (11, 0), (12, 0), (13, 0), (14, 0), (15, 0), (16, 0), (17, 0), (18, 0), (19, 0), (20, 0)] [] (by kernel_rfl) (by kernel_rfl) (by kernel_rfl) (fun _ _ d _ _ h => by cases d <;> exact h) (Ext.drew (Ext.refl _)) ?_
        iterate 21 ((refine wpPl_read (v := ?_) rfl ?_ (fun _ h => ?_) ?_; rotate_left 1; rfl; (obtain ⟨_, _, rfl⟩ := h.more; go_simp; try rfl)); try simp only [Act.put, zqA, zqB, zqC])
        refine wpPl_nil ?_
        go_wp2
        exact ⟨⟨k + 1, by omega, by go_num, by repeat (first | exact Ext.refl _ | apply Ext.drew | apply Ext.alloc | apply Ext.more_), HK⟩, by simp [intOf]; omega⟩
      · have hxy' : eqV x y = false := by simpa [eqV] using hxy
        have hR2 : Hid (R = false) := by
          show _ = _
          rw [← Bool.not_eq_true, HR.out]
          intro h9
          have := h9 k (by rw [HF.out.2.2]; exact hlt)
          rw [gx, gy] at this
          exact hxy this
        clear gx gy hxy hx hxo hy hyo hp hq H
        go_wp2
        refine wp_plan (S := Ext _) [(0, 0), (1, 0), (2, 0), (3, 0), (4, 0), (5, 0), (6, 0), (7, 0), (8, 0), (9, 0), (10, 0), (11, 0), (12, 0), (13, 0), (14, 0), (15, 0), (16, 0), (17, 0), (18, 0), (19, 0), (20, 0)] [] (by kernel_rfl) (by kernel_rfl) (by kernel_rfl) (fun _ _ d _ _ h => by cases d <;> exact h) (Ext.drew (Ext.refl _)) ?_
        iterate 21 ((refine wpPl_read (v := ?_) rfl ?_ (fun _ h => ?_) ?_; rotate_left 1; rfl; (obtain ⟨_, _, rfl⟩ := h.more; go_simp; try rfl)); try simp only [Act.put, zqA, zqB, zqC])
        refine wpPl_nil ?_
        go_wp2
        go_ret
        exact ⟨ret_bool hR2.out.symm, by repeat (first | exact Ext.refl _ | apply Ext.drew | apply Ext.alloc | apply Ext.more_)⟩
    · have hR2 : Hid (R = true) := by
        show _ = _
        rw [HR.out, HF.out.2.2]
        obtain rfl : k = C := by omega
        exact H.out
      have hlt' : ¬ (k : Int) < (C : Int) := by omega
      clear H
      go_wp2
      go_ret
      exact ⟨ret_bool hR2.out.symm, by repeat (first | exact Ext.refl _ | apply Ext.drew | apply Ext.alloc | apply Ext.more_)⟩
end Go.Proofs.YtmjmijjbijlhfaaGreatDoor
namespace Go.Proofs.YtmjmijjbijlhfaaGreatDoor
open Go.RowKit NM
theorem arr_swap {Z : World} {o : Obj} (o' : Obj) {os : Array Obj} {d : Nat} {D : Option Addr} {m cp : Nat} {l : List Val} (h : ArrN (Z.alloc o).heap.size (more (Z.alloc o) os d) D m cp l) : ArrIn (more (Z.alloc o') os d) D m cp l := by
  refine ⟨fun j u hu => ?_, h.len, h.cap, h.small, h.ok⟩
  obtain ⟨b, off, rfl, hb, hc⟩ := h.rd j u hu
  refine ⟨b, off, rfl, Nat.zero_le _, ?_⟩
  rw [← hc]
  unfold World.cell?
  rw [heap_one Z o' o os d (by simpa using hb)]
theorem sort_args {a : NA} {A D1 D2 : Option Addr} {n cap m1 c1 m2 c2 kk : Nat} {wy : Int} (hk : kk < a.C) (hC : a.C ≤ 4096) (hw : wy = 1 ∨ wy = -1) :
    sortO [arAt a A n cap, arAt (oneA (cntV ((kk : Int) + 1))) D1 m1 c1, arAt (oneA (cntV wy)) D2 m2 c2] = rowsN a (sortN (ltS a kk (decide (wy = -1))) a.R) := by
  have hq : (((kk : Int) + 1)).natAbs < T 15 := t15 (by omega) (by omega)
  have hq2 : wy.natAbs < T 15 := by rcases hw with rfl | rfl <;> decide
  unfold sortO
  rw [num_of (k := 1) 1 rfl hq, num_of (k := 2) 1 rfl hq2]
  show sortT a ((kk : Int) + 1, 0) (wy, 0) = _
  unfold sortT
  rw [if_neg (by simp), if_neg (by simp), if_neg (by simp only; omega)]
  have : ((kk : Int) + 1).toNat - 1 = kk := by omega
  rw [this]
theorem call_sort {a : NA} {X : NA} {w : World} {P A D1 D2 : Option Addr} {n cap m1 c1 m2 c2 kk : Nat} {wy : Int} (hk : kk < a.C) (hC : a.C ≤ 4096) (hw : wy = 1 ∨ wy = -1) (hX : rowsN a (sortN (ltS a kk (decide (wy = -1))) a.R) = X)
    (h : ArgsIn w P 3 3 [arAt a A n cap, arAt (oneA (cntV ((kk : Int) + 1))) D1 m1 c1, arAt (oneA (cntV wy)) D2 m2 c2]) : Calls Tryz.prog 16 #[.string ⟨#[83, 79, 82, 84]⟩, .slice P 3 3] w (CallG w X) := by
  have hc := pcall_sort P 3 3 _ w h.toG
  rw [arsOf_toG, callX_in _ (by rw [h.len]; decide) (by rw [h.len]; decide) (fun a ha => (h.all a ha).right), sort_args hk hC hw, hX] at hc
  exact hc
set_option maxHeartbeats 0 in
theorem farrayOrder_any (r c : Int) (A : Option Addr) (n cap : Nat) (l : List Val) (by_ : Int) (down : Bool) (w : World) (htab : Tab w) (h : ArrIn w A n cap l) (hb0 : 0 ≤ by_) (hb1 : by_ ≤ 255) :
    Calls Tryz.prog 5 #[AV r c (.slice A n cap), .int .u8 by_, .bool down] w fun e w' => e = .returned (.bool true) ∧ Ext w w' := by
  have HT := Lib.hid htab
  have HA := Lib.hid h
  have hok := h.ok
  have hra := fun W (hW : ArrIn W A n cap l) => refRightA_any r c A n cap l W hW
  rw [← rightA_eq _ _ _ hok] at hra
  cases hr : rightA r c l with
  | false =>
    rw [hr] at hra
    clear htab h hok hr
    go_enter Tryz.func5, Tryz.ntmps5
    go_wp2_with (first | (go_at_call 9; (with_reducible refine (awake15_any _ (HT.out.ext (by with_reducible repeat (first | exact Ext.refl _ | apply Ext.drew | apply Ext.alloc | apply Ext.more_)))).mono ?_); rintro e w' ⟨rfl, hb⟩; obtain ⟨osw, dw, rfl⟩ := hb.more; clear hb) | (go_at_call 12; (refine (small15_any _ 1 1 _ _ (gargs_one (by simp) rfl (HA.out.ext (by with_reducible repeat (first | exact Ext.refl _ | apply Ext.drew | apply Ext.alloc | apply Ext.more_))))).mono ?_); rintro e w' ⟨s, rfl, hs, hb⟩; obtain ⟨oss, ds, rfl⟩ := hb.more; clear hb; rcases hs with rfl | rfl) | (go_at_call 14; refine (hra _ (HA.out.ext (by with_reducible repeat (first | exact Ext.refl _ | apply Ext.drew | apply Ext.alloc | apply Ext.more_)))).mono ?_; rintro e w' ⟨rfl, hb⟩; obtain ⟨osr, dr, rfl⟩ := hb.more; clear hb))
    all_goals
      go_ret
      exact ⟨rfl, by with_reducible repeat (first | exact Ext.refl _ | apply Ext.drew | apply Ext.alloc | apply Ext.more_)⟩
  | true =>
    obtain ⟨R, C, rfl, rfl⟩ := rightA_shape hr
    rw [hr] at hra
    have har : NA.right ⟨R, C, l⟩ := hr
    obtain ⟨r1, r2, r3, r4, r5⟩ := rightA_nat.1 har
    simp only at r1 r2 r3 r4
    have hln := h.len
    have hcap := h.cap
    have hsm := h.small
    obtain ⟨x0, b, off, _, _, hA0, _⟩ := h.at (k := 0) (by have := Nat.mul_pos r1 r2; omega)
    subst hA0
    clear htab h hok hr r5
    by_cases hR : R ≤ 60
    · have hR' : ¬ (60 : Int) < (R : Int) := by omega
      go_enter Tryz.func5, Tryz.ntmps5
      go_upto_region 5 with (first | (go_at_call 9; (with_reducible refine (awake15_any _ (HT.out.ext (by with_reducible repeat (first | exact Ext.refl _ | apply Ext.drew | apply Ext.alloc | apply Ext.more_)))).mono ?_); rintro e w' ⟨rfl, hb⟩; obtain ⟨osw, dw, rfl⟩ := hb.more; clear hb) | (go_at_call 12; (refine (small15_any _ 1 1 _ _ (gargs_one (by simp) rfl (HA.out.ext (by with_reducible repeat (first | exact Ext.refl _ | apply Ext.drew | apply Ext.alloc | apply Ext.more_))))).mono ?_); rintro e w' ⟨s, rfl, hs, hb⟩; obtain ⟨oss, ds, rfl⟩ := hb.more; clear hb; rcases hs with rfl | rfl) | (go_at_call 14; refine (hra _ (HA.out.ext (by with_reducible repeat (first | exact Ext.refl _ | apply Ext.drew | apply Ext.alloc | apply Ext.more_)))).mono ?_; rintro e w' ⟨rfl, hb⟩; obtain ⟨osr, dr, rfl⟩ := hb.more; clear hb))
      · go_ret
        exact ⟨rfl, by with_reducible repeat (first | exact Ext.refl _ | apply Ext.drew | apply Ext.alloc | apply Ext.more_)⟩
      · refine wp_world fun U hU => ?_
        have hx : Ext w U := by rw [hU]; exact (by with_reducible repeat (first | exact Ext.refl _ | apply Ext.drew | apply Ext.alloc | apply Ext.more_))
        have ba : BoxN U w.heap.size ⟨R, C, l⟩ (some ⟨b, off, none⟩) n cap := ⟨((show Ext (w.alloc (Obj.cells #[.int .i64 (R : Int), .int .i64 (C : Int), .slice (some ⟨b, off, none⟩) n cap] 31)) U by rw [hU]; exact (by with_reducible repeat (first | exact Ext.refl _ | apply Ext.drew | apply Ext.alloc | apply Ext.more_))).block (by simp)).trans (gheap_new _ _), HA.out.ext hx⟩
        clear hU hra
        obtain ⟨kk, hkk⟩ : ∃ kk : Nat, by_.tmod (C : Int) = (kk : Int) := ⟨(by_.tmod (C : Int)).toNat, by have := Int.tmod_nonneg (C : Int) hb0; omega⟩
        have hkC : kk < C := by have := Int.tmod_lt_of_pos by_ (show (0 : Int) < (C : Int) by omega); omega
        have hC4 : C ≤ 4096 := Nat.le_trans (Nat.le_mul_of_pos_left C r1) r3
        have wb : IntKind.i64.wrap by_ = by_ := by rw [IntKind.wrap_i64]; omega
        have wk : IntKind.i64.wrap (kk : Int) = (kk : Int) := by rw [IntKind.wrap_i64]; omega
        have wk1 : IntKind.i64.wrap ((kk : Int) + 1) = (kk : Int) + 1 := by rw [IntKind.wrap_i64]; omega
        have hC0 : ¬ (C : Int) = 0 := by omega
        have hC0' : ¬ C = 0 := by omega
        have hn1 := fun W => num15_any 1 W (by decide)
        have hnn := fun W => num15_any (-1) W (by decide)
        generalize w.heap.size = pa at *
        obtain ⟨e0, e1, e2, e3⟩ := ba.cells
        try simp only at e0 e1
        go_upto_region 7 with (go_at_call 15; (with_reducible refine (hn1 _).mono ?_); rintro e w' ⟨D1, m1, c1, rfl, hD1, hb⟩; obtain ⟨os1, d1, rfl⟩ := hb.more; clear hb; (try simp only [more_more, Array.append_assoc] at hD1))
        go_upto_if 41 with fail
        go_cut [2, 8, 41] (fun s2 s8 s41 wx => ∃ (pw : Nat) (Dw : Option Addr) (mw cw : Nat), s2 = .bool down ∧ s41 = .bool down ∧ s8 = .pointer (some ⟨pw, 0, none⟩) ∧ Ext U wx ∧ Hid (BoxN wx pw (oneA (cntV (if down then -1 else 1))) Dw mw cw))
        case first =>
          cases down with
          | true =>
            go_wp2_with (first | (go_at_call 15; (with_reducible refine (hnn _).mono ?_); rintro e w' ⟨D2, m2, c2, rfl, hD2, hb⟩; obtain ⟨os2, d2, rfl⟩ := hb.more; clear hb; (try simp only [more_more, Array.append_assoc] at hD2)))
            go_meet
            exact ⟨_, D2, m2, c2, rfl, rfl, rfl, by with_reducible repeat (first | exact Ext.refl _ | apply Ext.drew | apply Ext.alloc | apply Ext.more_), gvar_at U _ os1 os2 d1 d2, arr_swap _ hD2⟩
          | false =>
            go_wp2_with fail
            go_meet
            exact ⟨_, D1, m1, c1, rfl, rfl, rfl, by with_reducible repeat (first | exact Ext.refl _ | apply Ext.drew | apply Ext.alloc | apply Ext.more_), by have := gheap_new (more U os1 d1) (.cells #[.int .i64 ((oneA (cntV 1)).R : Int), .int .i64 ((oneA (cntV 1)).C : Int), .slice D1 m1 c1] 31); simpa using this, hD1.arr.ext ((Ext.refl _).alloc _)⟩
        case rest =>
        obtain ⟨pw, Dw, mw, cw, rfl, rfl, rfl, hy, BW⟩ := hcut
        obtain ⟨wy, hwy⟩ : ∃ wy : Int, (if down then -1 else 1) = wy := ⟨_, rfl⟩
        have hw1 : wy = 1 ∨ wy = -1 := by rw [← hwy]; cases down <;> simp
        have hwd : decide (wy = -1) = down := by rw [← hwy]; cases down <;> rfl
        rw [hwy] at BW
        obtain ⟨XS, hXS⟩ : ∃ X, rowsN ⟨R, C, l⟩ (sortN (ltS ⟨R, C, l⟩ kk down) R) = X := ⟨_, rfl⟩
        have hsr : XS.right := by rw [← hXS]; exact sort_right har kk down
        have hsR : XS.R = R := by rw [← hXS]; exact sortN_length _ _
        have hsC : XS.C = C := by rw [← hXS]; rfl
        have hst := sort_twice har (show kk < (⟨R, C, l⟩ : NA).C from hkC) down
        rw [hXS, hsR] at hst
        have h01 : ∀ W P D m c, ArgsIn W P 3 3 [arAt ⟨R, C, l⟩ (some ⟨b, off, none⟩) n cap, arAt (oneA (cntV ((kk : Int) + 1))) D m c, arAt (oneA (cntV wy)) Dw mw cw] → Calls Tryz.prog 16 #[.string ⟨#[83, 79, 82, 84]⟩, .slice P 3 3] W (CallG W XS) := fun W P D m c hh => call_sort hkC hC4 hw1 (by rw [hwd]; exact hXS) hh
        obtain ⟨RS, CS, L⟩ := XS
        obtain rfl : R = RS := hsR.symm
        obtain rfl : C = CS := hsC.symm
        have h02 : ∀ W P D m c Ds ms cs, ArgsIn W P 3 3 [arAt ⟨R, C, L⟩ Ds ms cs, arAt (oneA (cntV ((kk : Int) + 1))) D m c, arAt (oneA (cntV wy)) Dw mw cw] → Calls Tryz.prog 16 #[.string ⟨#[83, 79, 82, 84]⟩, .slice P 3 3] W (CallG W ⟨R, C, L⟩) := fun W P D m c Ds ms cs hh => call_sort hkC hC4 hw1 (by rw [hwd]; exact hst) hh
        have hk15 : ((kk : Int) + 1).natAbs < T 15 := t15 (by omega) (by omega)
        have hnum := fun W => num15_any ((kk : Int) + 1) W hk15
        have hyr := one_right_ (cnt_right15 hk15)
        have hwr : (oneA (cntV wy)).right := one_right_ (cnt_right15 (by rcases hw1 with rfl | rfl <;> decide))
        have HXS := Lib.hid hXS
        have HL4 := Lib.hid r4
        have HSM := Lib.hid hsm
        obtain ⟨V1, hV1⟩ : ∃ V, wc = V := ⟨_, rfl⟩
        have HC1 : Hid (ArrIn wc (some ⟨b, off, none⟩) n cap l) := ba.2.ext hy
        replace ba := ba.ext hy
        clear hXS hst hwy hwd hw1 hsR hsC hk15 hln hcap hsm r4 hn1 hnn hV1 wb
        obtain ⟨w0, w1, w2, w3⟩ := BW.out.cells
        clear e0 e1 e2 e3
        obtain ⟨e0, e1, e2, e3⟩ := ba.cells
        try simp only at e0 e1
        go_upto_region 9 with fail
        refine wp_float [(10, 9, (.cells #[.int .i64 0, .int .i64 0, .slice none 0 0] 31))] [(0, 0), (1, 0), (2, 0), (4, 0), (3, 1), (5, 1), (6, 1), (7, 0), (8, 0), (9, 2)] [11, 12] [11, 12] [9] (by kernel_rfl) (by kernel_rfl) (by kernel_rfl) (fun _ _ d _ _ h => by cases d <;> exact h) (fun _ _ d _ _ h => by cases d <;> exact h) (fun x hx o ho a w => by (obtain rfl := List.mem_singleton.1 hx); (obtain rfl := Option.some.inj ho); (first | rfl | (simp [go_sem, ptrB]; done) | (go_simp; rfl))) ?_
        iterate 4 ((refine wpFp_read (v := ?_) rfl ?_ (fun w1 h1 => ?_) ?_; rotate_left 1; rfl; (obtain ⟨os1, d1, rfl⟩ := h1.more; go_simp; first | done | rfl)); try simp only [Act.put, zqA, zqB, zqC])
        (refine wpFp_eff rfl ?_ (fun wf hXf hE K hK => ?_); rfl; obtain ⟨osf, df, rfl⟩ := hXf.more; go_simp; refine (hnum _).mono ?_; rintro e w' ⟨D1, m1, c1, rfl, hD1, hb⟩; refine hK _ _ (fun W => ArrIn W D1 m1 c1 (oneA (cntV ((kk : Int) + 1))).l) (by (try simp only [more_drew, more_more, Array.append_assoc]); exact hb) (fun _ _ hx h => h.ext hx) hD1.arr ?_)
        try simp only [Act.put, zqA, zqB, zqC]
        (refine wpFp_eff rfl ?_ (fun wf hXf hE K hK => ?_); rfl; obtain ⟨osf, df, rfl⟩ := hXf.more; go_simp; (try simp only [drew_more] at hE); generalize hq : wc.heap.size + osf.size = q; refine hK _ _ (fun W => ArgsIn W (some ⟨q, 0, none⟩) 3 3 [arAt ⟨R, C, l⟩ (some ⟨b, off, none⟩) n cap, arAt (oneA (cntV ((kk : Int) + 1))) D1 m1 c1, arAt (oneA (cntV wy)) Dw mw cw]) (by exact (Ext.refl _).alloc _) (fun _ _ hx h => h.ext hx) (by exact argsG_new [arAt ⟨R, C, l⟩ (some ⟨b, off, none⟩) n cap, arAt (oneA (cntV ((kk : Int) + 1))) D1 m1 c1, arAt (oneA (cntV wy)) Dw mw cw] (by rw [← hq]; simp) rfl rfl (by decide) (by intro a ha; simp only [List.mem_cons, List.not_mem_nil, or_false] at ha; rcases ha with rfl | rfl | rfl; exact ⟨HC1.out.ext (by with_reducible repeat (first | exact Ext.refl _ | apply Ext.drew | apply Ext.alloc | apply Ext.more_)), har⟩; exact ⟨ArrIn.ext hE (by with_reducible repeat (first | exact Ext.refl _ | apply Ext.drew | apply Ext.alloc | apply Ext.more_)), hyr⟩; exact ⟨BW.out.2.ext (by with_reducible repeat (first | exact Ext.refl _ | apply Ext.drew | apply Ext.alloc | apply Ext.more_)), hwr⟩)) ?_)
        try simp only [Act.put, zqA, zqB, zqC]
        (refine wpFp_eff rfl ?_ (fun wf hXf hE K hK => ?_); rfl; obtain ⟨osf, df, rfl⟩ := hXf.more; go_simp; refine (h01 _ _ _ _ _ hE).mono ?_; rintro e w' ⟨D2, m2, c2, rfl, hD2, hb⟩; refine hK _ _ (fun W => ArrIn W D2 m2 c2 (⟨R, C, L⟩ : NA).l) (by (try simp only [more_drew, more_more, Array.append_assoc]); exact hb) (fun _ _ hx h => h.ext hx) hD2.arr ?_)
        try simp only [Act.put, zqA, zqB, zqC]
        iterate 2 ((refine wpFp_read (v := ?_) rfl ?_ (fun w1 h1 => ?_) ?_; rotate_left 1; rfl; (obtain ⟨os1, d1, rfl⟩ := h1.more; go_simp; first | done | rfl)); try simp only [Act.put, zqA, zqB, zqC])
        (refine wpFp_pure (v := ?_) rfl ?_ (fun w1 => ?_) ?_; rotate_left 1; rfl; (go_simp; first | done | rfl))
        try simp only [Act.put, zqA, zqB, zqC]
        refine wpFp_one fun osa da osb db hE => ?_
        try simp only [Act.put, zqA, zqB, zqC]
        iterate 2 ((refine wpTl_op rfl ?_ (fun K hK => ?_); rfl; go_simp; refine hK _ _ ?_); try simp only [Act.put, zqA, zqB, zqC])
        refine wpTl_nil ?_
        simp only [drew_more] at hE
        have hbx : BoxN (more ((more wc osa da).alloc (.cells #[.int .i64 (R : Int), .int .i64 (C : Int), .slice D2 m2 c2] 31)) osb db) (wc.heap.size + osa.size) ⟨R, C, L⟩ D2 m2 c2 := ⟨gvar_at wc _ osa osb da db, ⟨rd_var (.int .i64 R) (.int .i64 C) (.slice D2 m2 c2) hE.rd, hE.len, hE.cap, hE.small, hE.ok⟩⟩
        obtain ⟨V2, hV⟩ : ∃ V, more ((more wc osa da).alloc (.cells #[.int .i64 (R : Int), .int .i64 (C : Int), .slice D2 m2 c2] 31)) osb db = V := ⟨_, rfl⟩
        rw [hV] at hbx ⊢
        have hxV : Ext wc V2 := by rw [← hV]; exact (by with_reducible repeat (first | exact Ext.refl _ | apply Ext.drew | apply Ext.alloc | apply Ext.more_))
        generalize wc.heap.size + osa.size = ps at *
        obtain ⟨Ds, ms, cs, bs⟩ : ∃ D m c, BoxN V2 ps ⟨R, C, L⟩ D m c := ⟨D2, m2, c2, hbx⟩
        have BW2 := Lib.hid (BW.out.ext hxV)
        replace ba := ba.ext hxV
        clear hV hbx hE BW HC1 w0 w1 w2 w3 e0 e1 e2 e3
        obtain ⟨w0, w1, w2, w3⟩ := BW2.out.cells
        obtain ⟨e0, e1, e2, e3⟩ := ba.cells
        obtain ⟨s0, s1, s2, s3⟩ := bs.cells
        try simp only at e0 e1 s0 s1
        go_upto_region 10 with fail
        refine wp_float [(10, 11, (.cells #[.int .i64 0, .int .i64 0, .slice none 0 0] 31))] [(0, 0), (1, 0), (2, 0), (4, 0), (3, 1), (5, 1), (6, 1), (7, 0), (8, 0), (9, 2)] [11, 12] [11, 12] [9] (by kernel_rfl) (by kernel_rfl) (by kernel_rfl) (fun _ _ d _ _ h => by cases d <;> exact h) (fun _ _ d _ _ h => by cases d <;> exact h) (fun x hx o ho a w => by (obtain rfl := List.mem_singleton.1 hx); (obtain rfl := Option.some.inj ho); (first | rfl | (simp [go_sem, ptrB]; done) | (go_simp; rfl))) ?_
        iterate 4 ((refine wpFp_read (v := ?_) rfl ?_ (fun w1 h1 => ?_) ?_; rotate_left 1; rfl; (obtain ⟨os1, d1, rfl⟩ := h1.more; go_simp; first | done | rfl)); try simp only [Act.put, zqA, zqB, zqC])
        (refine wpFp_eff rfl ?_ (fun wf hXf hE K hK => ?_); rfl; obtain ⟨osf, df, rfl⟩ := hXf.more; go_simp; refine (hnum _).mono ?_; rintro e w' ⟨D1, m1, c1, rfl, hD1, hb⟩; refine hK _ _ (fun W => ArrIn W D1 m1 c1 (oneA (cntV ((kk : Int) + 1))).l) (by (try simp only [more_drew, more_more, Array.append_assoc]); exact hb) (fun _ _ hx h => h.ext hx) hD1.arr ?_)
        try simp only [Act.put, zqA, zqB, zqC]
        (refine wpFp_eff rfl ?_ (fun wf hXf hE K hK => ?_); rfl; obtain ⟨osf, df, rfl⟩ := hXf.more; go_simp; (try simp only [drew_more] at hE); generalize hq : V2.heap.size + osf.size = q; refine hK _ _ (fun W => ArgsIn W (some ⟨q, 0, none⟩) 3 3 [arAt ⟨R, C, L⟩ Ds ms cs, arAt (oneA (cntV ((kk : Int) + 1))) D1 m1 c1, arAt (oneA (cntV wy)) Dw mw cw]) (by exact (Ext.refl _).alloc _) (fun _ _ hx h => h.ext hx) (by exact argsG_new [arAt ⟨R, C, L⟩ Ds ms cs, arAt (oneA (cntV ((kk : Int) + 1))) D1 m1 c1, arAt (oneA (cntV wy)) Dw mw cw] (by rw [← hq]; simp) rfl rfl (by decide) (by intro a ha; simp only [List.mem_cons, List.not_mem_nil, or_false] at ha; rcases ha with rfl | rfl | rfl; exact ⟨bs.2.ext (by with_reducible repeat (first | exact Ext.refl _ | apply Ext.drew | apply Ext.alloc | apply Ext.more_)), hsr⟩; exact ⟨ArrIn.ext hE (by with_reducible repeat (first | exact Ext.refl _ | apply Ext.drew | apply Ext.alloc | apply Ext.more_)), hyr⟩; exact ⟨BW2.out.2.ext (by with_reducible repeat (first | exact Ext.refl _ | apply Ext.drew | apply Ext.alloc | apply Ext.more_)), hwr⟩)) ?_)
        try simp only [Act.put, zqA, zqB, zqC]
        (refine wpFp_eff rfl ?_ (fun wf hXf hE K hK => ?_); rfl; obtain ⟨osf, df, rfl⟩ := hXf.more; go_simp; refine (h02 _ _ _ _ _ _ _ _ hE).mono ?_; rintro e w' ⟨D2, m2, c2, rfl, hD2, hb⟩; refine hK _ _ (fun W => ArrIn W D2 m2 c2 (⟨R, C, L⟩ : NA).l) (by (try simp only [more_drew, more_more, Array.append_assoc]); exact hb) (fun _ _ hx h => h.ext hx) hD2.arr ?_)
        try simp only [Act.put, zqA, zqB, zqC]
        iterate 2 ((refine wpFp_read (v := ?_) rfl ?_ (fun w1 h1 => ?_) ?_; rotate_left 1; rfl; (obtain ⟨os1, d1, rfl⟩ := h1.more; go_simp; first | done | rfl)); try simp only [Act.put, zqA, zqB, zqC])
        (refine wpFp_pure (v := ?_) rfl ?_ (fun w1 => ?_) ?_; rotate_left 1; rfl; (go_simp; first | done | rfl))
        try simp only [Act.put, zqA, zqB, zqC]
        refine wpFp_one fun osa da osb db hE => ?_
        try simp only [Act.put, zqA, zqB, zqC]
        iterate 2 ((refine wpTl_op rfl ?_ (fun K hK => ?_); rfl; go_simp; refine hK _ _ ?_); try simp only [Act.put, zqA, zqB, zqC])
        refine wpTl_nil ?_
        simp only [drew_more] at hE
        have hbx : BoxN (more ((more V2 osa da).alloc (.cells #[.int .i64 (R : Int), .int .i64 (C : Int), .slice D2 m2 c2] 31)) osb db) (V2.heap.size + osa.size) ⟨R, C, L⟩ D2 m2 c2 := ⟨gvar_at V2 _ osa osb da db, ⟨rd_var (.int .i64 R) (.int .i64 C) (.slice D2 m2 c2) hE.rd, hE.len, hE.cap, hE.small, hE.ok⟩⟩
        obtain ⟨V3, hV⟩ : ∃ V, more ((more V2 osa da).alloc (.cells #[.int .i64 (R : Int), .int .i64 (C : Int), .slice D2 m2 c2] 31)) osb db = V := ⟨_, rfl⟩
        rw [hV] at hbx ⊢
        have hxV3 : Ext V2 V3 := by rw [← hV]; exact (by with_reducible repeat (first | exact Ext.refl _ | apply Ext.drew | apply Ext.alloc | apply Ext.more_))
        generalize V2.heap.size + osa.size = pt at *
        obtain ⟨Dt, mt, ct, bt⟩ : ∃ D m c, BoxN V3 pt ⟨R, C, L⟩ D m c := ⟨D2, m2, c2, hbx⟩
        replace ba := ba.ext hxV3
        replace bs := bs.ext hxV3
        have hxw : Ext w V3 := hx.trans (hy.trans (hxV.trans hxV3))
        clear hV hbx hE BW2 w0 w1 w2 w3 e0 e1 e2 e3 s0 s1 s2 s3 h01 h02 hnum hxV hxV3 hy hx
        obtain ⟨e0, e1, e2, e3⟩ := ba.cells
        obtain ⟨s0, s1, s2, s3⟩ := bs.cells
        obtain ⟨t0, t1, t2, t3⟩ := bt.cells
        try simp only at e0 e1 s0 s1 t0 t1
        have hlS := bs.2.len
        have hlA := ba.2.len
        have hlr := (rightA_nat.1 hsr).2.2.2.1
        simp only at hlS hlA hlr
        obtain rfl : ms = n := by have := HL4.out; omega
        have hR0 : (0 : Int) ≤ (R : Int) := by omega
        have hsm := HSM.out
        go_upto_region 13 with (go_at_call 17; refine (same_any ⟨R, C, L⟩ _ _ _ _ _ _ _ (bs.2.ext (by with_reducible repeat (first | exact Ext.refl _ | apply Ext.drew | apply Ext.alloc | apply Ext.more_))) (bt.2.ext (by with_reducible repeat (first | exact Ext.refl _ | apply Ext.drew | apply Ext.alloc | apply Ext.more_)))).mono ?_; rintro e w' ⟨rfl, hb⟩; obtain ⟨oss, dss, rfl⟩ := hb.more; clear hb)
        refine wp_world fun V4 hV => ?_
        have hx4 : Ext V3 V4 := by rw [hV]; exact (by with_reducible repeat (first | exact Ext.refl _ | apply Ext.drew | apply Ext.alloc | apply Ext.more_))
        clear hV
        replace ba := ba.ext hx4
        replace bs := bs.ext hx4
        replace hxw := hxw.trans hx4
        clear hx4 bt t0 t1 t2 t3 e0 e1 e2 e3 s0 s1 s2 s3
        obtain ⟨e0, e1, e2, e3⟩ := ba.cells
        obtain ⟨s0, s1, s2, s3⟩ := bs.cells
        try simp only at e0 e1 s0 s1
        obtain ⟨P, hP⟩ : ∃ P : Nat → Nat, plc (sortN (ltS ⟨R, C, l⟩ kk down) R) = P := ⟨_, rfl⟩
        refine wp_floatG [(0, 0), (1, 0), (3, 0), (4, 0), (5, 4), (2, 4), (2, 3), (6, 0), (5, 3), (7, 0)] [] [] [] (by kernel_rfl) (by kernel_rfl) (by kernel_rfl) (fun _ _ d _ _ h => by cases d <;> exact h) (fun _ _ d _ _ h => by cases d <;> exact h) ?_
        iterate 4 ((refine wpFg_read (v := ?_) rfl ?_ (fun w1 h1 => ?_) ?_; rotate_left 1; rfl; (obtain ⟨os1, d1, rfl⟩ := h1.more; go_simp; first | done | rfl)); try simp only [Act.put, zqA, zqB, zqC])
        (refine wpFg_launch (t := 103) (.cells (madeCells #[.bool false] R) 4) (fun b => .slice (some ⟨b, 0, none⟩) R R) rfl rfl rfl (fun w1 => ?_) ?_; (have hmk := make_bools R (by omega) w1; go_simp; try rfl))
        (refine wpFg_launch (t := 100) (.cells (madeCells #[.int .i64 0] R) 3) (fun b => .slice (some ⟨b, 0, none⟩) R R) rfl rfl rfl (fun w1 => ?_) ?_; (have hmk := make_ints R (by omega) w1; go_simp; try rfl))
        refine wpFg_wait fun qa ga na _ => ?_; refine ⟨fun W => Bk 3 W qa ((List.range R).map (atF P 0)), fun _ _ hx h => h.ext hx, fun W _ _ h1 => Bk.ints P h1, ?_⟩
        try simp only [Act.put, zqA, zqB, zqC]
        (refine wpFg_read (v := ?_) rfl ?_ (fun w1 h1 => ?_) ?_; rotate_left 1; rfl; (obtain ⟨os1, d1, rfl⟩ := h1.more; go_simp; first | done | rfl))
        try simp only [Act.put, zqA, zqB, zqC]
        refine wpFg_wait fun qb gb nb _ => ?_; refine ⟨fun W => Bk 3 W qa ((List.range R).map (atF P 0)) ∧ Bk 4 W qb ((List.range R).map (tkF P 0)), fun _ _ hx h => ⟨h.1.ext hx, h.2.ext hx⟩, fun W _ hE h1 => ⟨hE, Bk.bools P h1⟩, ?_⟩
        try simp only [Act.put, zqA, zqB, zqC]
        (refine wpFg_read (v := ?_) rfl ?_ (fun w1 h1 => ?_) ?_; rotate_left 1; rfl; (obtain ⟨os1, d1, rfl⟩ := h1.more; go_simp; first | done | rfl))
        try simp only [Act.put, zqA, zqB, zqC]
        refine wpFg_done fun wz hXz hE => ?_
        refine wpTl_nil ?_
        have hqab : qa ≠ qb := fun e => nb (by simp [e])
        have hPR : ∀ t, t < R → P t < R := fun t ht => by rw [← hP]; exact sortN_lt (ltS_swo (rightA_nat.1 har).2.2.2.2 _ _) _ (plc_mem (by rw [sortN_length]; exact ht))
        have hPn : ∀ t i, t < i → i < R → P t ≠ P i := fun t i h1 h2 => by rw [← hP]; exact order_new har kk down h1 h2
        have hPf : ∀ i j, i < R → j < P i → rowV ⟨R, C, l⟩ (P i) = rowV ⟨R, C, l⟩ j → ∃ t, t < i ∧ P t = j := fun i j h1 h2 h3 => by rw [← hP] at h2 h3 ⊢; exact order_first har hkC down h1 h2 h3
        have hPs : ∀ i, i + 1 < R → ltS ⟨R, C, l⟩ kk down (P (i + 1)) (P i) = false ∧ (ltS ⟨R, C, l⟩ kk down (P i) (P (i + 1)) = true ∨ P i < P (i + 1)) := fun i h1 => by rw [← hP]; exact order_step har kk down h1
        have hrow : ∀ i, i < R → rowV ⟨R, C, L⟩ i = rowV ⟨R, C, l⟩ (P i) := fun i h1 => by
          rw [← HXS.out, ← hP]
          exact rowV_rowsN HL4.out (sortN_lt (ltS_swo (rightA_nat.1 har).2.2.2.2 _ _)) (by rw [sortN_length]; exact h1)
        have HP := Lib.hid (And.intro hPR (And.intro hPn (And.intro hPf (And.intro hPs hrow))))
        obtain ⟨E1, E2⟩ := hE
        have hxz : Ext V4 wz := Ext.trans (show Ext V4 V4.drew from (Ext.refl V4).drew) hXz
        clear hPR hPn hPf hPs hrow hP hXz na nb e0 e1 e2 e3 s0 s1 s2 s3
        have HE1 := Lib.hid E1
        have HE2 := Lib.hid E2
        clear E1 E2
        have hgaz : V4.heap.size ≤ qa := ga
        have hgbz : V4.heap.size ≤ qb := gb
        clear ga gb
        obtain ⟨e0, e1, e2, e3⟩ := (ba.ext hxz).cells
        obtain ⟨s0, s1, s2, s3⟩ := (bs.ext hxz).cells
        try simp only at e0 e1 s0 s1
        go_upto_region 15 with fail
        go_loopw [106] (fun x wr => ∃ i : Nat, i ≤ R ∧ x = .int .i64 (i : Int) ∧ Hid (Bk 3 wr qa ((List.range R).map (atF P i))) ∧ Hid (Bk 4 wr qb ((List.range R).map (tkF P i))) ∧ Ext V4 wr) (fun x _ => R - (intOf x).toNat)
        case atStart => exact ⟨0, Nat.zero_le _, rfl, HE1.out.ext (by with_reducible repeat (first | exact Ext.refl _ | apply Ext.drew | apply Ext.alloc | apply Ext.more_)), HE2.out.ext (by with_reducible repeat (first | exact Ext.refl _ | apply Ext.drew | apply Ext.alloc | apply Ext.more_)), hxz.trans (by with_reducible repeat (first | exact Ext.refl _ | apply Ext.drew | apply Ext.alloc | apply Ext.more_))⟩
        case round =>
          obtain ⟨i, hi, rfl, K1, K2, hxr⟩ := hrel
          clear e0 e1 e2 e3 s0 s1 s2 s3 HE1 HE2 hxz
          by_cases hlt : i < R
          · have hlt' : (i : Int) < (R : Int) := by omega
            have cc1 := K1.out.cell (mapr_get (f := atF P i) hlt)
            have cf1 := K1.out.free i
            have lq := lt_of_cell cc1
            obtain ⟨e0, e1, e2, e3⟩ := (ba.ext hxr).cells
            obtain ⟨s0, s1, s2, s3⟩ := (bs.ext hxr).cells
            try simp only at e0 e1 s0 s1
            simp only [atF] at cc1
            go_upto_region 18 with fail
            refine wp_world fun V5 hV5 => ?_
            have J1 : Hid (Bk 3 V5 qa ((List.range R).map (atG P i 0))) := by
              show Bk _ _ _ _
              rw [hV5, ← atF_start]
              exact (K1.out.set i _).ext (by with_reducible repeat (first | exact Ext.refl _ | apply Ext.drew | apply Ext.alloc | apply Ext.more_))
            have J2 : Hid (Bk 4 V5 qb ((List.range R).map (tkG P i 0))) := by
              show Bk _ _ _ _
              rw [hV5, ← tkF_start]
              exact (K2.out.other hqab i _).ext (by with_reducible repeat (first | exact Ext.refl _ | apply Ext.drew | apply Ext.alloc | apply Ext.more_))
            have hx5 : Ext V4 V5 := by rw [hV5]; exact Ext.trans (Below.setCell hxr hgaz (.int .i64 (-1))) (by with_reducible repeat (first | exact Ext.refl _ | apply Ext.drew | apply Ext.alloc | apply Ext.more_))
            clear hV5 K1 K2 hxr cc1 cf1 lq e0 e1 e2 e3 s0 s1 s2 s3
            obtain ⟨e0, e1, e2, e3⟩ := (ba.ext hx5).cells
            try simp only at e0 e1
            go_upto_region 19 with fail
            clear e0 e1 e2 e3
            go_loopw [114] (fun x w2 => ∃ j : Nat, j ≤ R ∧ x = .int .i64 (j : Int) ∧ Hid (Bk 3 w2 qa ((List.range R).map (atG P i j))) ∧ Hid (Bk 4 w2 qb ((List.range R).map (tkG P i j))) ∧ Ext V4 w2) (fun x _ => R - (intOf x).toNat)
            case atStart => exact ⟨0, Nat.zero_le _, rfl, J1.out.ext (by with_reducible repeat (first | exact Ext.refl _ | apply Ext.drew | apply Ext.alloc | apply Ext.more_)), J2.out.ext (by with_reducible repeat (first | exact Ext.refl _ | apply Ext.drew | apply Ext.alloc | apply Ext.more_)), hx5.trans (by with_reducible repeat (first | exact Ext.refl _ | apply Ext.drew | apply Ext.alloc | apply Ext.more_))⟩
            case round =>
              obtain ⟨j, hj, rfl, K1, K2, hxr⟩ := hrel
              clear J1 J2 hx5
              have ca := K1.out.cell (mapr_get (f := atG P i j) hlt)
              have caf := K1.out.free i
              have lqa := lt_of_cell ca
              obtain ⟨e0, e1, e2, e3⟩ := (ba.ext hxr).cells
              obtain ⟨s0, s1, s2, s3⟩ := (bs.ext hxr).cells
              try simp only at e0 e1 s0 s1
              by_cases hlj : j < R
              · have hlj' : (j : Int) < (R : Int) := by omega
                have ct := K2.out.cell (mapr_get (f := tkG P i j) hlj)
                have ctf := K2.out.free j
                have lqb := lt_of_cell ct
                have hnn1 : ¬ i < i := Nat.lt_irrefl _
                simp only [atG, if_neg hnn1, if_true] at ca
                unfold tkG at ct
                have hrs := fun W (hW : Ext wr W) => rowsSame_any ⟨R, C, L⟩ ⟨R, C, l⟩ Ds (some ⟨b, off, none⟩) ms cs ms cap i j W (bs.2.ext (hxr.trans hW)) (ba.2.ext (hxr.trans hW)) hsr har rfl hlt hlj
                have hrv : rowS ⟨R, C, L⟩ i ⟨R, C, l⟩ j = decide (rowV ⟨R, C, l⟩ (P i) = rowV ⟨R, C, l⟩ j) := by
                  show decide (rowV ⟨R, C, L⟩ i = rowV ⟨R, C, l⟩ j) = _
                  rw [HP.out.2.2.2.2 i hlt]
                rw [hrv] at hrs
                have HRV := Lib.hid (show rowV ⟨R, C, l⟩ (P i) = rowV ⟨R, C, l⟩ j → j < P i → tkB P i j = true from fun h1 h2 => by
                  obtain ⟨t, h3, h4⟩ := HP.out.2.2.1 i j hlt h2 h1
                  exact tkB_iff.2 ⟨t, h3, h4⟩)
                have HTN := Lib.hid (show P i = j → tkB P i j = false from fun h1 => by
                  rw [← Bool.not_eq_true, tkB_iff]
                  rintro ⟨t, h2, h3⟩
                  exact HP.out.2.1 t i h2 hlt (by rw [h3, h1]))
                clear hrv
                rcases Nat.lt_trichotomy (P i) j with hpj | hpj | hpj
                · have hne : P i ≠ j := by omega
                  have hne2 : (j == P i) = false := by simpa using (Ne.symm hne)
                  have hpn : ¬ ((P i : Nat) : Int) < 0 := by omega
                  rw [if_pos hpj] at ca
                  rw [hne2, Bool.false_and, Bool.or_false] at ct
                  clear hpj hrs
                  have HN := Lib.hid hne
                  clear hne hne2
                  generalize hpi : P i = pi at ca hpn
                  clear hpi
                  cases tb : tkB P i j with
                  | true =>
                    rw [tb] at ct
                    clear tb
                    go_wp2_with fail
                    exact ⟨⟨j + 1, by omega, by go_num, by show Bk _ _ _ _; rw [← atG_miss HN.out]; exact K1.out.ext (by with_reducible repeat (first | exact Ext.refl _ | apply Ext.drew | apply Ext.alloc | apply Ext.more_)), by show Bk _ _ _ _; rw [← tkG_miss HN.out]; exact K2.out.ext (by with_reducible repeat (first | exact Ext.refl _ | apply Ext.drew | apply Ext.alloc | apply Ext.more_)), hxr.trans (by with_reducible repeat (first | exact Ext.refl _ | apply Ext.drew | apply Ext.alloc | apply Ext.more_))⟩, by simp [intOf]; omega⟩
                  | false =>
                    rw [tb] at ct
                    clear tb
                    go_wp2_with fail
                    exact ⟨⟨j + 1, by omega, by go_num, by show Bk _ _ _ _; rw [← atG_miss HN.out]; exact K1.out.ext (by with_reducible repeat (first | exact Ext.refl _ | apply Ext.drew | apply Ext.alloc | apply Ext.more_)), by show Bk _ _ _ _; rw [← tkG_miss HN.out]; exact K2.out.ext (by with_reducible repeat (first | exact Ext.refl _ | apply Ext.drew | apply Ext.alloc | apply Ext.more_)), hxr.trans (by with_reducible repeat (first | exact Ext.refl _ | apply Ext.drew | apply Ext.alloc | apply Ext.more_))⟩, by simp [intOf]; omega⟩
                · have htb := HTN.out hpj
                  rw [if_neg (by omega)] at ca
                  have htv : (tkB P i j || (j == P i && decide (P i < j))) = false := by rw [htb]; simp [hpj]
                  rw [htv] at ct
                  have hdc : decide (rowV ⟨R, C, l⟩ (P i) = rowV ⟨R, C, l⟩ j) = true := by rw [hpj]; simp
                  rw [hdc] at hrs
                  have HPJ := Lib.hid hpj
                  clear htb htv hdc hpj
                  go_upto_region 22 with (go_at_call 18; refine (hrs _ (by with_reducible repeat (first | exact Ext.refl _ | apply Ext.drew | apply Ext.alloc | apply Ext.more_))).mono ?_; rintro e w' ⟨rfl, hb⟩; obtain ⟨oss, dss, rfl⟩ := hb.more; clear hb)
                  refine wp_world fun V6 hV6 => ?_
                  have K1' := Lib.hid (K1.out.ext (show Ext wr V6 by rw [hV6]; exact (by with_reducible repeat (first | exact Ext.refl _ | apply Ext.drew | apply Ext.alloc | apply Ext.more_))))
                  have K2' := Lib.hid (K2.out.ext (show Ext wr V6 by rw [hV6]; exact (by with_reducible repeat (first | exact Ext.refl _ | apply Ext.drew | apply Ext.alloc | apply Ext.more_))))
                  have hx6 : Ext V4 V6 := by rw [hV6]; exact hxr.trans (by with_reducible repeat (first | exact Ext.refl _ | apply Ext.drew | apply Ext.alloc | apply Ext.more_))
                  clear hV6 K1 K2 ca caf lqa ct ctf lqb e0 e1 e2 e3 s0 s1 s2 s3 hrs hxr
                  have ca := K1'.out.cell (mapr_get (f := atG P i j) hlt)
                  have caf := K1'.out.free i
                  have lqa := lt_of_cell ca
                  have ct := K2'.out.cell (mapr_get (f := tkG P i j) hlj)
                  have ctf := K2'.out.free j
                  have lqb := lt_of_cell ct
                  have hqba : qb ≠ qa := hqab.symm
                  generalize atG P i j i = av at ca
                  generalize tkG P i j j = tv at ct
                  go_wp2_with fail
                  exact ⟨⟨j + 1, by omega, by go_num, by show Bk _ _ _ _; rw [← atG_hit HPJ.out]; exact (K1'.out.set i _).other hqba _ _, by show Bk _ _ _ _; rw [← tkG_hit HPJ.out]; exact (K2'.out.other hqab _ _).set j _, Below.setCell (Below.setCell hx6 hgaz _) hgbz _⟩, by simp [intOf]; omega⟩
                · have hne : P i ≠ j := by omega
                  rw [if_neg (by omega)] at ca
                  have htv : (tkB P i j || (j == P i && decide (P i < j))) = tkB P i j := by rw [show (decide (P i < j)) = false by simpa using (by omega : j ≤ P i)]; simp
                  rw [htv] at ct
                  have HN := Lib.hid hne
                  have HJ := Lib.hid hpj
                  clear hne htv hpj
                  cases tb : tkB P i j with
                  | true =>
                    rw [tb] at ct
                    clear tb hrs
                    go_wp2_with fail
                    exact ⟨⟨j + 1, by omega, by go_num, by show Bk _ _ _ _; rw [← atG_miss HN.out]; exact K1.out.ext (by with_reducible repeat (first | exact Ext.refl _ | apply Ext.drew | apply Ext.alloc | apply Ext.more_)), by show Bk _ _ _ _; rw [← tkG_miss HN.out]; exact K2.out.ext (by with_reducible repeat (first | exact Ext.refl _ | apply Ext.drew | apply Ext.alloc | apply Ext.more_)), hxr.trans (by with_reducible repeat (first | exact Ext.refl _ | apply Ext.drew | apply Ext.alloc | apply Ext.more_))⟩, by simp [intOf]; omega⟩
                  | false =>
                    rw [tb] at ct
                    have hdc : decide (rowV ⟨R, C, l⟩ (P i) = rowV ⟨R, C, l⟩ j) = false := decide_eq_false fun h9 => by have := HRV.out h9 HJ.out; rw [tb] at this; cases this
                    rw [hdc] at hrs
                    clear tb hdc
                    go_wp2_with (go_at_call 18; refine (hrs _ (by with_reducible repeat (first | exact Ext.refl _ | apply Ext.drew | apply Ext.alloc | apply Ext.more_))).mono ?_; rintro e w' ⟨rfl, hb⟩; obtain ⟨oss, dss, rfl⟩ := hb.more; clear hb)
                    exact ⟨⟨j + 1, by omega, by go_num, by show Bk _ _ _ _; rw [← atG_miss HN.out]; exact K1.out.ext (by with_reducible repeat (first | exact Ext.refl _ | apply Ext.drew | apply Ext.alloc | apply Ext.more_)), by show Bk _ _ _ _; rw [← tkG_miss HN.out]; exact K2.out.ext (by with_reducible repeat (first | exact Ext.refl _ | apply Ext.drew | apply Ext.alloc | apply Ext.more_)), hxr.trans (by with_reducible repeat (first | exact Ext.refl _ | apply Ext.drew | apply Ext.alloc | apply Ext.more_))⟩, by simp [intOf]; omega⟩
              · have hjR : j = R := by omega
                have hpR := HP.out.1 i hlt
                have hlj' : ¬ (j : Int) < (R : Int) := by omega
                have K3 : Hid (Bk 3 wr qa ((List.range R).map (atF P (i + 1)))) := by
                  have h9 := K1.out
                  rw [hjR, atG_end hpR] at h9
                  exact h9
                have K4 : Hid (Bk 4 wr qb ((List.range R).map (tkF P (i + 1)))) := by
                  have h9 := K2.out
                  rw [hjR, tkG_end hpR] at h9
                  exact h9
                clear K1 K2 ca caf hlj
                have ca := K3.out.cell (mapr_get (f := atF P (i + 1)) hlt)
                simp only [atF, show i < i + 1 from Nat.lt_succ_self i, if_true] at ca
                have hpn : ¬ ((P i : Nat) : Int) < 0 := by omega
                by_cases hi0 : i = 0
                · clear hjR hpR hpn
                  subst hi0
                  have hpn : ¬ ((P 0 : Nat) : Int) < 0 := by omega
                  go_wp2_with fail
                  exact ⟨⟨0 + 1, by omega, by go_num, K3.out.ext (by with_reducible repeat (first | exact Ext.refl _ | apply Ext.drew | apply Ext.alloc | apply Ext.more_)), K4.out.ext (by with_reducible repeat (first | exact Ext.refl _ | apply Ext.drew | apply Ext.alloc | apply Ext.more_)), hxr.trans (by with_reducible repeat (first | exact Ext.refl _ | apply Ext.drew | apply Ext.alloc | apply Ext.more_))⟩, by simp [intOf]; omega⟩
                · have hi0' : 0 < i := by omega
                  obtain ⟨i', hii⟩ : ∃ i', i - 1 = i' := ⟨_, rfl⟩
                  have hi' : i' < R := by omega
                  have hii1 : i' + 1 = i := by omega
                  have cb := K3.out.cell (mapr_get (f := atF P (i + 1)) hi')
                  simp only [atF, show i' < i + 1 by omega, if_true] at cb
                  obtain ⟨t1, t2, t3, t4, t5⟩ := row_at hsr bs.2 hi' hkC
                  obtain ⟨z1, z2, z3, z4, z5⟩ := row_at hsr bs.2 hlt hkC
                  simp only at t1 t3 z1 z3
                  have ei : IntKind.i64.wrap ((i : Int) - 1) = (i' : Int) := by rw [IntKind.wrap_i64]; omega
                  obtain ⟨u, hu⟩ : ∃ u, i' * C = u := ⟨_, rfl⟩
                  obtain ⟨v, hv⟩ : ∃ v, i * C = v := ⟨_, rfl⟩
                  obtain ⟨p, hp⟩ : ∃ p, u + kk = p := ⟨_, rfl⟩
                  obtain ⟨q, hq⟩ : ∃ q, v + kk = q := ⟨_, rfl⟩
                  have eu : IntKind.i64.wrap ((i' : Int) * (C : Int)) = (u : Int) := by rw [← Int.natCast_mul, hu, IntKind.wrap_i64]; omega
                  have ev : IntKind.i64.wrap ((i : Int) * (C : Int)) = (v : Int) := by rw [← Int.natCast_mul, hv, IntKind.wrap_i64]; omega
                  have ep : IntKind.i64.wrap ((u : Int) + (kk : Int)) = (p : Int) := by rw [IntKind.wrap_i64]; omega
                  have eq_ : IntKind.i64.wrap ((v : Int) + (kk : Int)) = (q : Int) := by rw [IntKind.wrap_i64]; omega
                  rw [hu, hp] at t1
                  rw [hv, hq] at z1
                  obtain ⟨x, bL, oL, hxk, _, hDs, hxat⟩ := (bs.2.ext hxr).at t1
                  obtain ⟨y, bL', oL', hyk, _, hDs', hyat⟩ := (bs.2.ext hxr).at z1
                  rw [hDs] at hDs'
                  simp only [Option.some.injEq, Addr.mk.injEq, and_true] at hDs'
                  obtain ⟨rfl, rfl⟩ := hDs'
                  rw [hDs] at s2
                  obtain ⟨x0, x1, x2, x3, x4, x5⟩ := hxat
                  obtain ⟨y0, y1, y2, y3, y4, y5⟩ := hyat
                  have lbL := lt_of_cell x0
                  have hwf := (rightA_nat.1 hsr).2.2.2.2
                  have hxr' : x.right := hwf x (List.mem_of_getElem? hxk)
                  have hyr' : y.right := hwf y (List.mem_of_getElem? hyk)
                  have gx : getV (rowV ⟨R, C, l⟩ (P i')) kk = x := by
                    rw [← HP.out.2.2.2.2 i' hi', rowV_get _ _ hkC]; show getV L (i' * C + kk) = _; rw [hu, hp]; unfold getV; rw [hxk]; rfl
                  have gy : getV (rowV ⟨R, C, l⟩ (P i)) kk = y := by
                    rw [← HP.out.2.2.2.2 i hlt, rowV_get _ _ hkC]; show getV L (i * C + kk) = _; rw [hv, hq]; unfold getV; rw [hyk]; rfl
                  rw [rowV_get _ _ hkC] at gx gy
                  obtain ⟨o1, o2⟩ := HP.out.2.2.2.1 i' (by omega)
                  rw [hii1] at o1 o2
                  have o1' : aheadB down y x = false := by rw [← gx, ← gy]; exact o1
                  have o2' : aheadB down x y = true ∨ P i' < P i := by rw [← gx, ← gy]; exact o2
                  have h1a := fun W => rahead_any y x down W hyr' hxr'
                  have h2a := fun W => rahead_any x y down W hxr' hyr'
                  rw [o1'] at h1a
                  clear hjR hi0 hii hii1 hu hv hp hq hxk hyk hDs gx gy o1 o2 o1' hwf hxr' hyr' t2 t3 t4 t5 z2 z3 z4 z5 hsr har
                  generalize P i = pi at ca hpn o2'
                  generalize P i' = pj at cb o2'
                  go_upto_region 27 with fail
                  refine wp_floatG [(0, 0), (1, 0), (2, 0), (3, 0), (4, 0), (5, 0), (6, 0), (7, 0), (8, 0), (9, 0), (10, 0), (11, 0), (12, 0), (13, 0), (14, 0), (15, 0), (16, 0), (17, 0), (18, 0), (19, 0), (20, 0), (21, 4), (22, 4), (22, 3), (21, 3), (23, 5)] [24] [24] [] (by kernel_rfl) (by kernel_rfl) (by kernel_rfl) (fun _ _ d _ _ h => by cases d <;> exact h) (fun _ _ d _ _ h => by cases d <;> exact h) ?_
                  iterate 21 ((refine wpFg_read (v := ?_) rfl ?_ (fun w1 h1 => ?_) ?_; rotate_left 1; rfl; (obtain ⟨os1, d1, rfl⟩ := h1.more; go_simp; first | done | rfl)); try simp only [Act.put, zqA, zqB, zqC])
                  (refine wpFg_launch (t := 17) (Obj.cells #[.int .i64 0, .int .i64 0, .int .i64 0, .string ⟨#[]⟩, .bool false, .int .i64 0] 43) ptrB rfl rfl rfl (fun w1 => ?_) ?_; (first | rfl | (simp [go_sem, ptrB]; done) | (go_simp; rfl)))
                  (refine wpFg_launch (t := 18) (Obj.cells #[.int .i64 0, .int .i64 0, .int .i64 0, .string ⟨#[]⟩, .bool false, .int .i64 0] 43) ptrB rfl rfl rfl (fun w1 => ?_) ?_; (first | rfl | (simp [go_sem, ptrB]; done) | (go_simp; rfl)))
                  refine wpFg_wait fun q1 g1 _ _ => ?_; refine ⟨fun W => W.heap[q1]? = some (Obj.cells #[.int .i64 0, .int .i64 0, .int .i64 0, .string ⟨#[]⟩, .bool false, .int .i64 0] 43), fun w1 w2 hx h => (hx.block (lt_of_block h)).trans h, fun W _ hE h1 => h1, ?_⟩
                  try simp only [Act.put, zqA, zqB, zqC]
                  refine wpFg_wait fun q2 g2 n2 _ => ?_; refine ⟨fun W => W.heap[q1]? = some (Obj.cells #[.int .i64 0, .int .i64 0, .int .i64 0, .string ⟨#[]⟩, .bool false, .int .i64 0] 43) ∧ W.heap[q2]? = some (Obj.cells #[.int .i64 0, .int .i64 0, .int .i64 0, .string ⟨#[]⟩, .bool false, .int .i64 0] 43), fun w1 w2 hx h => ⟨(hx.block (lt_of_block h.1)).trans h.1, (hx.block (lt_of_block h.2)).trans h.2⟩, fun W _ hE h1 => ⟨hE, h1⟩, ?_⟩
                  try simp only [Act.put, zqA, zqB, zqC]
                  (refine wpFg_store rfl ?_ (fun wf hXf hE K hK => ?_); rfl; obtain ⟨e1, e2⟩ := hE; (have u0 := cell_of_row _ _ 0 _ _ _ e2); (have u1 := cell_of_row _ _ 1 _ _ _ e2); (have u2 := cell_of_row _ _ 2 _ _ _ e2); (have u3 := cell_of_row _ _ 3 _ _ _ e2); (have u4 := cell_of_row _ _ 4 _ _ _ e2); (have u5 := cell_of_row _ _ 5 _ _ _ e2); (have v0 := frozen_of_row _ _ 0 _ _ e2); (have v1 := frozen_of_row _ _ 1 _ _ e2); (have v2 := frozen_of_row _ _ 2 _ _ e2); (have v3 := frozen_of_row _ _ 3 _ _ e2); (have v4 := frozen_of_row _ _ 4 _ _ e2); (have v5 := frozen_of_row _ _ 5 _ _ e2); (simp only [ptrB]); go_simp; refine hK _ _ (fun W => W.heap[q1]? = some (Obj.cells #[.int .i64 0, .int .i64 0, .int .i64 0, .string ⟨#[]⟩, .bool false, .int .i64 0] 43) ∧ W.heap[q2]? = some (valB x)) (set6_ext hXf g2) (by simp) (fun w1 w2 hx h => ⟨(hx.block (lt_of_block h.1)).trans h.1, (hx.block (lt_of_block h.2)).trans h.2⟩) ⟨(set6_other (fun e => n2 (by simp [e]))).trans e1, set6_heap e2⟩ ?_)
                  try simp only [Act.put, zqA, zqB, zqC]
                  refine wpFg_done fun wz hXz hE => ?_
                  obtain ⟨e1, e2⟩ := hE; (have u0 := cell_of_row _ _ 0 _ _ _ e1); (have u1 := cell_of_row _ _ 1 _ _ _ e1); (have u2 := cell_of_row _ _ 2 _ _ _ e1); (have u3 := cell_of_row _ _ 3 _ _ _ e1); (have u4 := cell_of_row _ _ 4 _ _ _ e1); (have u5 := cell_of_row _ _ 5 _ _ _ e1); (have v0 := frozen_of_row _ _ 0 _ _ e1); (have v1 := frozen_of_row _ _ 1 _ _ e1); (have v2 := frozen_of_row _ _ 2 _ _ e1); (have v3 := frozen_of_row _ _ 3 _ _ e1); (have v4 := frozen_of_row _ _ 4 _ _ e1); (have v5 := frozen_of_row _ _ 5 _ _ e1); (have f1 := set6_heap (x := y) e1); (have f2 := (set6_other (x := y) (fun e => n2 (by simp [e]) : q2 ≠ q1)).trans e2); (have f3 : Ext wr _ := Ext.trans (by with_reducible repeat (first | exact Ext.refl _ | apply Ext.drew | apply Ext.alloc | apply Ext.more_) : Ext wr wr.drew) (set6_ext (x := y) hXz g1)); (try simp only [ptrB])
                  (refine wpTl_op rfl ?_ (fun K hK => ?_); rfl; go_simp; refine hK _ _ ?_)
                  try simp only [Act.put, zqA, zqB, zqC]
                  refine wpTl_nil ?_
                  clear u0 u1 u2 u3 u4 u5 v0 v1 v2 v3 v4 v5 e1 e2
                  obtain ⟨V7, hV7⟩ : ∃ V, set6 wz q1 y = V := ⟨_, rfl⟩
                  rw [hV7] at f1 f2 f3
                  unfold set6 at hV7
                  rw [hV7]
                  clear hV7 x0 x1 x2 x3 x4 x5 y0 y1 y2 y3 y4 y5
                  have K5 := Lib.hid (K3.out.ext f3)
                  have K6 := Lib.hid (K4.out.ext f3)
                  have ca7 := f3.cell_some ca
                  have cb7 := f3.cell_some cb
                  have lq7 := lt_of_cell ca7
                  have k0 := cell_of_row _ _ 0 _ _ _ f2
                  have k1 := cell_of_row _ _ 1 _ _ _ f2
                  have k2 := cell_of_row _ _ 2 _ _ _ f2
                  have k3 := cell_of_row _ _ 3 _ _ _ f2
                  have k4 := cell_of_row _ _ 4 _ _ _ f2
                  have k5 := cell_of_row _ _ 5 _ _ _ f2
                  have m0 := cell_of_row _ _ 0 _ _ _ f1
                  have m1 := cell_of_row _ _ 1 _ _ _ f1
                  have m2 := cell_of_row _ _ 2 _ _ _ f1
                  have m3 := cell_of_row _ _ 3 _ _ _ f1
                  have m4 := cell_of_row _ _ 4 _ _ _ f1
                  have m5 := cell_of_row _ _ 5 _ _ _ f1
                  have lk := lt_of_cell k0
                  have lm := lt_of_cell m0
                  clear f1 f2 ca cb K3 K4 e0 e1 e2 e3 s0 s1 s2 s3
                  generalize aheadB down x y = bq at h2a o2'
                  go_upto_region 28 with fail
                  cases bq with
                  | true =>
                    refine wp_plan (S := Ext _) [(0, 0), (1, 0), (2, 0), (3, 1), (4, 0), (5, 0), (6, 0), (7, 0), (8, 1), (9, 0), (10, 0), (11, 0), (12, 0), (13, 0), (14, 0), (15, 0), (16, 0), (17, 0), (18, 0), (19, 0), (20, 0), (21, 0), (22, 0)] [] (by kernel_rfl) (by kernel_rfl) (by kernel_rfl) (fun _ _ d _ _ h => by cases d <;> exact h) (Ext.drew (Ext.refl _)) ?_
                    iterate 3 ((refine wpPl_read (v := ?_) rfl ?_ (fun _ h => ?_) ?_; rotate_left 1; rfl; (obtain ⟨_, _, rfl⟩ := h.more; go_simp; try rfl)); try simp only [Act.put, zqA, zqB, zqC])
                    (refine wpPl_eff rfl ?_ (fun K hK => ?_); rfl; go_simp; refine (h1a _).mono ?_; rintro e w' ⟨rfl, hb⟩; obtain ⟨os5, d5, rfl⟩ := hb.more; clear hb; refine hK _ _ ?_ ?_; (repeat (first | (with_reducible (first | exact Ext.refl _ | exact ext_d _ _ _ _ | exact ext_app _ _ _ _ _ | exact ext_app2 _ _ _ _ _ _ | exact ext_app3 _ _ _ _ _ _ _ | exact ext_app4 _ _ _ _ _ _ _ _ | exact ext_app5 _ _ _ _ _ _ _ _ _)) | ((with_reducible refine ext_suffix ⟨_, ?_⟩); (try simp only [Array.append_assoc]); rfl) | (with_reducible (first | apply Ext.drew | apply Ext.alloc | apply Ext.more_)) | apply Ext.drew | apply Ext.alloc | apply Ext.more_)))
                    try simp only [Act.put, zqA, zqB, zqC]
                    (refine wpPl_read (v := ?_) rfl ?_ (fun _ h => ?_) ?_; rotate_left 1; rfl; (obtain ⟨_, _, rfl⟩ := h.more; go_simp; try rfl))
                    try simp only [Act.put, zqA, zqB, zqC]
                    iterate 3 ((first | (refine wpPl_skip rfl rfl ?_) | (refine wpPl_read (v := ?_) rfl ?_ (fun w1 h1 => ?_) ?_; rotate_left 1; rfl; (obtain ⟨os1, d1, rfl⟩ := h1.more; go_simp; first | done | rfl)) | (refine wpPl_gread (v := ?_) (c := ?_) rfl rfl rfl rfl ?_ (fun hc w1 h1 => ?_) ?_; rotate_left 2; (first | exact gc_t _ | exact gc_f _ | exact gc_gt _ _ | exact gc_gf _ _); (obtain ⟨os1, d1, rfl⟩ := h1.more; (try simp only [gv_of hc]); (try (have hc1 := and_l hc; (try simp only [gv_of hc1]); (try (have hc2 := and_l hc1; (try simp only [gv_of hc2]))))); go_simp; first | done | rfl))); try simp only [Act.put, zqA, zqB, zqC])
                    (refine wpPl_eff rfl ?_ (fun K hK => ?_); (first | with_reducible rfl | rfl | (go_simp; done)); go_simp; refine (h2a _).mono ?_; rintro e w' ⟨rfl, hb⟩; obtain ⟨os6, d6, rfl⟩ := hb.more; clear hb; refine hK _ _ ?_ ?_; (repeat (first | (with_reducible (first | exact Ext.refl _ | exact ext_d _ _ _ _ | exact ext_app _ _ _ _ _ | exact ext_app2 _ _ _ _ _ _ | exact ext_app3 _ _ _ _ _ _ _ | exact ext_app4 _ _ _ _ _ _ _ _ | exact ext_app5 _ _ _ _ _ _ _ _ _)) | ((with_reducible refine ext_suffix ⟨_, ?_⟩); (try simp only [Array.append_assoc]); rfl) | (with_reducible (first | apply Ext.drew | apply Ext.alloc | apply Ext.more_)) | apply Ext.drew | apply Ext.alloc | apply Ext.more_)))
                    try simp only [Act.put, zqA, zqB, zqC]
                    iterate 12 ((first | (refine wpPl_skip rfl rfl ?_) | (refine wpPl_read (v := ?_) rfl ?_ (fun w1 h1 => ?_) ?_; rotate_left 1; rfl; (obtain ⟨os1, d1, rfl⟩ := h1.more; go_simp; first | done | rfl)) | (refine wpPl_gread (v := ?_) (c := ?_) rfl rfl rfl rfl ?_ (fun hc w1 h1 => ?_) ?_; rotate_left 2; (first | exact gc_t _ | exact gc_f _ | exact gc_gt _ _ | exact gc_gf _ _); (obtain ⟨os1, d1, rfl⟩ := h1.more; (try simp only [gv_of hc]); (try (have hc1 := and_l hc; (try simp only [gv_of hc1]); (try (have hc2 := and_l hc1; (try simp only [gv_of hc2]))))); go_simp; first | done | rfl))); try simp only [Act.put, zqA, zqB, zqC])
                    first | (refine wpPl_skip rfl rfl ?_) | (refine wpPl_gpick_and rfl rfl rfl rfl rfl rfl rfl rfl ?_ ?_; (first | exact gc_t _ | exact gc_f _ | exact gc_gt _ _ | exact gc_gf _ _)) | (refine wpPl_gpick_or rfl rfl rfl rfl rfl rfl rfl rfl ?_ ?_; (first | exact gc_t _ | exact gc_f _ | exact gc_gt _ _ | exact gc_gf _ _)) | (refine wpPl_read (v := ?_) rfl ?_ (fun w1 h1 => ?_) ?_; rotate_left 1; rfl; (obtain ⟨os1, d1, rfl⟩ := h1.more; go_simp; first | done | rfl))
                    try simp only [Act.put, zqA, zqB, zqC]
                    first | (refine wpPl_pick_and rfl rfl rfl rfl rfl rfl ?_) | (refine wpPl_pick_or rfl rfl rfl rfl rfl rfl ?_) | (refine wpPl_read (v := ?_) rfl ?_ (fun w1 h1 => ?_) ?_; rotate_left 1; rfl; (obtain ⟨os1, d1, rfl⟩ := h1.more; go_simp; first | done | rfl))
                    try simp only [Act.put, zqA, zqB, zqC]
                    refine wpPl_nil ?_
                    go_wp2_with fail
                    exact ⟨⟨i + 1, by omega, by go_num, K5.out.ext (by with_reducible repeat (first | exact Ext.refl _ | apply Ext.drew | apply Ext.alloc | apply Ext.more_)), K6.out.ext (by with_reducible repeat (first | exact Ext.refl _ | apply Ext.drew | apply Ext.alloc | apply Ext.more_)), hxr.trans (f3.trans (by with_reducible repeat (first | exact Ext.refl _ | apply Ext.drew | apply Ext.alloc | apply Ext.more_)))⟩, by simp [intOf]; omega⟩
                  | false =>
                    have hpp : ¬ pi < pj := by
                      rcases o2' with h9 | h9
                      · cases h9
                      · omega
                    refine wp_plan (S := Ext _) [(0, 0), (1, 0), (2, 0), (3, 1), (4, 0), (5, 0), (6, 0), (7, 0), (8, 1), (9, 0), (10, 0), (11, 0), (12, 0), (13, 0), (14, 0), (15, 0), (16, 0), (17, 0), (18, 0), (19, 0), (20, 0), (21, 0), (22, 0)] [] (by kernel_rfl) (by kernel_rfl) (by kernel_rfl) (fun _ _ d _ _ h => by cases d <;> exact h) (Ext.drew (Ext.refl _)) ?_
                    iterate 3 ((refine wpPl_read (v := ?_) rfl ?_ (fun _ h => ?_) ?_; rotate_left 1; rfl; (obtain ⟨_, _, rfl⟩ := h.more; go_simp; try rfl)); try simp only [Act.put, zqA, zqB, zqC])
                    (refine wpPl_eff rfl ?_ (fun K hK => ?_); rfl; go_simp; refine (h1a _).mono ?_; rintro e w' ⟨rfl, hb⟩; obtain ⟨os5, d5, rfl⟩ := hb.more; clear hb; refine hK _ _ ?_ ?_; (repeat (first | (with_reducible (first | exact Ext.refl _ | exact ext_d _ _ _ _ | exact ext_app _ _ _ _ _ | exact ext_app2 _ _ _ _ _ _ | exact ext_app3 _ _ _ _ _ _ _ | exact ext_app4 _ _ _ _ _ _ _ _ | exact ext_app5 _ _ _ _ _ _ _ _ _)) | ((with_reducible refine ext_suffix ⟨_, ?_⟩); (try simp only [Array.append_assoc]); rfl) | (with_reducible (first | apply Ext.drew | apply Ext.alloc | apply Ext.more_)) | apply Ext.drew | apply Ext.alloc | apply Ext.more_)))
                    try simp only [Act.put, zqA, zqB, zqC]
                    (refine wpPl_read (v := ?_) rfl ?_ (fun _ h => ?_) ?_; rotate_left 1; rfl; (obtain ⟨_, _, rfl⟩ := h.more; go_simp; try rfl))
                    try simp only [Act.put, zqA, zqB, zqC]
                    iterate 3 ((first | (refine wpPl_skip rfl rfl ?_) | (refine wpPl_read (v := ?_) rfl ?_ (fun w1 h1 => ?_) ?_; rotate_left 1; rfl; (obtain ⟨os1, d1, rfl⟩ := h1.more; go_simp; first | done | rfl)) | (refine wpPl_gread (v := ?_) (c := ?_) rfl rfl rfl rfl ?_ (fun hc w1 h1 => ?_) ?_; rotate_left 2; (first | exact gc_t _ | exact gc_f _ | exact gc_gt _ _ | exact gc_gf _ _); (obtain ⟨os1, d1, rfl⟩ := h1.more; (try simp only [gv_of hc]); (try (have hc1 := and_l hc; (try simp only [gv_of hc1]); (try (have hc2 := and_l hc1; (try simp only [gv_of hc2]))))); go_simp; first | done | rfl))); try simp only [Act.put, zqA, zqB, zqC])
                    (refine wpPl_eff rfl ?_ (fun K hK => ?_); (first | with_reducible rfl | rfl | (go_simp; done)); go_simp; refine (h2a _).mono ?_; rintro e w' ⟨rfl, hb⟩; obtain ⟨os6, d6, rfl⟩ := hb.more; clear hb; refine hK _ _ ?_ ?_; (repeat (first | (with_reducible (first | exact Ext.refl _ | exact ext_d _ _ _ _ | exact ext_app _ _ _ _ _ | exact ext_app2 _ _ _ _ _ _ | exact ext_app3 _ _ _ _ _ _ _ | exact ext_app4 _ _ _ _ _ _ _ _ | exact ext_app5 _ _ _ _ _ _ _ _ _)) | ((with_reducible refine ext_suffix ⟨_, ?_⟩); (try simp only [Array.append_assoc]); rfl) | (with_reducible (first | apply Ext.drew | apply Ext.alloc | apply Ext.more_)) | apply Ext.drew | apply Ext.alloc | apply Ext.more_)))
                    try simp only [Act.put, zqA, zqB, zqC]
                    iterate 12 ((first | (refine wpPl_skip rfl rfl ?_) | (refine wpPl_read (v := ?_) rfl ?_ (fun w1 h1 => ?_) ?_; rotate_left 1; rfl; (obtain ⟨os1, d1, rfl⟩ := h1.more; go_simp; first | done | rfl)) | (refine wpPl_gread (v := ?_) (c := ?_) rfl rfl rfl rfl ?_ (fun hc w1 h1 => ?_) ?_; rotate_left 2; (first | exact gc_t _ | exact gc_f _ | exact gc_gt _ _ | exact gc_gf _ _); (obtain ⟨os1, d1, rfl⟩ := h1.more; (try simp only [gv_of hc]); (try (have hc1 := and_l hc; (try simp only [gv_of hc1]); (try (have hc2 := and_l hc1; (try simp only [gv_of hc2]))))); go_simp; first | done | rfl))); try simp only [Act.put, zqA, zqB, zqC])
                    first | (refine wpPl_skip rfl rfl ?_) | (refine wpPl_gpick_and rfl rfl rfl rfl rfl rfl rfl rfl ?_ ?_; (first | exact gc_t _ | exact gc_f _ | exact gc_gt _ _ | exact gc_gf _ _)) | (refine wpPl_gpick_or rfl rfl rfl rfl rfl rfl rfl rfl ?_ ?_; (first | exact gc_t _ | exact gc_f _ | exact gc_gt _ _ | exact gc_gf _ _)) | (refine wpPl_read (v := ?_) rfl ?_ (fun w1 h1 => ?_) ?_; rotate_left 1; rfl; (obtain ⟨os1, d1, rfl⟩ := h1.more; go_simp; first | done | rfl))
                    try simp only [Act.put, zqA, zqB, zqC]
                    first | (refine wpPl_pick_and rfl rfl rfl rfl rfl rfl ?_) | (refine wpPl_pick_or rfl rfl rfl rfl rfl rfl ?_) | (refine wpPl_read (v := ?_) rfl ?_ (fun w1 h1 => ?_) ?_; rotate_left 1; rfl; (obtain ⟨os1, d1, rfl⟩ := h1.more; go_simp; first | done | rfl))
                    try simp only [Act.put, zqA, zqB, zqC]
                    refine wpPl_nil ?_
                    go_wp2_with fail
                    exact ⟨⟨i + 1, by omega, by go_num, K5.out.ext (by with_reducible repeat (first | exact Ext.refl _ | apply Ext.drew | apply Ext.alloc | apply Ext.more_)), K6.out.ext (by with_reducible repeat (first | exact Ext.refl _ | apply Ext.drew | apply Ext.alloc | apply Ext.more_)), hxr.trans (f3.trans (by with_reducible repeat (first | exact Ext.refl _ | apply Ext.drew | apply Ext.alloc | apply Ext.more_)))⟩, by simp [intOf]; omega⟩
          · have hlt' : ¬ (i : Int) < (R : Int) := by omega
            go_wp2_with fail
            go_ret
            exact ⟨rfl, hxw.trans (hxr.trans (by with_reducible repeat (first | exact Ext.refl _ | apply Ext.drew | apply Ext.alloc | apply Ext.more_)))⟩
    · have hR' : (60 : Int) < (R : Int) := by omega
      go_enter Tryz.func5, Tryz.ntmps5
      go_wp2_with (first | (go_at_call 9; (with_reducible refine (awake15_any _ (HT.out.ext (by with_reducible repeat (first | exact Ext.refl _ | apply Ext.drew | apply Ext.alloc | apply Ext.more_)))).mono ?_); rintro e w' ⟨rfl, hb⟩; obtain ⟨osw, dw, rfl⟩ := hb.more; clear hb) | (go_at_call 12; (refine (small15_any _ 1 1 _ _ (gargs_one (by simp) rfl (HA.out.ext (by with_reducible repeat (first | exact Ext.refl _ | apply Ext.drew | apply Ext.alloc | apply Ext.more_))))).mono ?_); rintro e w' ⟨s, rfl, hs, hb⟩; obtain ⟨oss, ds, rfl⟩ := hb.more; clear hb; rcases hs with rfl | rfl) | (go_at_call 14; refine (hra _ (HA.out.ext (by with_reducible repeat (first | exact Ext.refl _ | apply Ext.drew | apply Ext.alloc | apply Ext.more_)))).mono ?_; rintro e w' ⟨rfl, hb⟩; obtain ⟨osr, dr, rfl⟩ := hb.more; clear hb))
      all_goals
        go_ret
        exact ⟨rfl, by with_reducible repeat (first | exact Ext.refl _ | apply Ext.drew | apply Ext.alloc | apply Ext.more_)⟩
end Go.Proofs.YtmjmijjbijlhfaaGreatDoor
namespace Go.Proofs.YtmjmijjbijlhfaaGreatDoor
open Go.ChangeShapes Go.WideShapes Go.ChangeAt Go.RowKit Go.Deep
set_option maxRecDepth 100000
section
variable {H : Type} {enc : TypeId × Value → H} {w : World} {base : Nat} {spare : Nat → Bool} {held : Bool}
theorem open_byte {r : Reach} {b0 : Nat} {v : Value} {d : DataW H} {p : List MemPlace} (hv : Value.okWide Tryz.prog w r b0 5 v) (h : DataW.Trod enc Tryz.prog w base spare held 5 v d p) :
    ∃ b : Int, v = .int .u8 b ∧ 0 ≤ b ∧ b ≤ 255 := by
  obtain ⟨b, rfl⟩ := okWide_int Tryz.underlying5 hv
  obtain ⟨fuel, hf⟩ := h
  obtain ⟨m, e0, _, w0⟩ := DataW.trod_int Tryz.underlying5 hf
  have e1 : b = m := by simpa [Value.cells] using e0
  subst e1
  have : 0 ≤ b ∧ b ≤ 255 := by simpa [Lit.wf, IntKind.min, IntKind.max, IntKind.signed, IntKind.bits] using w0
  exact ⟨b, rfl, this⟩
end
end Go.Proofs.YtmjmijjbijlhfaaGreatDoor
