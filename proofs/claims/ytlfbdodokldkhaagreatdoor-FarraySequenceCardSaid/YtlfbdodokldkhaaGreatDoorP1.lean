/- What the rows' proofs lean on: the contracts of the functions that they reach, and plain facts (part P1). -/
import Derived.WalkKit
import Derived.WalkLawsBesides
import Derived.WalkSpells
import Derived.Outline
import Derived.Below
import Derived.Deep.RegionHeld3
import Derived.Deep.DeepCutAuto
import Derived.Deep.AppendLies
import Derived.Maps.AppendAt
import Derived.Lib.Hide
import Derived.OrdersHeld
import Derived.Test.YtlfbdodokldkhaaGreatDoorProg
import Derived.Shelf.Small.Bits
import Derived.Shelf.Small.Strs
import Derived.Shelf.Strconv.Itoa0
import Derived.Shelf.Strconv.Itoa1
import Derived.Shelf.LaysM
import Derived.Shelf.Strconv.Itoa2
import Derived.Shelf.Bits.Mul64
import Derived.Lib.ItoaMem
import Derived.Lib.OthersKept
import Derived.Deep.CutBlock
import Derived.Laws.Bits64b
import Derived.Lib.AppendZeros
import Derived.Lib.Bytealg
import Derived.Laws.RangeAny
import Derived.Maps.OwnSet
import Derived.Maps.Own
import Derived.Laws.EntriesVeiled
import Derived.Lib.ConvBytes
import Derived.Lib.SlBytesRow
import Derived.Lib.SmallJoins
import Derived.RegionTactic
import Derived.Shelf.SlIter.Nil
import Derived.Shelf.SortM.Plain
import Derived.Shelf.SortM.SortNone
import Derived.Ground.GgzProg
import Derived.Ground.SlgmProg
import Derived.Test.YtlfbdodokldkhaaGreatDoorRows
import Derived.Test.YtlfbdodokldkhaaGreatDoorCards
import Derived.Test.YtlfbdodokldkhaaGreatDoorTie
import Derived.ProofKit
import Derived.LaidMore
import Derived.OpenShut
import Derived.ShutString
import Derived.ChangeOld
import Derived.Stop.Joined
import Derived.Deep.Slices
import Derived.SevenTiedAt
import Derived.Test.YtlfbdodokldkhaaGreatDoorS4
set_option linter.unusedSimpArgs false
set_option linter.unusedVariables false
set_option maxRecDepth 100000
namespace Go.Proofs.YtlfbdodokldkhaaGreatDoor
open Go.RowKit
theorem ValAt.ext {w w' : World} {b o : Nat} {x : Val} (h : ValAt w b o x) (hb : Ext w w') : ValAt w' b o x :=
  ⟨hb.cell_some h.1, hb.cell_some h.2.1, hb.cell_some h.2.2.1, hb.cell_some h.2.2.2.1, hb.cell_some h.2.2.2.2.1, hb.cell_some h.2.2.2.2.2⟩
end Go.Proofs.YtlfbdodokldkhaaGreatDoor
namespace Go.Proofs.YtlfbdodokldkhaaGreatDoor.NM
/-- An exact sum: below 0, and without its sign. -/
def plusN (na nb : Bool) (Na Nb : Nat) : Bool × Nat := if na = nb then (na, Na + Nb) else if Na < Nb then (nb, Nb - Na) else (na, Na - Nb)
theorem plusN_sg (na nb : Bool) (Na Nb : Nat) : sg (plusN na nb Na Nb).1 (plusN na nb Na Nb).2 = sg na Na + sg nb Nb := by
  unfold plusN
  cases na <;> cases nb <;> simp [sg]
  · split <;> simp <;> omega
  · split <;> simp <;> omega
  · omega
theorem rnd_plus (ma ea mb eb : Int) : rnd (plusN (decide (ma < 0)) (decide (mb < 0)) (ma.natAbs * T (ea - min ea eb).toNat) (mb.natAbs * T (eb - min ea eb).toNat)).1 (plusN (decide (ma < 0)) (decide (mb < 0)) (ma.natAbs * T (ea - min ea eb).toNat) (mb.natAbs * T (eb - min ea eb).toNat)).2 false (min ea eb) = rndI (sumI ma ea mb eb) (min ea eb) := by
  rw [rnd_sg, plusN_sg, sg_mul_nat, sg_mul_nat, sg_nat, sg_nat]; rfl
/-- What of the digits is added up from place j on: a carry, and the digits. -/
theorem add_step {X Y S : List Nat} {j x y c : Nat} (hx : X[j]? = some x) (hy : Y[j]? = some y) (hl : X.length = Y.length) (hs : S.length = X.length - (j + 1)) (h : val (X.drop (j + 1)) + val (Y.drop (j + 1)) = c * T S.length + val S) :
    val (X.drop j) + val (Y.drop j) = (x + y + c) / 10 * T (S.length + 1) + val ((x + y + c) % 10 :: S) := by
  have l1 : (X.drop (j + 1)).length = S.length := by simp; omega
  have l2 : (Y.drop (j + 1)).length = S.length := by simp; omega
  rw [drop_at hx, drop_at hy, val_cons, val_cons, val_cons, l1, l2, T_succ]
  generalize T S.length = t at *
  have h3 : x * t + val (X.drop (j + 1)) + (y * t + val (Y.drop (j + 1))) = (x + y + c) * t + val S := by
    rw [Nat.add_mul, Nat.add_mul]; omega
  rw [h3]
  have h4 := Nat.div_add_mod (x + y + c) 10
  generalize (x + y + c) / 10 = q at *
  generalize (x + y + c) % 10 = r at *
  rw [← h4, Nat.add_mul, Nat.mul_comm 10 q, Nat.mul_assoc]
  omega
/-- What is taken away from place j on: what is borrowed, and the digits. -/
theorem sub_step {X Y S : List Nat} {j x y c d c' : Nat} (hx : X[j]? = some x) (hy : Y[j]? = some y) (hl : X.length = Y.length) (hs : S.length = X.length - (j + 1)) (h : val (X.drop (j + 1)) + c * T S.length = val (Y.drop (j + 1)) + val S) (hd : x + 10 * c' = y + c + d) :
    val (X.drop j) + c' * T (S.length + 1) = val (Y.drop j) + val (d :: S) := by
  have l1 : (X.drop (j + 1)).length = S.length := by simp; omega
  have l2 : (Y.drop (j + 1)).length = S.length := by simp; omega
  rw [drop_at hx, drop_at hy, val_cons, val_cons, val_cons, l1, l2, T_succ]
  generalize T S.length = t at *
  have h1 : x * t + 10 * c' * t = y * t + c * t + d * t := by rw [← Nat.add_mul, hd, Nat.add_mul, Nat.add_mul]
  rw [← Nat.mul_assoc, Nat.mul_comm c' 10]
  omega
end Go.Proofs.YtlfbdodokldkhaaGreatDoor.NM
namespace Go.Proofs.YtlfbdodokldkhaaGreatDoor
open Go.RowKit NM
/-- append onto a list of the call's own, of what may be nil. -/
theorem wpList_append_opt {P : Program} (w : World) {ops : Array Oper} {rest : List Oper} {o : Oper} {a : Act} {Q : Exit → Act → World → Prop} (hgd : o.guard = none) (s x : Operand) (t : TypeId)
    (ho : o.op = .call { callee := .builtin .append, args := #[s, x], argTypes := #[t, t] })
    (base : Nat) (e : TypeId) (i : TypeInfo) (z : Value) (bytes : Nat) (ht : P.underlying t = some (.slice e)) (hi : P.info? e = some i) (hz : i.zero = some z)
    (hsize : i.size = 1) (hby : i.bytes = bytes) (hzs : z.cells.size = 1)
    (v : Value) (n : Nat) (xs : List Value) (hs : a.eval s = v) (hown : w.ownsRow base e 1 v n xs)
    (B : Option Addr) (m c : Nat) (news : List Value) (hx : a.eval x = .slice B m c) (hl : news.length = m) (hB : Rd 0 w B news) (h1 : ∀ u ∈ news, u.oneCell' = true)
    (h63 : n + m ≤ maxLen) (hbytes : (n + m) * bytes ≤ 140737488355328) (hbase : base ≤ w.heap.size)
    (h : ∀ v' w', w'.ownsRow base e 1 v' (n + m) (xs ++ news) → w.grownBy w' v.ownBlock → wpList P ops Q rest (a.put o.dst v') w') : wpList P ops Q (o :: rest) a w := by
  by_cases hm : m = 0
  · subst hm
    obtain rfl : news = [] := List.eq_nil_of_length_eq_zero hl
    obtain ⟨A, cap, hv, hcap⟩ : ∃ A cap, v = .slice A n cap ∧ n ≤ cap := by
      rcases hown.2 with ⟨h2, h3⟩ | ⟨g, cap, cur, h3, h4, h5, h6, _⟩
      · exact ⟨none, 0, by rw [h2, h3], by omega⟩
      · exact ⟨_, cap, h3, h6⟩
    have hr := append_none (P := P) w t o.type e i ht hi A n cap B c hcap
    refine wpList_plain hgd fun K hK => ?_
    unfold Oper.wp execOp
    simp only [ho, resolve, invoke, builtin, Sem.run_bind, Sem.run_pure, Result.andThen_ok, List.map_toArray, List.map_cons, List.map_nil, hs, hx, hv, hr]
    refine hK _ _ (h _ _ (by rw [← hv]; simpa using hown) ⟨rfl, rfl, rfl, Nat.le_refl _, fun _ _ _ => rfl⟩)
  · have hpos : 0 < news.length := by omega
    obtain ⟨b, off, rfl, _, _⟩ := hB 0 news[0] (by simp [hpos])
    exact wpList_append_own w hgd s x t ho base e i z 1 bytes ht hi hz hsize hby hzs (by decide) v n xs hs hown ⟨b, off, none⟩ m c news hx (by omega) hB.add h1 h63 hbytes hbase fun v' w' h2 h3 _ => h v' w' h2 h3
theorem own_allocT {X wr : World} {ty : TypeId} {v : Value} {n : Nat} {xs : List Value} (ho : wr.ownsRow X.heap.size ty 1 v n xs) (o : Obj) : (wr.alloc o).ownsRow X.heap.size ty 1 v n xs :=
  own_keep ho fun g cur hg => RowKit.Below.heap_alloc _ o g (lt_block hg)
theorem nil_own {w : World} {base n : Nat} {ty : TypeId} (hn : n = w.heap.size) (hb : base ≤ n) : (w.alloc (.cells #[] ty)).ownsRow base ty 1 (.slice (some ⟨n, 0, none⟩) 0 0) 0 [] := by
  subst hn
  exact ⟨by simp, Or.inr ⟨w.heap.size, 0, #[], rfl, hb, Array.getElem?_push_size, Nat.le_refl _, by decide, by simp, by simp⟩⟩
set_option maxHeartbeats 2000000 in
theorem wide_any (A : Option Addr) (len cap k : Nat) (l : List Nat) (w : World) (hlen : l.length = len) (h : Rd 0 w A (i6 l)) (hbig : len + k ≤ 100000) :
    Calls Tryz.prog 196 #[.slice A len cap, .int .i64 (k : Int)] w fun e w' => ∃ v, e = .returned v ∧ w'.ownsRow w.heap.size 3 1 v (len + k) (i6 (l ++ List.replicate k 0)) ∧ Ext w w' := by
  obtain ⟨i0, hi, hz0, hz1, hz2⟩ := info_parts info_int_
  have HR := Lib.hid h
  have HL := Lib.hid hlen
  clear h hlen
  go_enter Tryz.func196, Tryz.ntmps196
  go_wp2_with (at_builtin; refine wpList_append_opt _ rfl _ _ _ rfl w.heap.size 3 i0 (.int .i64 0) 8 Tryz.underlying77 hi hz0 hz1 hz2 rfl _ 0 [] rfl (nil_own rfl (Nat.le_refl _)) A len cap (i6 l) rfl (by simp [HL.out]) (HR.out.ext ((Ext.refl _).alloc _)) (one_i6 _) (by simp [maxLen]; omega) (by omega) (by simp) ?_; intro v3 w3 ho3 hg3)
  have hx3 := ext_grown ((Ext.refl w).alloc _) (nil_own rfl (Nat.le_refl _)) hg3
  have HO : Hid (w3.ownsRow w.heap.size 3 1 v3 (len + 0) (i6 (l ++ List.replicate 0 0))) := by show World.ownsRow _ _ _ _ _ _ _; simpa using ho3
  clear ho3 hg3
  go_loopw [5, 6] (fun v i wr => ∃ j : Nat, j ≤ k ∧ i = .int .i64 (j : Int) ∧ Hid (wr.ownsRow w.heap.size 3 1 v (len + j) (i6 (l ++ List.replicate j 0))) ∧ Ext w wr) (fun _ i _ => k - (intOf i).toNat)
  case atStart => exact ⟨0, Nat.zero_le _, rfl, HO, hx3⟩
  case round =>
    obtain ⟨j, hj, rfl, HW, hxr⟩ := hrel
    have hsz := hxr.size
    by_cases hlt : j < k
    · go_wp2_with (at_builtin; refine wpList_append_own _ rfl _ _ _ rfl w.heap.size 3 i0 (.int .i64 0) 1 8 Tryz.underlying77 hi hz0 hz1 hz2 rfl (by decide) _ (len + j) (i6 (l ++ List.replicate j 0)) rfl (own_allocT HW.out _) _ 1 1 [.int .i64 0] rfl rfl (Rd.one_ _ _ rfl).add (one_i6 [0]) (by simp [maxLen]; omega) (by omega) (by simp; omega) ?_; intro v4 w4 ho4 hg4 _)
      have hx4 := ext_grown (hxr.alloc _) (own_allocT HW.out _) hg4
      refine ⟨⟨j + 1, by omega, by go_num, ?_, hx4⟩, by simp [intOf]; omega⟩
      show World.ownsRow _ _ _ _ _ _ _
      rw [List.replicate_succ', ← List.append_assoc]; unfold i6; rw [List.map_append]
      exact ho4
    · go_wp2_with fail
      go_ret
      obtain rfl : j = k := by omega
      exact ⟨_, rfl, HW.out, hxr⟩
end Go.Proofs.YtlfbdodokldkhaaGreatDoor
namespace Go.Proofs.YtlfbdodokldkhaaGreatDoor
open Go.RowKit NM
/-- A list of digits, the same number, however many noughts ahead: in memory from 'base' on. -/
def LvOut (w : World) (L N : Nat) (v : Value) (w' : World) : Prop := ∃ A c X, v = .slice A L c ∧ Rd w.heap.size w' A (i6 X) ∧ X.length = L ∧ AllD X ∧ val X = N ∧ L ≤ c
theorem LvOut.ext {w w' w'' : World} {L N : Nat} {v : Value} (h : LvOut w L N v w') (hx : Ext w' w'') : LvOut w L N v w'' := by
  obtain ⟨A, c, X, h1, h2, h3⟩ := h
  exact ⟨A, c, X, h1, h2.ext hx, h3⟩
theorem LvOut.of_own_ {w w' : World} {base : Nat} {l : List Nat} {v : Value} {n : Nat} (h : w'.ownsRow base 3 1 v n (i6 l)) (ha : AllD l) (hb : w.heap.size ≤ base) : LvOut w n (val l) v w' := by
  obtain ⟨A, c, rfl, h1, rfl⟩ := Dg.of_own (l := l) (k := .i64) h
  exact ⟨A, c, l, rfl, h1.rd.mono hb, rfl, ha, rfl, h1.1⟩
theorem val_zero_cons (l : List Nat) : val (0 :: l) = val l := by rw [val_cons]; omega
set_option maxHeartbeats 2000000 in
theorem level_any (na nb : Bool) (A B : Option Addr) (ca cb : Nat) (la lb : List Nat) (ea eb : Int) (e : Int) (ka kb : Nat) (w : World) (ha : Rd 0 w A (i6 la)) (hb : Rd 0 w B (i6 lb)) (hla : la.length ≤ 1000) (hlb : lb.length ≤ 1000)
    (hka : ea = e + ka) (hkb : eb = e + kb) (hk0 : ka = 0 ∨ kb = 0) (hkk : ka ≤ 10000 ∧ kb ≤ 10000) (he : -1000000 ≤ e ∧ e ≤ 1000000) (hda : AllD la) (hdb : AllD lb) :
    Calls Tryz.prog 163 #[DecV na A la.length ca ea, DecV nb B lb.length cb eb] w fun r w' => (∃ va vb, r = .returned (.tuple #[va, vb, .int .i64 e]) ∧ LvOut w (max (la.length + ka) (lb.length + kb)) (val la * T ka) va w' ∧ LvOut w (max (la.length + ka) (lb.length + kb)) (val lb * T kb) vb w') ∧ Ext w w' := by
  subst hka hkb
  have hwa := fun W hW => wide_any A la.length ca ka la W rfl hW (by omega)
  have hwb := fun W hW => wide_any B lb.length cb kb lb W rfl hW (by omega)
  obtain ⟨i0, hi, hz0, hz1, hz2⟩ := info_parts info_int_
  have HA := Lib.hid ha
  have HB := Lib.hid hb
  have s1 : e + (ka : Int) - e = ka := by omega
  have s2 : e + (kb : Int) - e = kb := by omega
  clear ha hb
  have hcmp : Hid (ka = 0 ∨ kb = 0) := hk0
  clear hk0
  by_cases hlt : kb < ka
  · have e1 : decide (e + (kb : Int) < e + (ka : Int)) = true := by simp; omega
    have hkb0 : kb = 0 := by have := hcmp.out; omega
    subst hkb0
    simp only [show ((0 : Nat) : Int) = 0 from rfl, Int.add_zero] at hwb e1 s2
    simp only [show ((0 : Nat) : Int) = 0 from rfl, Int.add_zero]
    go_enter Tryz.func163, Tryz.ntmps163
    go_wp2_with (first | (go_at_call_of 196 (Value.slice A la.length ca); (with_reducible refine (hwa _ (HA.out.ext (by repeat (first | exact Ext.refl _ | apply Ext.drew | apply Ext.alloc | apply Ext.more_)))).mono ?_); rintro r w' ⟨va, rfl, hva, hxa⟩; obtain ⟨osa, da, rfl⟩ := hxa.more) | (go_at_call 196; (with_reducible refine (hwb _ (HB.out.ext (by repeat (first | exact Ext.refl _ | apply Ext.drew | apply Ext.alloc | apply Ext.more_)))).mono ?_); rintro r w' ⟨vb, rfl, hvb, hxb⟩; obtain ⟨osb, db, rfl⟩ := hxb.more))
    have hLa := (LvOut.of_own_ (w := w) hva (hda.append (AllD.rep _ _ (by omega))) (by simp; omega)).ext hxb
    have hLb := LvOut.of_own_ (w := w) hvb (hdb.append (AllD.rep _ _ (by omega))) (by simp; omega)
    rw [val_zeros] at hLa hLb
    have hxW : Ext w (more (more ((w.alloc (.cells #[.bool na, .slice A la.length ca, .int .i64 (e + (ka : Int))] 80)).alloc (.cells #[.bool nb, .slice B lb.length cb, .int .i64 e] 80)) osa da) osb db) := by repeat (first | exact Ext.refl _ | apply Ext.drew | apply Ext.alloc | apply Ext.more_)
    refine wp_world fun W hW => ?_
    rw [more_more, ← hW] at hLa hLb hxW
    clear hW hva hvb hxa hxb
    obtain ⟨Aa, cx, Xa, rfl, hra, hna, hala, hvala, hcx⟩ := hLa
    obtain ⟨Ab, cy, Xb, rfl, hrb, hnb, halb, hvalb, hcy⟩ := hLb
    generalize hNa : val la * T ka = Na at *
    generalize hNb : val lb * T 0 = Nb at *
    generalize hLLa : la.length + ka = La at *
    generalize hLLb : lb.length + 0 = Lb at *
    have HLa : Hid (LvOut w La Na (.slice Aa La cx) W) := ⟨Aa, cx, Xa, rfl, hra, hna, hala, hvala, hcx⟩
    have HLb : Hid (LvOut w Lb Nb (.slice Ab Lb cy) W) := ⟨Ab, cy, Xb, rfl, hrb, hnb, halb, hvalb, hcy⟩
    have HNa := Lib.hid hNa
    have HNb := Lib.hid hNb
    have HLLa := Lib.hid hLLa
    have HLLb := Lib.hid hLLb
    clear hra hna hala hvala hcx hrb hnb halb hvalb hcy hNa hNb
    have hLab : La ≤ 11000 ∧ Lb ≤ 11000 := by omega
    clear hLLa hLLb hwa hwb e1 s1 s2 hlt
    go_loopw [8] (fun x wr => ∃ L1, La ≤ L1 ∧ L1 ≤ max La Lb ∧ Hid (LvOut w L1 Na x wr) ∧ Hid (LvOut w Lb Nb (.slice Ab Lb cy) wr) ∧ Ext w wr) (fun x _ => Lb - slen x)
    case atStart => exact ⟨La, Nat.le_refl _, by omega, HLa, HLb, hxW⟩
    case round =>
      obtain ⟨L1, hL1, hL2, HX, HY, hxr⟩ := hrel
      obtain ⟨A8, c8, X8, rfl, hrx, hnx, halx, hvx, hcx⟩ := HX.out
      by_cases hll : L1 < Lb
      · have HNX := Lib.hid hnx
        have HVX := Lib.hid hvx
        clear hvx
        go_wp2_with (at_builtin; refine wpList_append_full _ rfl _ _ _ rfl 3 i0 (.int .i64 0) 1 8 Tryz.underlying77 hi hz0 hz1 hz2 rfl (by decide) w.heap.size _ 1 [.int .i64 0] rfl (by simp) rfl ((Rd.one _ _ _).mono hxr.size) (by have := hxr.size; simp; omega) A8 L1 c8 (i6 X8) rfl (by simp; omega) ((Rd.alloc hrx _).mono (Nat.zero_le _)) (one_i6 _) (by simp [maxLen]; omega) (by omega) ?_; intro A9 c9 os9 d9 hr9 hn9 hc9)
        refine ⟨⟨1 + L1, by omega, by omega, ?_, ?_, ?_⟩, by simp [slen]; omega⟩
        · exact ⟨A9, c9, 0 :: X8, rfl, hr9, by simp; omega, AllD.cons (by omega) halx, by rw [val_zero_cons]; exact HVX.out, hc9⟩
        · exact HY.out.ext (by repeat (first | exact Ext.refl _ | apply Ext.drew | apply Ext.alloc | apply Ext.more_))
        · exact hxr.trans (by repeat (first | exact Ext.refl _ | apply Ext.drew | apply Ext.alloc | apply Ext.more_))
      · have HNX := Lib.hid hnx
        have HVX := Lib.hid hvx
        clear hvx
        go_wp2_with fail
        go_loopw [9] (fun y wq => ∃ L2, Lb ≤ L2 ∧ L2 ≤ max La Lb ∧ Hid (LvOut w L2 Nb y wq) ∧ Hid (LvOut w L1 Na (.slice A8 L1 c8) wq) ∧ Ext w wq) (fun y _ => La - slen y)
        case atStart => exact ⟨Lb, Nat.le_refl _, by omega, HY, HX, hxr⟩
        case round =>
          clear hrx hnx halx hcx HNX HVX HX HY hxr
          obtain ⟨L2, hL3, hL4, HY, HX, hxr⟩ := hrel
          obtain ⟨A7, c7, X7, rfl, hrx, hnx, halx, hvx, hcx⟩ := HY.out
          by_cases hll2 : L2 < L1
          · have HNX := Lib.hid hnx
            have HVX := Lib.hid hvx
            clear hvx
            go_wp2_with (at_builtin; refine wpList_append_full _ rfl _ _ _ rfl 3 i0 (.int .i64 0) 1 8 Tryz.underlying77 hi hz0 hz1 hz2 rfl (by decide) w.heap.size _ 1 [.int .i64 0] rfl (by simp) rfl ((Rd.one _ _ _).mono hxr.size) (by have := hxr.size; simp; omega) A7 L2 c7 (i6 X7) rfl (by simp; omega) ((Rd.alloc hrx _).mono (Nat.zero_le _)) (one_i6 _) (by simp [maxLen]; omega) (by omega) ?_; intro A9 c9 os9 d9 hr9 hn9 hc9)
            refine ⟨⟨1 + L2, by omega, by omega, ?_, ?_, ?_⟩, by simp [slen]; omega⟩
            · exact ⟨A9, c9, 0 :: X7, rfl, hr9, by simp; omega, AllD.cons (by omega) halx, by rw [val_zero_cons]; exact HVX.out, hc9⟩
            · exact HX.out.ext (by repeat (first | exact Ext.refl _ | apply Ext.drew | apply Ext.alloc | apply Ext.more_))
            · exact hxr.trans (by repeat (first | exact Ext.refl _ | apply Ext.drew | apply Ext.alloc | apply Ext.more_))
          · clear hvx
            go_wp2_with fail
            go_ret3
            rw [HNa.out, HNb.out, HLLa.out, HLLb.out]
            obtain rfl : L1 = max La Lb := by omega
            obtain rfl : L2 = max La Lb := by omega
            exact ⟨⟨_, _, rfl, HX.out, HY.out⟩, hxr⟩
  · have e1 : decide (e + (kb : Int) < e + (ka : Int)) = false := by simp; omega
    have hka0 : ka = 0 := by have := hcmp.out; omega
    subst hka0
    simp only [show ((0 : Nat) : Int) = 0 from rfl, Int.add_zero] at hwa e1 s1
    simp only [show ((0 : Nat) : Int) = 0 from rfl, Int.add_zero]
    go_enter Tryz.func163, Tryz.ntmps163
    go_wp2_with (first | (go_at_call_of 196 (Value.slice A la.length ca); (with_reducible refine (hwa _ (HA.out.ext (by repeat (first | exact Ext.refl _ | apply Ext.drew | apply Ext.alloc | apply Ext.more_)))).mono ?_); rintro r w' ⟨va, rfl, hva, hxa⟩; obtain ⟨osa, da, rfl⟩ := hxa.more) | (go_at_call 196; (with_reducible refine (hwb _ (HB.out.ext (by repeat (first | exact Ext.refl _ | apply Ext.drew | apply Ext.alloc | apply Ext.more_)))).mono ?_); rintro r w' ⟨vb, rfl, hvb, hxb⟩; obtain ⟨osb, db, rfl⟩ := hxb.more))
    have hLa := (LvOut.of_own_ (w := w) hva (hda.append (AllD.rep _ _ (by omega))) (by simp; omega)).ext hxb
    have hLb := LvOut.of_own_ (w := w) hvb (hdb.append (AllD.rep _ _ (by omega))) (by simp; omega)
    rw [val_zeros] at hLa hLb
    have hxW : Ext w (more (more ((w.alloc (.cells #[.bool na, .slice A la.length ca, .int .i64 e] 80)).alloc (.cells #[.bool nb, .slice B lb.length cb, .int .i64 (e + (kb : Int))] 80)) osa da) osb db) := by repeat (first | exact Ext.refl _ | apply Ext.drew | apply Ext.alloc | apply Ext.more_)
    refine wp_world fun W hW => ?_
    rw [more_more, ← hW] at hLa hLb hxW
    clear hW hva hvb hxa hxb
    obtain ⟨Aa, cx, Xa, rfl, hra, hna, hala, hvala, hcx⟩ := hLa
    obtain ⟨Ab, cy, Xb, rfl, hrb, hnb, halb, hvalb, hcy⟩ := hLb
    generalize hNa : val la * T 0 = Na at *
    generalize hNb : val lb * T kb = Nb at *
    generalize hLLa : la.length + 0 = La at *
    generalize hLLb : lb.length + kb = Lb at *
    have HLa : Hid (LvOut w La Na (.slice Aa La cx) W) := ⟨Aa, cx, Xa, rfl, hra, hna, hala, hvala, hcx⟩
    have HLb : Hid (LvOut w Lb Nb (.slice Ab Lb cy) W) := ⟨Ab, cy, Xb, rfl, hrb, hnb, halb, hvalb, hcy⟩
    have HNa := Lib.hid hNa
    have HNb := Lib.hid hNb
    have HLLa := Lib.hid hLLa
    have HLLb := Lib.hid hLLb
    clear hra hna hala hvala hcx hrb hnb halb hvalb hcy hNa hNb
    have hLab : La ≤ 11000 ∧ Lb ≤ 11000 := by omega
    clear hLLa hLLb hwa hwb e1 s1 s2 hlt
    go_loopw [8] (fun x wr => ∃ L1, La ≤ L1 ∧ L1 ≤ max La Lb ∧ Hid (LvOut w L1 Na x wr) ∧ Hid (LvOut w Lb Nb (.slice Ab Lb cy) wr) ∧ Ext w wr) (fun x _ => Lb - slen x)
    case atStart => exact ⟨La, Nat.le_refl _, by omega, HLa, HLb, hxW⟩
    case round =>
      obtain ⟨L1, hL1, hL2, HX, HY, hxr⟩ := hrel
      obtain ⟨A8, c8, X8, rfl, hrx, hnx, halx, hvx, hcx⟩ := HX.out
      by_cases hll : L1 < Lb
      · have HNX := Lib.hid hnx
        have HVX := Lib.hid hvx
        clear hvx
        go_wp2_with (at_builtin; refine wpList_append_full _ rfl _ _ _ rfl 3 i0 (.int .i64 0) 1 8 Tryz.underlying77 hi hz0 hz1 hz2 rfl (by decide) w.heap.size _ 1 [.int .i64 0] rfl (by simp) rfl ((Rd.one _ _ _).mono hxr.size) (by have := hxr.size; simp; omega) A8 L1 c8 (i6 X8) rfl (by simp; omega) ((Rd.alloc hrx _).mono (Nat.zero_le _)) (one_i6 _) (by simp [maxLen]; omega) (by omega) ?_; intro A9 c9 os9 d9 hr9 hn9 hc9)
        refine ⟨⟨1 + L1, by omega, by omega, ?_, ?_, ?_⟩, by simp [slen]; omega⟩
        · exact ⟨A9, c9, 0 :: X8, rfl, hr9, by simp; omega, AllD.cons (by omega) halx, by rw [val_zero_cons]; exact HVX.out, hc9⟩
        · exact HY.out.ext (by repeat (first | exact Ext.refl _ | apply Ext.drew | apply Ext.alloc | apply Ext.more_))
        · exact hxr.trans (by repeat (first | exact Ext.refl _ | apply Ext.drew | apply Ext.alloc | apply Ext.more_))
      · have HNX := Lib.hid hnx
        have HVX := Lib.hid hvx
        clear hvx
        go_wp2_with fail
        go_loopw [9] (fun y wq => ∃ L2, Lb ≤ L2 ∧ L2 ≤ max La Lb ∧ Hid (LvOut w L2 Nb y wq) ∧ Hid (LvOut w L1 Na (.slice A8 L1 c8) wq) ∧ Ext w wq) (fun y _ => La - slen y)
        case atStart => exact ⟨Lb, Nat.le_refl _, by omega, HY, HX, hxr⟩
        case round =>
          clear hrx hnx halx hcx HNX HVX HX HY hxr
          obtain ⟨L2, hL3, hL4, HY, HX, hxr⟩ := hrel
          obtain ⟨A7, c7, X7, rfl, hrx, hnx, halx, hvx, hcx⟩ := HY.out
          by_cases hll2 : L2 < L1
          · have HNX := Lib.hid hnx
            have HVX := Lib.hid hvx
            clear hvx
            go_wp2_with (at_builtin; refine wpList_append_full _ rfl _ _ _ rfl 3 i0 (.int .i64 0) 1 8 Tryz.underlying77 hi hz0 hz1 hz2 rfl (by decide) w.heap.size _ 1 [.int .i64 0] rfl (by simp) rfl ((Rd.one _ _ _).mono hxr.size) (by have := hxr.size; simp; omega) A7 L2 c7 (i6 X7) rfl (by simp; omega) ((Rd.alloc hrx _).mono (Nat.zero_le _)) (one_i6 _) (by simp [maxLen]; omega) (by omega) ?_; intro A9 c9 os9 d9 hr9 hn9 hc9)
            refine ⟨⟨1 + L2, by omega, by omega, ?_, ?_, ?_⟩, by simp [slen]; omega⟩
            · exact ⟨A9, c9, 0 :: X7, rfl, hr9, by simp; omega, AllD.cons (by omega) halx, by rw [val_zero_cons]; exact HVX.out, hc9⟩
            · exact HX.out.ext (by repeat (first | exact Ext.refl _ | apply Ext.drew | apply Ext.alloc | apply Ext.more_))
            · exact hxr.trans (by repeat (first | exact Ext.refl _ | apply Ext.drew | apply Ext.alloc | apply Ext.more_))
          · clear hvx
            go_wp2_with fail
            go_ret3
            rw [HNa.out, HNb.out, HLLa.out, HLLb.out]
            obtain rfl : L1 = max La Lb := by omega
            obtain rfl : L2 = max La Lb := by omega
            exact ⟨⟨_, _, rfl, HX.out, HY.out⟩, hxr⟩
end Go.Proofs.YtlfbdodokldkhaaGreatDoor
namespace Go.Proofs.YtlfbdodokldkhaaGreatDoor
open Go.RowKit NM
theorem split_at_ {l : List Nat} {j d : Nat} (h : l[j]? = some d) : l = l.take j ++ d :: l.drop (j + 1) := by
  have hj : j < l.length := by
    rcases Nat.lt_or_ge j l.length with h1 | h1
    · exact h1
    · rw [List.getElem?_eq_none h1] at h; cases h
  have h1 := List.take_append_drop j l
  rw [List.drop_eq_getElem_cons hj] at h1
  rw [List.getElem?_eq_getElem hj] at h
  rw [← Option.some.inj h]
  exact h1.symm
theorem less_at {X Y : List Nat} {j x y : Nat} (hl : X.length = Y.length) (hX : AllD X) (hY : AllD Y) (he : X.take j = Y.take j) (hx : X[j]? = some x) (hy : Y[j]? = some y) (hne : x ≠ y) : decide (x < y) = decide (val X < val Y) := by
  have h1 := split_at_ hx
  have h2 := split_at_ hy
  have h3 := val_lt (hX.drop (j + 1))
  have h4 := val_lt (hY.drop (j + 1))
  have h5 : (X.drop (j + 1)).length = (Y.drop (j + 1)).length := by simp; omega
  have e1 : val X = val (X.take j) * T (X.drop (j + 1)).length * 10 + x * T (X.drop (j + 1)).length + val (X.drop (j + 1)) := by
    conv => lhs; rw [h1]
    rw [val_append, val_cons, List.length_cons, T_succ, Nat.mul_comm 10, ← Nat.mul_assoc, Nat.add_assoc]
  have e2 : val Y = val (X.take j) * T (X.drop (j + 1)).length * 10 + y * T (X.drop (j + 1)).length + val (Y.drop (j + 1)) := by
    conv => lhs; rw [h2]
    rw [val_append, val_cons, List.length_cons, T_succ, Nat.mul_comm 10, ← Nat.mul_assoc, Nat.add_assoc, he, h5]
  rw [← h5] at h4
  rw [e1, e2]
  generalize T (X.drop (j + 1)).length = t at *
  generalize val (X.take j) * t * 10 = z at *
  rw [Bool.eq_iff_iff, decide_eq_true_eq, decide_eq_true_eq]
  constructor
  · intro h
    have := Nat.mul_le_mul_right t (show x + 1 ≤ y from h)
    rw [Nat.add_mul, Nat.one_mul] at this
    omega
  · intro h
    rcases Nat.lt_or_ge x y with h6 | h6
    · exact h6
    · exfalso
      have := Nat.mul_le_mul_right t (show y + 1 ≤ x by omega)
      rw [Nat.add_mul, Nat.one_mul] at this
      omega
set_option maxHeartbeats 2000000 in
theorem less_any (A B : Option Addr) (ca cb L : Nat) (X Y : List Nat) (w : World) (hA : Rd 0 w A (i6 X)) (hB : Rd 0 w B (i6 Y)) (hX : X.length = L) (hY : Y.length = L) (hXd : AllD X) (hYd : AllD Y) (hL : L ≤ 1000000) :
    Calls Tryz.prog 164 #[.slice A L ca, .slice B L cb] w fun e w' => e = .returned (.bool (decide (val X < val Y))) ∧ Ext w w' := by
  have HA := Lib.hid hA
  have HB := Lib.hid hB
  have HX := Lib.hid hX
  have HY := Lib.hid hY
  generalize hR : decide (val X < val Y) = R
  have HR := Lib.hid hR
  clear hA hB hX hY hR
  go_enter Tryz.func164, Tryz.ntmps164
  go_wp2
  go_loopw [5] (fun i wr => ∃ j : Nat, j ≤ L ∧ i = .int .i64 (j : Int) ∧ Hid (X.take j = Y.take j) ∧ Ext w wr) (fun i _ => L - (intOf i).toNat)
  case atStart => exact ⟨0, Nat.zero_le _, rfl, by show _ = _; rfl, Ext.refl _⟩
  case round =>
    obtain ⟨j, hj, rfl, HE, hxr⟩ := hrel
    by_cases hlt : j < L
    · obtain ⟨x, hx⟩ : ∃ x, X[j]? = some x := ⟨X[j]'(by have := HX.out; omega), by rw [List.getElem?_eq_getElem]⟩
      obtain ⟨y, hy⟩ : ∃ y, Y[j]? = some y := ⟨Y[j]'(by have := HY.out; omega), by rw [List.getElem?_eq_getElem]⟩
      obtain ⟨ba, oa, rfl, _, hcx⟩ := Rd.at_ (HA.out.ext hxr) hx
      obtain ⟨bb, ob, rfl, _, hcy⟩ := Rd.at_ (HB.out.ext hxr) hy
      have hba := lt_of_cell hcx
      have hbb := lt_of_cell hcy
      simp only at hba hbb
      by_cases hne : x = y
      · subst hne
        have HN : Hid (X.take (j + 1) = Y.take (j + 1)) := by show _ = _; rw [take_at hx, take_at hy, HE.out]
        clear hx hy
        go_wp2
        refine wp_plan (S := Ext _) [(0, 0), (1, 0), (2, 0), (3, 0), (4, 0), (5, 0), (6, 0), (7, 0), (8, 0)] [] (by kernel_rfl) (by kernel_rfl) (by kernel_rfl) (fun _ _ d _ _ h => by cases d <;> exact h) (Ext.drew (Ext.refl _)) ?_
        iterate 9 ((refine wpPl_read (v := ?_) rfl ?_ (fun _ h => ?_) ?_; rotate_left 1; rfl; (obtain ⟨_, _, rfl⟩ := h.more; go_simp; try rfl)); try simp only [Act.put, zqA, zqB, zqC])
        refine wpPl_nil ?_
        go_wp2
        refine ⟨⟨j + 1, by omega, by go_num, HN, ?_⟩, by simp [intOf]; omega⟩
        exact hxr.trans (by repeat (first | exact Ext.refl _ | apply Ext.drew | apply Ext.alloc | apply Ext.more_))
      · have hRR : decide (x < y) = R := by rw [less_at (by rw [HX.out, HY.out]) hXd hYd HE.out hx hy hne]; exact HR.out
        have HRR := Lib.hid hRR
        have e1 : ((x : Int) == (y : Int)) = false := by simp; omega
        have e2 : (x == y) = false := by simp; omega
        clear hx hy hRR
        go_wp2
        refine wp_plan (S := Ext _) [(0, 0), (1, 0), (2, 0), (3, 0), (4, 0), (5, 0), (6, 0), (7, 0), (8, 0)] [] (by kernel_rfl) (by kernel_rfl) (by kernel_rfl) (fun _ _ d _ _ h => by cases d <;> exact h) (Ext.drew (Ext.refl _)) ?_
        iterate 9 ((refine wpPl_read (v := ?_) rfl ?_ (fun _ h => ?_) ?_; rotate_left 1; rfl; (obtain ⟨_, _, rfl⟩ := h.more; go_simp; try rfl)); try simp only [Act.put, zqA, zqB, zqC])
        refine wpPl_nil ?_
        go_wp2
        refine wp_plan (S := Ext _) [(0, 0), (1, 0), (2, 0), (3, 0), (4, 0), (5, 0), (6, 0), (7, 0), (8, 0), (9, 0)] [] (by kernel_rfl) (by kernel_rfl) (by kernel_rfl) (fun _ _ d _ _ h => by cases d <;> exact h) (Ext.drew (Ext.refl _)) ?_
        iterate 10 ((refine wpPl_read (v := ?_) rfl ?_ (fun _ h => ?_) ?_; rotate_left 1; rfl; (obtain ⟨_, _, rfl⟩ := h.more; go_simp; try rfl)); try simp only [Act.put, zqA, zqB, zqC])
        refine wpPl_nil ?_
        go_wp2
        go_ret
        exact ⟨ret_bool HRR.out, hxr.trans (by repeat (first | exact Ext.refl _ | apply Ext.drew | apply Ext.alloc | apply Ext.more_))⟩
    · have hRR : R = false := by
        rw [← HR.out]
        have h1 := HE.out
        rw [List.take_of_length_le (by have := HX.out; omega), List.take_of_length_le (by have := HY.out; omega)] at h1
        rw [h1]; simp
      subst hRR
      go_wp2
      go_ret
      exact ⟨rfl, hxr⟩
end Go.Proofs.YtlfbdodokldkhaaGreatDoor
namespace Go.Proofs.YtlfbdodokldkhaaGreatDoor
open Go.RowKit NM
theorem Rd.set_low {base : Nat} {w : World} {A : Option Addr} {cs : List Value} {p : Addr} (v : Value) (h : Rd base w A cs) (hp : p.block < base) : Rd base (w.setCell p v) A cs :=
  h.blocks fun b hb => RowKit.Below.heap_setCell _ _ _ _ (by omega)
/-- An exact value, as it is handed back. -/
def DecOut (w : World) (neg : Bool) (L N : Nat) (ex : Int) (e : Ending) (w' : World) : Prop := ∃ A c X, e = .returned (DecV neg A L c ex) ∧ Rd w.heap.size w' A (i6 X) ∧ X.length = L ∧ AllD X ∧ val X = N ∧ L ≤ c
/-- What Plus keeps in its loops. -/
structure PlusSt (W : World) (L j : Nat) (S : List Nat) (wr : World) : Prop where
  out : Dg .i64 3 W.heap.size wr (some ⟨W.heap.size, 0, none⟩) (L + 1) (List.replicate (j + 1) 0 ++ S)
  len : S.length = L - j
  all : AllD S
  ext : Ext W wr
theorem PlusSt.step {W wr : World} {L j d : Nat} {S : List Nat} (h : PlusSt W L (j + 1) S wr) (hd : d < 10) (hj : j + 1 ≤ L) : PlusSt W L j (d :: S) (wr.setCell ⟨W.heap.size, j + 1, none⟩ (.int .i64 (d : Int))) := by
  refine ⟨?_, by simp [h.len]; omega, AllD.cons hd h.all, h.ext.set _ (Nat.le_refl _)⟩
  have := h.out.set (i := j + 1) (d := d) (by simp; omega)
  rw [Nat.zero_add, List.set_append_left _ _ (by simp)] at this
  have he : (List.replicate (j + 1 + 1) 0).set (j + 1) d = List.replicate (j + 1) 0 ++ [d] := by
    rw [List.replicate_succ', List.set_append_right _ _ (by simp)]; simp
  rw [he, List.append_assoc, List.singleton_append] at this
  exact this
theorem PlusSt.at {W wr : World} {L j : Nat} {S : List Nat} (h : PlusSt W L j S wr) : wr.cell? ⟨W.heap.size, j, none⟩ = some (.int .i64 0) ∧ wr.frozen? ⟨W.heap.size, j, none⟩ = false := by
  obtain ⟨b, off, h1, _, h2, h3⟩ := h.out.at (i := j) (d := 0) (by rw [List.getElem?_append_left (by simp)]; simp [List.getElem?_replicate])
  simp only [Option.some.injEq, Addr.mk.injEq, and_true] at h1
  obtain ⟨rfl, rfl⟩ := h1
  rw [Nat.zero_add] at h2 h3
  exact ⟨h2, h3⟩
theorem PlusSt.drew {W wr : World} {L j : Nat} {S : List Nat} (h : PlusSt W L j S wr) : PlusSt W L j S wr.drew := ⟨h.out, h.len, h.all, h.ext.drew⟩
theorem PlusSt.ext_ {W wr wr' : World} {L j : Nat} {S : List Nat} (h : PlusSt W L j S wr) (hx : Ext wr wr') : PlusSt W L j S wr' := ⟨h.out.ext hx, h.len, h.all, h.ext.trans hx⟩
theorem PlusSt.last {W wr : World} {L : Nat} {S : List Nat} (h : PlusSt W L 0 S wr) (d : Nat) : Dg .i64 3 W.heap.size (wr.setCell ⟨W.heap.size, 0, none⟩ (.int .i64 (d : Int))) (some ⟨W.heap.size, 0, none⟩) (L + 1) (d :: S) := by
  have := h.out.set (i := 0) (d := d) (by simp)
  simpa using this
set_option maxHeartbeats 2000000 in
theorem plus_same (neg : Bool) (A B : Option Addr) (ca cb : Nat) (la lb : List Nat) (ea eb : Int) (e : Int) (ka kb L : Nat) (w : World) (ha : Rd 0 w A (i6 la)) (hb : Rd 0 w B (i6 lb)) (hla : la.length ≤ 1000) (hlb : lb.length ≤ 1000)
    (hka : ea = e + ka) (hkb : eb = e + kb) (hk0 : ka = 0 ∨ kb = 0) (hkk : ka ≤ 10000 ∧ kb ≤ 10000) (he : -1000000 ≤ e ∧ e ≤ 1000000) (hda : AllD la) (hdb : AllD lb) (hL : max (la.length + ka) (lb.length + kb) = L) :
    Calls Tryz.prog 128 #[DecV neg A la.length ca ea, DecV neg B lb.length cb eb] w fun r w' => DecOut w neg (L + 1) (val la * T ka + val lb * T kb) e r w' ∧ Ext w w' := by
  have hlv := fun W h1 h2 => level_any neg neg A B ca cb la lb ea eb e ka kb W h1 h2 hla hlb hka hkb hk0 hkk he hda hdb
  rw [hL] at hlv
  have hLb : L ≤ 11000 := by omega
  have hNa : val la * T ka < T L := by
    rw [← val_zeros]
    exact Nat.lt_of_lt_of_le (val_lt (hda.append (AllD.rep _ _ (by omega)))) (T_mono (by simp; omega))
  have hNb : val lb * T kb < T L := by
    rw [← val_zeros]
    exact Nat.lt_of_lt_of_le (val_lt (hdb.append (AllD.rep _ _ (by omega)))) (T_mono (by simp; omega))
  generalize val la * T ka = Na at *
  generalize val lb * T kb = Nb at *
  have HA := Lib.hid ha
  have HB := Lib.hid hb
  have HNa := Lib.hid hNa
  have HNb := Lib.hid hNb
  clear ha hb hka hkb hk0 hkk hL hNa hNb
  have hmk := make_int (L + 1) (by omega)
  rw [show (((L + 1 : Nat)) : Int) = (L : Int) + 1 by omega] at hmk
  go_enter Tryz.func128, Tryz.ntmps128
  go_upto_region 2 with (go_at_call 163; (with_reducible refine (hlv _ (HA.out.ext (by repeat (first | exact Ext.refl _ | apply Ext.drew | apply Ext.alloc | apply Ext.more_))) (HB.out.ext (by repeat (first | exact Ext.refl _ | apply Ext.drew | apply Ext.alloc | apply Ext.more_)))).mono ?_); rintro r w' ⟨⟨va, vb, rfl, hva, hvb⟩, hx⟩; obtain ⟨os, d, rfl⟩ := hx.more; obtain ⟨Ax, cx, X, rfl, hrx, hnx, hax, hvx, hcx⟩ := hva; obtain ⟨Ay, cy, Y, rfl, hry, hny, hay, hvy, hcy⟩ := hvb)
  refine wp_world fun W hW => ?_
  have c0 : W.cell? ⟨w.heap.size, 0, none⟩ = some (.bool neg) := by rw [hW]; go_simp
  have c1 : W.cell? ⟨w.heap.size + 1, 0, none⟩ = some (.bool neg) := by rw [hW]; go_simp
  have r0 : W.cell? ⟨w.heap.size + 1 + 1, 0, none⟩ = some (.bool false) := by rw [hW]; go_simp
  have r1 : W.cell? ⟨w.heap.size + 1 + 1, 1, none⟩ = some (.slice none 0 0) := by rw [hW]; go_simp
  have r2 : W.cell? ⟨w.heap.size + 1 + 1, 2, none⟩ = some (.int .i64 0) := by rw [hW]; go_simp
  have q0 : W.frozen? ⟨w.heap.size + 1 + 1, 0, none⟩ = false := by rw [hW]; go_simp
  have q1 : W.frozen? ⟨w.heap.size + 1 + 1, 1, none⟩ = false := by rw [hW]; go_simp
  have q2 : W.frozen? ⟨w.heap.size + 1 + 1, 2, none⟩ = false := by rw [hW]; go_simp
  have hz : w.heap.size + 1 + 1 < W.heap.size := by rw [hW]; simp; try omega
  have hz1 : w.heap.size + 1 < W.heap.size := by omega
  have hz0 : w.heap.size < W.heap.size := by omega
  have hxW : Ext w W := by rw [hW]; exact by repeat (first | exact Ext.refl _ | apply Ext.drew | apply Ext.alloc | apply Ext.more_)
  have HX : Hid (Rd 0 W Ax (i6 X)) := by show Rd _ _ _ _; rw [hW]; exact hrx.mono (Nat.zero_le _)
  have HY : Hid (Rd 0 W Ay (i6 Y)) := by show Rd _ _ _ _; rw [hW]; exact hry.mono (Nat.zero_le _)
  clear hW hrx hry hx
  have HS : Hid (PlusSt W L L [] (W.alloc (.cells (madeCells #[.int .i64 0] (L + 1)) 3))) := ⟨by have := made_dg (k := .i64) (ty := 3) (w := W) (L + 1) rfl (Nat.le_refl _); simpa using this, by simp, AllD.nil, (Ext.refl _).alloc _⟩
  have HNX := Lib.hid hnx
  have HNY := Lib.hid hny
  have HVX := Lib.hid hvx
  have HVY := Lib.hid hvy
  clear hnx hny hvx hvy
  go_wp2
  go_loopw [9, 10] (fun a i wr => ∃ (j c : Nat) (S : List Nat), j ≤ L ∧ c ≤ 1 ∧ i = .int .i64 ((j : Int) - 1) ∧ a = .int .i64 (c : Int) ∧ Hid (PlusSt W L j S wr) ∧ Hid (val (X.drop j) + val (Y.drop j) = c * T S.length + val S)) (fun _ i _ => ((intOf i) + 1).toNat)
  case atStart =>
    exact ⟨L, 0, [], Nat.le_refl _, by omega, by go_num, rfl, HS, by show _ = _; rw [List.drop_eq_nil_of_le (by rw [HNX.out]; exact Nat.le_refl _), List.drop_eq_nil_of_le (by rw [HNY.out]; exact Nat.le_refl _)]; simp [val_nil]⟩
  case round =>
    obtain ⟨j, c, S, hj, hc, rfl, rfl, H, HV⟩ := hrel
    have hxr := H.out.ext
    have hsz := hxr.size
    cases j with
    | zero =>
      obtain ⟨o0, o1⟩ := H.out.at
      have c0' := hxr.cell_some c0
      have r0' := hxr.cell_some r0
      have r1' := hxr.cell_some r1
      have r2' := hxr.cell_some r2
      have q0' := (hxr.frozen (p := ⟨w.heap.size + 1 + 1, 0, none⟩) (by show w.heap.size + 1 + 1 < _; omega)).trans q0
      have q1' := (hxr.frozen (p := ⟨w.heap.size + 1 + 1, 1, none⟩) (by show w.heap.size + 1 + 1 < _; omega)).trans q1
      have q2' := (hxr.frozen (p := ⟨w.heap.size + 1 + 1, 2, none⟩) (by show w.heap.size + 1 + 1 < _; omega)).trans q2
      have HLAST := Lib.hid (H.out.last c)
      go_wp2
      refine bodyPost_ret (v := DecV neg (some ⟨W.heap.size, 0, none⟩) (L + 1) (L + 1) e) (by simp [results, Tryz.results128, go_sem, hz, r0', r1', r2']) rfl ⟨⟨_, _, c :: S, rfl, ?_, by have := H.out.len; simp; omega, AllD.cons (by omega) H.out.all, ?_, Nat.le_refl _⟩, ?_⟩
      · exact (((HLAST.out.rd.set_low _ hz).set_low _ hz).set_low _ hz).mono (by omega)
      · rw [val_cons]
        have := HV.out
        rw [List.drop_zero, List.drop_zero, HVX.out, HVY.out] at this
        omega
      · exact (((((hxW.trans hxr).set _ (by show w.heap.size ≤ W.heap.size; omega)).set _ (by show w.heap.size ≤ w.heap.size + 1 + 1; omega)).set _ (by show w.heap.size ≤ w.heap.size + 1 + 1; omega)).set _ (by show w.heap.size ≤ w.heap.size + 1 + 1; omega))
    | succ j =>
      have hjL : j < L := by omega
      obtain ⟨x, hxj⟩ : ∃ x, X[j]? = some x := ⟨X[j]'(by have := HNX.out; omega), by rw [List.getElem?_eq_getElem]⟩
      obtain ⟨y, hyj⟩ : ∃ y, Y[j]? = some y := ⟨Y[j]'(by have := HNY.out; omega), by rw [List.getElem?_eq_getElem]⟩
      obtain ⟨ba, oa, rfl, _, hcx'⟩ := Rd.at_ (HX.out.ext hxr) hxj
      obtain ⟨bb, ob, rfl, _, hcy'⟩ := Rd.at_ (HY.out.ext hxr) hyj
      have hba := lt_of_cell hcx'
      have hbb := lt_of_cell hcy'
      simp only at hba hbb
      have hx10 := hax.at hxj
      have hy10 := hay.at hyj
      have HST := Lib.hid (add_step hxj hyj (by rw [HNX.out, HNY.out]) (by rw [H.out.len, HNX.out]) HV.out)
      obtain ⟨o0, o1⟩ := H.out.at
      have t1 : ((x : Int) + (y : Int) + (c : Int)).tmod 10 = (((x + y + c) % 10 : Nat) : Int) := rfl
      have t3 : ((x : Int) + (y : Int) + (c : Int)) % 10 = (((x + y + c) % 10 : Nat) : Int) := rfl
      have t2 : ((x : Int) + (y : Int) + (c : Int)).tdiv 10 = (((x + y + c) / 10 : Nat) : Int) := rfl
      have hd1 : (x + y + c) % 10 < 10 := by omega
      have hd2 : (x + y + c) / 10 ≤ 1 := by omega
      have hji : (((j + 1 : Nat) : Int) - 1) = (j : Int) := by omega
      rw [hji]
      have HSP := Lib.hid (H.out.step hd1 hj)
      clear hxj hyj
      generalize (x + y + c) % 10 = dg at *
      generalize (x + y + c) / 10 = cc at *
      go_wp2
      refine wp_plan (S := Ext _) [(0, 0), (1, 0), (2, 0), (3, 0), (4, 0), (5, 0), (6, 0), (7, 0), (8, 0), (9, 0), (10, 0), (11, 0)] [] (by kernel_rfl) (by kernel_rfl) (by kernel_rfl) (fun _ _ d _ _ h => by cases d <;> exact h) (Ext.drew (Ext.refl _)) ?_
      iterate 12 ((refine wpPl_read (v := ?_) rfl ?_ (fun _ h => ?_) ?_; rotate_left 1; rfl; (obtain ⟨_, _, rfl⟩ := h.more; go_simp; try rfl)); try simp only [Act.put, zqA, zqB, zqC])
      refine wpPl_nil ?_
      go_wp2
      refine ⟨⟨j, cc, dg :: S, by omega, hd2, by go_num, by rw [t2], ?_, ?_⟩, by simp [intOf]⟩
      · exact HSP.out.drew
      · exact HST
set_option maxHeartbeats 2000000 in
theorem plus_diff (na nb : Bool) (A B : Option Addr) (ca cb : Nat) (la lb : List Nat) (ea eb : Int) (e : Int) (ka kb L : Nat) (w : World) (ha : Rd 0 w A (i6 la)) (hb : Rd 0 w B (i6 lb)) (hla : la.length ≤ 1000) (hlb : lb.length ≤ 1000)
    (hka : ea = e + ka) (hkb : eb = e + kb) (hk0 : ka = 0 ∨ kb = 0) (hkk : ka ≤ 10000 ∧ kb ≤ 10000) (he : -1000000 ≤ e ∧ e ≤ 1000000) (hda : AllD la) (hdb : AllD lb) (hne : na ≠ nb) (hL : max (la.length + ka) (lb.length + kb) = L) :
    Calls Tryz.prog 128 #[DecV na A la.length ca ea, DecV nb B lb.length cb eb] w fun r w' => DecOut w (if val la * T ka < val lb * T kb then nb else na) (L + 1) (if val la * T ka < val lb * T kb then val lb * T kb - val la * T ka else val la * T ka - val lb * T kb) e r w' ∧ Ext w w' := by
  have hlv := fun W h1 h2 => level_any na nb A B ca cb la lb ea eb e ka kb W h1 h2 hla hlb hka hkb hk0 hkk he hda hdb
  rw [hL] at hlv
  have hLb : L ≤ 11000 := by omega
  generalize val la * T ka = Na at *
  generalize val lb * T kb = Nb at *
  generalize hNG : (if Na < Nb then nb else na) = NG
  generalize hVV : (if Na < Nb then Nb - Na else Na - Nb) = VV
  have HNG := Lib.hid hNG
  have HVV := Lib.hid hVV
  clear hNG hVV
  have HA := Lib.hid ha
  have HB := Lib.hid hb
  clear ha hb hka hkb hk0 hkk hL
  have hmk := make_int (L + 1) (by omega)
  rw [show (((L + 1 : Nat)) : Int) = (L : Int) + 1 by omega] at hmk
  go_enter Tryz.func128, Tryz.ntmps128
  go_upto_region 2 with (go_at_call 163; (with_reducible refine (hlv _ (HA.out.ext (by repeat (first | exact Ext.refl _ | apply Ext.drew | apply Ext.alloc | apply Ext.more_))) (HB.out.ext (by repeat (first | exact Ext.refl _ | apply Ext.drew | apply Ext.alloc | apply Ext.more_)))).mono ?_); rintro r w' ⟨⟨va, vb, rfl, hva, hvb⟩, hx⟩; obtain ⟨os, d, rfl⟩ := hx.more; obtain ⟨Ax, cx, X, rfl, hrx, hnx, hax, hvx, hcx⟩ := hva; obtain ⟨Ay, cy, Y, rfl, hry, hny, hay, hvy, hcy⟩ := hvb)
  refine wp_world fun W hW => ?_
  have c0 : W.cell? ⟨w.heap.size, 0, none⟩ = some (.bool na) := by rw [hW]; go_simp
  have c1 : W.cell? ⟨w.heap.size + 1, 0, none⟩ = some (.bool nb) := by rw [hW]; go_simp
  have r0 : W.cell? ⟨w.heap.size + 1 + 1, 0, none⟩ = some (.bool false) := by rw [hW]; go_simp
  have r1 : W.cell? ⟨w.heap.size + 1 + 1, 1, none⟩ = some (.slice none 0 0) := by rw [hW]; go_simp
  have r2 : W.cell? ⟨w.heap.size + 1 + 1, 2, none⟩ = some (.int .i64 0) := by rw [hW]; go_simp
  have q0 : W.frozen? ⟨w.heap.size + 1 + 1, 0, none⟩ = false := by rw [hW]; go_simp
  have q1 : W.frozen? ⟨w.heap.size + 1 + 1, 1, none⟩ = false := by rw [hW]; go_simp
  have q2 : W.frozen? ⟨w.heap.size + 1 + 1, 2, none⟩ = false := by rw [hW]; go_simp
  have hz : w.heap.size + 1 + 1 < W.heap.size := by rw [hW]; simp; try omega
  have hz1 : w.heap.size + 1 < W.heap.size := by omega
  have hz0 : w.heap.size < W.heap.size := by omega
  have hxW : Ext w W := by rw [hW]; exact by repeat (first | exact Ext.refl _ | apply Ext.drew | apply Ext.alloc | apply Ext.more_)
  have HX : Hid (Rd 0 W Ax (i6 X)) := by show Rd _ _ _ _; rw [hW]; exact hrx.mono (Nat.zero_le _)
  have HY : Hid (Rd 0 W Ay (i6 Y)) := by show Rd _ _ _ _; rw [hW]; exact hry.mono (Nat.zero_le _)
  clear hW hrx hry hx
  have HS : Hid (PlusSt W L L [] (W.alloc (.cells (madeCells #[.int .i64 0] (L + 1)) 3))) := ⟨by have := made_dg (k := .i64) (ty := 3) (w := W) (L + 1) rfl (Nat.le_refl _); simpa using this, by simp, AllD.nil, (Ext.refl _).alloc _⟩
  have HNX := Lib.hid hnx
  have HNY := Lib.hid hny
  have HVX := Lib.hid hvx
  have HVY := Lib.hid hvy
  clear hnx hny hvx hvy
  have hne' : (na == nb) = false := by simpa using hne
  have hls := fun W' (hx' : Ext W W') => less_any Ax Ay cx cy L X Y W' (HX.out.ext hx') (HY.out.ext hx') HNX.out HNY.out hax hay (by omega)
  go_upto_if 70 with (go_at_call 164; (with_reducible refine (hls _ (by repeat (first | exact Ext.refl _ | apply Ext.drew | apply Ext.alloc | apply Ext.more_))).mono ?_); rintro r w' ⟨rfl, hx⟩; obtain ⟨os2, d2, rfl⟩ := hx.more)
  have HS2 := HS.out.ext_ (ext_more _ os2 d2)
  have HS2 := Lib.hid HS2
  refine wp_world fun W2 hW2 => ?_
  rw [← hW2] at HS2
  clear hW2 HS hls hx
  have hx2 := HS2.out.ext
  have hz2 := hx2.size
  have c1' := hx2.cell_some c1
  go_cut [5, 6, 12] (fun s5 s6 s12 wx => ∃ (Ap Aq : Option Addr) (cp cq : Nat) (P Q : List Nat) (n : Bool), s5 = .slice Ap L cp ∧ s6 = .slice Aq L cq ∧ s12 = .bool n ∧ wx = W2 ∧ Hid (Rd 0 W Ap (i6 P)) ∧ Hid (Rd 0 W Aq (i6 Q)) ∧ Hid (P.length = L) ∧ Hid (Q.length = L) ∧ AllD P ∧ AllD Q ∧ L ≤ cp ∧ L ≤ cq ∧ Hid (val Q ≤ val P ∧ n = NG ∧ val P - val Q = VV))
  case first =>
    by_cases hlt : val X < val Y
    · have e1 : decide (val X < val Y) = true := by simp [hlt]
      have hN : Na < Nb := by rw [← HVX.out, ← HVY.out]; exact hlt
      have HN := Lib.hid hN
      have HLT := Lib.hid hlt
      clear hlt hN
      go_wp2
      go_meet
      exact ⟨Ay, Ax, cy, cx, Y, X, nb, rfl, rfl, rfl, rfl, HY, HX, HNY, HNX, hay, hax, hcy, hcx, Nat.le_of_lt HLT.out, by rw [← HNG.out, if_pos HN.out], by rw [← HVV.out, if_pos HN.out, HVX.out, HVY.out]⟩
    · have e1 : decide (val X < val Y) = false := by simp [hlt]
      have hN : ¬ Na < Nb := by rw [← HVX.out, ← HVY.out]; exact hlt
      have HN := Lib.hid hN
      have HLT := Lib.hid hlt
      clear hlt hN
      go_wp2
      go_meet
      exact ⟨Ax, Ay, cx, cy, X, Y, na, rfl, rfl, rfl, rfl, HX, HY, HNX, HNY, hax, hay, hcx, hcy, Nat.le_of_not_lt HLT.out, by rw [← HNG.out, if_neg HN.out], by rw [← HVV.out, if_neg HN.out, HVX.out, HVY.out]⟩
  case rest =>
  clear HX HY HNX HNY HVX HVY hax hay hcx hcy c1'
  obtain ⟨Ap, Aq, cp, cq, X, Y, n, rfl, rfl, rfl, rfl, HX, HY, HNX, HNY, hax, hay, hcx, hcy, HFIN⟩ := hcut
  go_wp2
  go_loopw [13, 14] (fun a i wr => ∃ (j c : Nat) (S : List Nat), j ≤ L ∧ c ≤ 1 ∧ i = .int .i64 ((j : Int) - 1) ∧ a = .int .i64 (c : Int) ∧ Hid (PlusSt W L j S wr) ∧ Hid (val (X.drop j) + c * T S.length = val (Y.drop j) + val S)) (fun _ i _ => ((intOf i) + 1).toNat)
  case atStart =>
    exact ⟨L, 0, [], Nat.le_refl _, by omega, by go_num, rfl, HS2, by show _ = _; rw [List.drop_eq_nil_of_le (by rw [HNX.out]; exact Nat.le_refl _), List.drop_eq_nil_of_le (by rw [HNY.out]; exact Nat.le_refl _)]; simp [val_nil]⟩
  case round =>
    obtain ⟨j, c, S, hj, hc, rfl, rfl, H, HV⟩ := hrel
    have hxr := H.out.ext
    have hsz := hxr.size
    cases j with
    | zero =>
      have r0' := hxr.cell_some r0
      have r1' := hxr.cell_some r1
      have r2' := hxr.cell_some r2
      have q0' := (hxr.frozen (p := ⟨w.heap.size + 1 + 1, 0, none⟩) (by show w.heap.size + 1 + 1 < _; omega)).trans q0
      have q1' := (hxr.frozen (p := ⟨w.heap.size + 1 + 1, 1, none⟩) (by show w.heap.size + 1 + 1 < _; omega)).trans q1
      have q2' := (hxr.frozen (p := ⟨w.heap.size + 1 + 1, 2, none⟩) (by show w.heap.size + 1 + 1 < _; omega)).trans q2
      have hz' : w.heap.size + 1 + 1 < wr.heap.size := by omega
      go_wp2
      obtain ⟨f1, f2, f3⟩ := HFIN.out
      refine bodyPost_ret (v := DecV n (some ⟨W.heap.size, 0, none⟩) (L + 1) (L + 1) e) (by simp [results, Tryz.results128, go_sem, hz', r0', r1', r2']) rfl ⟨⟨_, _, 0 :: S, by rw [f2], ?_, by have := H.out.len; simp; omega, AllD.cons (by omega) H.out.all, ?_, Nat.le_refl _⟩, ?_⟩
      · have hrd := H.out.out.rd
        exact (((hrd.set_low _ hz).set_low _ hz).set_low _ hz).mono (by omega)
      · rw [← f3, val_cons]
        have h1 := HV.out
        rw [List.drop_zero, List.drop_zero] at h1
        have hS := val_lt H.out.all
        have hc0 : c = 0 := by
          rcases Nat.eq_zero_or_pos c with h0 | h0
          · exact h0
          · exfalso
            have h2 := Nat.mul_le_mul_right (T S.length) h0
            rw [Nat.one_mul] at h2
            omega
        rw [hc0] at h1
        omega
      · exact ((((hxW.trans hxr).set _ (by show w.heap.size ≤ w.heap.size + 1 + 1; omega)).set _ (by show w.heap.size ≤ w.heap.size + 1 + 1; omega)).set _ (by show w.heap.size ≤ w.heap.size + 1 + 1; omega))
    | succ j =>
      have hjL : j < L := by omega
      obtain ⟨x, hxj⟩ : ∃ x, X[j]? = some x := ⟨X[j]'(by have := HNX.out; omega), by rw [List.getElem?_eq_getElem]⟩
      obtain ⟨y, hyj⟩ : ∃ y, Y[j]? = some y := ⟨Y[j]'(by have := HNY.out; omega), by rw [List.getElem?_eq_getElem]⟩
      obtain ⟨ba, oa, rfl, _, hcx'⟩ := Rd.at_ (HX.out.ext hxr) hxj
      obtain ⟨bb, ob, rfl, _, hcy'⟩ := Rd.at_ (HY.out.ext hxr) hyj
      have hba := lt_of_cell hcx'
      have hbb := lt_of_cell hcy'
      simp only at hba hbb
      have hx10 := hax.at hxj
      have hy10 := hay.at hyj
      have HST := Lib.hid (fun d c' => sub_step (d := d) (c' := c') hxj hyj (by rw [HNX.out, HNY.out]) (by rw [H.out.len, HNX.out]) HV.out)
      obtain ⟨o0, o1⟩ := H.out.at
      have hji : (((j + 1 : Nat) : Int) - 1) = (j : Int) := by omega
      rw [hji]
      have HSP := Lib.hid (fun d (hd1 : d < 10) => H.out.step hd1 hj)
      clear hxj hyj
      by_cases hneg : x < y + c
      · have e1 : (x : Int) - (y : Int) - (c : Int) < 0 := by omega
        have e2 : (x : Int) - (y : Int) - (c : Int) + 10 = ((x + 10 - y - c : Nat) : Int) := by omega
        go_wp2
        refine wp_plan (S := Ext _) [(0, 0), (1, 0), (2, 0), (3, 0), (4, 0), (5, 0), (6, 0), (7, 0), (8, 0), (9, 0), (10, 0), (11, 0)] [] (by kernel_rfl) (by kernel_rfl) (by kernel_rfl) (fun _ _ d _ _ h => by cases d <;> exact h) (Ext.drew (Ext.refl _)) ?_
        iterate 12 ((refine wpPl_read (v := ?_) rfl ?_ (fun _ h => ?_) ?_; rotate_left 1; rfl; (obtain ⟨_, _, rfl⟩ := h.more; go_simp; try rfl)); try simp only [Act.put, zqA, zqB, zqC])
        refine wpPl_nil ?_
        go_wp2
        refine ⟨⟨j, 1, (x + 10 - y - c) :: S, by omega, by omega, by go_num, rfl, ?_, HST.out _ _ (by omega)⟩, by simp [intOf]⟩
        have := (HSP.out (x + 10 - y - c) (by omega)).drew
        exact this
      · have e1 : ¬ (x : Int) - (y : Int) - (c : Int) < 0 := by omega
        have e2 : (x : Int) - (y : Int) - (c : Int) = ((x - y - c : Nat) : Int) := by omega
        go_wp2
        refine wp_plan (S := Ext _) [(0, 0), (1, 0), (2, 0), (3, 0), (4, 0), (5, 0), (6, 0), (7, 0), (8, 0), (9, 0), (10, 0), (11, 0)] [] (by kernel_rfl) (by kernel_rfl) (by kernel_rfl) (fun _ _ d _ _ h => by cases d <;> exact h) (Ext.drew (Ext.refl _)) ?_
        iterate 12 ((refine wpPl_read (v := ?_) rfl ?_ (fun _ h => ?_) ?_; rotate_left 1; rfl; (obtain ⟨_, _, rfl⟩ := h.more; go_simp; try rfl)); try simp only [Act.put, zqA, zqB, zqC])
        refine wpPl_nil ?_
        go_wp2
        refine ⟨⟨j, 0, (x - y - c) :: S, by omega, by omega, by go_num, rfl, ?_, HST.out _ _ (by omega)⟩, by simp [intOf]⟩
        have := (HSP.out (x - y - c) (by omega)).drew
        exact this
theorem plus_any (na nb : Bool) (A B : Option Addr) (ca cb : Nat) (la lb : List Nat) (ea eb : Int) (e : Int) (ka kb L : Nat) (w : World) (ha : Rd 0 w A (i6 la)) (hb : Rd 0 w B (i6 lb)) (hla : la.length ≤ 1000) (hlb : lb.length ≤ 1000)
    (hka : ea = e + ka) (hkb : eb = e + kb) (hk0 : ka = 0 ∨ kb = 0) (hkk : ka ≤ 10000 ∧ kb ≤ 10000) (he : -1000000 ≤ e ∧ e ≤ 1000000) (hda : AllD la) (hdb : AllD lb) (hL : max (la.length + ka) (lb.length + kb) = L) :
    Calls Tryz.prog 128 #[DecV na A la.length ca ea, DecV nb B lb.length cb eb] w fun r w' => DecOut w (plusN na nb (val la * T ka) (val lb * T kb)).1 (L + 1) (plusN na nb (val la * T ka) (val lb * T kb)).2 e r w' ∧ Ext w w' := by
  unfold plusN
  by_cases h : na = nb
  · rw [if_pos h]
    subst h
    exact plus_same na A B ca cb la lb ea eb e ka kb L w ha hb hla hlb hka hkb hk0 hkk he hda hdb hL
  · rw [if_neg h]
    have := plus_diff na nb A B ca cb la lb ea eb e ka kb L w ha hb hla hlb hka hkb hk0 hkk he hda hdb h hL
    split
    · rename_i hlt; rw [if_pos hlt, if_pos hlt] at this; exact this
    · rename_i hlt; rw [if_neg hlt, if_neg hlt] at this; exact this
end Go.Proofs.YtlfbdodokldkhaaGreatDoor
namespace Go.Proofs.YtlfbdodokldkhaaGreatDoor
open Go.RowKit NM
theorem bytes_eq {a : ByteArray} {l : List UInt8} (h : a.data.toList = l) : a = ⟨l.toArray⟩ := by
  subst h
  cases a; simp
end Go.Proofs.YtlfbdodokldkhaaGreatDoor
namespace Go.Proofs.YtlfbdodokldkhaaGreatDoor
open Go.RowKit NM
/-- The document's Right, in the same words. -/
theorem rright_rt (m ex : Int) (w : World) (h : I64 m) :
    Calls Tryz.prog 44 #[NV m ex] w fun e w' => e = .returned (.bool (rtB m ex)) ∧ Ext w w' := by
  have := refNumRight_any m ex w h
  rw [← numRight_eq m ex h, numRight_Rt] at this
  exact this
end Go.Proofs.YtlfbdodokldkhaaGreatDoor
namespace Go.Proofs.YtlfbdodokldkhaaGreatDoor
open Go.RowKit NM
/-- A number's exact value, in Nat digits. -/
theorem rof_any (m ex : Int) (w : World) (h : I64 m) :
    Calls Tryz.prog 89 #[NV m ex] w fun e w' => ∃ A c, e = .returned (DecV (decide (m < 0)) A (nd m.natAbs) c ex) ∧ Rd w.heap.size w' A (i6 (dig m.natAbs)) ∧ nd m.natAbs ≤ c ∧ Ext w w' := by
  have hl : (digsI m).length = nd m.natAbs := by unfold digsI; rw [List.length_map, digs_dig, dig_length]
  refine (refOf_any m ex w h).mono fun e w' ⟨A, c, h1, h2, h3, h4⟩ => ⟨A, c, ?_, h2.i6_, by omega, h3⟩
  rw [← hl]; exact h1
set_option maxHeartbeats 1000000 in
theorem zero_any (m ex : Int) (w : World) (hm : I64 m) :
    Calls Tryz.prog 160 #[NV m ex] w fun e w' => e = .returned (NV (if Rt m ex then m else 0) (if Rt m ex then ex else 0)) ∧ Ext w w' := by
  by_cases h : Rt m ex
  · have r1 := rtB_yes h
    rw [if_pos h, if_pos h]
    clear h
    go_enter Tryz.func160, Tryz.ntmps160
    go_wp2_with (go_at_call 44; (with_reducible refine (rright_rt _ _ _ (by assumption)).mono ?_); rintro e w' ⟨rfl, hbr⟩; obtain ⟨osr, dr, rfl⟩ := hbr.more)
    exact bodyPost_ret (v := NV m ex) (by simp [results, Tryz.results160, go_sem]) rfl ⟨rfl, by with_reducible repeat (first | exact Ext.refl _ | apply Ext.drew | apply Ext.alloc | apply Ext.more_)⟩
  · have r1 := rtB_no h
    rw [if_neg h, if_neg h]
    clear h
    go_enter Tryz.func160, Tryz.ntmps160
    go_wp2_with (go_at_call 44; (with_reducible refine (rright_rt _ _ _ (by assumption)).mono ?_); rintro e w' ⟨rfl, hbr⟩; obtain ⟨osr, dr, rfl⟩ := hbr.more)
    exact bodyPost_ret (v := NV 0 0) (by simp [results, Tryz.results160, go_sem]) rfl ⟨rfl, by with_reducible repeat (first | exact Ext.refl _ | apply Ext.drew | apply Ext.alloc | apply Ext.more_)⟩
end Go.Proofs.YtlfbdodokldkhaaGreatDoor
namespace Go.Proofs.YtlfbdodokldkhaaGreatDoor
open Go.RowKit NM
set_option maxHeartbeats 2000000 in
theorem radd_no (ma ea mb eb : Int) (w : World) (hma : I64 ma) (hmb : I64 mb) (h : ¬ (Rt ma ea ∧ Rt mb eb)) :
    Calls Tryz.prog 81 #[NV ma ea, NV mb eb] w fun e w' => e = .returned (rnV none) ∧ Ext w w' := by
  by_cases h1 : Rt ma ea
  · have r1 := rtB_yes h1
    have r2 := rtB_no (fun h2 => h ⟨h1, h2⟩)
    clear h h1
    go_enter Tryz.func81, Tryz.ntmps81
    go_wp2_with (go_at_call 44; (with_reducible refine (rright_rt _ _ _ (by assumption)).mono ?_); rintro e w' ⟨rfl, hbr⟩; obtain ⟨osr, dr, rfl⟩ := hbr.more)
    exact bodyPost_ret (v := .tuple #[NV 0 0, .bool false]) (by simp [results, Tryz.results81, go_sem]) rfl ⟨rfl, by with_reducible repeat (first | exact Ext.refl _ | apply Ext.drew | apply Ext.alloc | apply Ext.more_)⟩
  · have r1 := rtB_no h1
    clear h h1
    go_enter Tryz.func81, Tryz.ntmps81
    go_wp2_with (go_at_call 44; (with_reducible refine (rright_rt _ _ _ (by assumption)).mono ?_); rintro e w' ⟨rfl, hbr⟩; obtain ⟨osr, dr, rfl⟩ := hbr.more)
    exact bodyPost_ret (v := .tuple #[NV 0 0, .bool false]) (by simp [results, Tryz.results81, go_sem]) rfl ⟨rfl, by with_reducible repeat (first | exact Ext.refl _ | apply Ext.drew | apply Ext.alloc | apply Ext.more_)⟩
/-- Plus of the exact values of two right numbers. -/
theorem plus_of (ma ea mb eb : Int) (h1 : Rt ma ea) (h2 : Rt mb eb) (A B : Option Addr) (ca cb : Nat) (w : World) (ha : Rd 0 w A (i6 (dig ma.natAbs))) (hb : Rd 0 w B (i6 (dig mb.natAbs))) :
    Calls Tryz.prog 128 #[DecV (decide (ma < 0)) A (nd ma.natAbs) ca ea, DecV (decide (mb < 0)) B (nd mb.natAbs) cb eb] w fun r w' => DecOut w (plusN (decide (ma < 0)) (decide (mb < 0)) (ma.natAbs * T (ea - min ea eb).toNat) (mb.natAbs * T (eb - min ea eb).toNat)).1 (max (nd ma.natAbs + (ea - min ea eb).toNat) (nd mb.natAbs + (eb - min ea eb).toNat) + 1) (plusN (decide (ma < 0)) (decide (mb < 0)) (ma.natAbs * T (ea - min ea eb).toNat) (mb.natAbs * T (eb - min ea eb).toNat)).2 (min ea eb) r w' ∧ Ext w w' := by
  obtain ⟨b1, b2, b3⟩ := Rt_bd h1
  obtain ⟨b4, b5, b6⟩ := Rt_bd h2
  have hT15 : T 15 = 1000000000000000 := by decide
  have n1 : nd ma.natAbs ≤ 15 := (nd_le_iff _ _).2 (by omega)
  have n2 : nd mb.natAbs ≤ 15 := (nd_le_iff _ _).2 (by omega)
  have := plus_any (decide (ma < 0)) (decide (mb < 0)) A B ca cb (dig ma.natAbs) (dig mb.natAbs) ea eb (min ea eb) (ea - min ea eb).toNat (eb - min ea eb).toNat _ w ha hb (by rw [dig_length]; omega) (by rw [dig_length]; omega) (by omega) (by omega) (by omega) (by omega) (by omega) (dig_all _) (dig_all _) rfl
  rw [val_dig, val_dig, dig_length, dig_length] at this
  exact this
set_option maxHeartbeats 2000000 in
theorem radd_yes (ma ea mb eb : Int) (w : World) (h1 : Rt ma ea) (h2 : Rt mb eb) :
    Calls Tryz.prog 81 #[NV ma ea, NV mb eb] w fun e w' => e = .returned (rnV (rndI (sumI ma ea mb eb) (min ea eb))) ∧ Ext w w' := by
  obtain ⟨b1, b2, b3⟩ := Rt_bd h1
  obtain ⟨b4, b5, b6⟩ := Rt_bd h2
  have hma : I64 ma := by unfold I64; omega
  have hmb : I64 mb := by unfold I64; omega
  have r1 := rtB_yes h1
  have r2 := rtB_yes h2
  have hT15 : T 15 = 1000000000000000 := by decide
  have n1 : nd ma.natAbs ≤ 15 := (nd_le_iff _ _).2 (by omega)
  have n2 : nd mb.natAbs ≤ 15 := (nd_le_iff _ _).2 (by omega)
  have hof1 := fun W => rof_any ma ea W hma
  have hof2 := fun W => rof_any mb eb W hmb
  have hpl := fun A B ca cb W h3 h4 => plus_of ma ea mb eb h1 h2 A B ca cb W h3 h4
  have hL : max (nd ma.natAbs + (ea - min ea eb).toNat) (nd mb.natAbs + (eb - min ea eb).toNat) + 1 ≤ 1000 := by omega
  have hE : -1000000 ≤ min ea eb ∧ min ea eb ≤ 1000000 := by omega
  rw [← rnd_plus]
  generalize max (nd ma.natAbs + (ea - min ea eb).toNat) (nd mb.natAbs + (eb - min ea eb).toNat) + 1 = L at *
  generalize plusN (decide (ma < 0)) (decide (mb < 0)) (ma.natAbs * T (ea - min ea eb).toNat) (mb.natAbs * T (eb - min ea eb).toNat) = PN at *
  generalize min ea eb = E at *
  have hnr := fun (A : Option Addr) (cap : Nat) (l : List Nat) (W : World) (a1 : l.length = L) (a2 : Rd 0 W A (i6 l)) (a3 : L ≤ cap) (a4 : AllD l) (a5 : val l = PN.2) => near_any 0 PN.1 A L cap l PN.2 E false W a1 a2 a3 hL a4 a5 hE (Nat.zero_le _)
  generalize rnd PN.1 PN.2 false E = R at *
  clear h1 h2 n1 n2 hT15
  generalize ma.natAbs = Na at *
  generalize mb.natAbs = Nb at *
  go_enter Tryz.func81, Tryz.ntmps81
  go_wp2_with (go_at_call 44; (with_reducible refine (rright_rt _ _ _ (by assumption)).mono ?_); rintro e w' ⟨rfl, hbr⟩; obtain ⟨osr, dr, rfl⟩ := hbr.more)
  refine wp_plan (S := Ext _) [(0, 0), (2, 0), (1, 1), (3, 1), (4, 1), (5, 1), (6, 0), (7, 0), (8, 2), (9, 2)] [8, 9] (by kernel_rfl) (by kernel_rfl) (by kernel_rfl) (fun _ _ d _ _ h => by cases d <;> exact h) (Ext.drew (Ext.refl _)) ?_
  iterate 2 ((refine wpPl_read (v := ?_) rfl ?_ (fun _ h => ?_) ?_; rotate_left 1; rfl; (obtain ⟨_, _, rfl⟩ := h.more; go_simp; try rfl)); try simp only [Act.put, zqA, zqB, zqC])
  (refine wpPl_eff rfl ?_ (fun K hK => ?_); rfl; go_simp; (go_at_call 89; (with_reducible refine (hof1 _).mono ?_); rintro e w' ⟨A1, c1, rfl, hrd1, hcp1, hx⟩; obtain ⟨os1, d1, rfl⟩ := hx.more; have hrd1 := hrd1.mono (Nat.zero_le _); (try simp only [more_more, more_drew, drew_more, Array.append_assoc] at hrd1)); refine hK _ _ ?_ ?_; (repeat (first | (with_reducible (first | exact Ext.refl _ | exact ext_d _ _ _ _ | exact ext_app _ _ _ _ _ | exact ext_app2 _ _ _ _ _ _ | exact ext_app3 _ _ _ _ _ _ _ | exact ext_app4 _ _ _ _ _ _ _ _ | exact ext_app5 _ _ _ _ _ _ _ _ _)) | ((with_reducible refine ext_suffix ⟨_, ?_⟩); (try simp only [Array.append_assoc]); rfl) | (with_reducible (first | apply Ext.drew | apply Ext.alloc | apply Ext.more_)) | apply Ext.drew | apply Ext.alloc | apply Ext.more_)))
  try simp only [Act.put, zqA, zqB, zqC]
  (refine wpPl_eff rfl ?_ (fun K hK => ?_); rfl; go_simp; (go_at_call 89; (with_reducible refine (hof2 _).mono ?_); rintro e w' ⟨A2, c2, rfl, hrd2, hcp2, hx⟩; obtain ⟨os2, d2, rfl⟩ := hx.more; have hrd2 := hrd2.mono (Nat.zero_le _); (try simp only [more_more, more_drew, drew_more, Array.append_assoc] at hrd2)); refine hK _ _ ?_ ?_; (repeat (first | (with_reducible (first | exact Ext.refl _ | exact ext_d _ _ _ _ | exact ext_app _ _ _ _ _ | exact ext_app2 _ _ _ _ _ _ | exact ext_app3 _ _ _ _ _ _ _ | exact ext_app4 _ _ _ _ _ _ _ _ | exact ext_app5 _ _ _ _ _ _ _ _ _)) | ((with_reducible refine ext_suffix ⟨_, ?_⟩); (try simp only [Array.append_assoc]); rfl) | (with_reducible (first | apply Ext.drew | apply Ext.alloc | apply Ext.more_)) | apply Ext.drew | apply Ext.alloc | apply Ext.more_)))
  try simp only [Act.put, zqA, zqB, zqC]
  (refine wpPl_eff rfl ?_ (fun K hK => ?_); rfl; go_simp; (go_at_call 128; (with_reducible refine (hpl _ _ _ _ _ (Rd.ext hrd1 (by (try simp only [more_more, more_drew, drew_more, Array.append_assoc]); repeat (first | (with_reducible (first | exact Ext.refl _ | exact ext_d _ _ _ _ | exact ext_app _ _ _ _ _ | exact ext_app2 _ _ _ _ _ _ | exact ext_app3 _ _ _ _ _ _ _)) | ((with_reducible refine ext_suffix ⟨_, ?_⟩); (try simp only [Array.append_assoc]); rfl) | (with_reducible (first | apply Ext.drew | apply Ext.alloc | apply Ext.more_))))) (Rd.ext hrd2 (by (try simp only [more_more, more_drew, drew_more, Array.append_assoc]); repeat (first | (with_reducible (first | exact Ext.refl _ | exact ext_d _ _ _ _ | exact ext_app _ _ _ _ _ | exact ext_app2 _ _ _ _ _ _ | exact ext_app3 _ _ _ _ _ _ _)) | ((with_reducible refine ext_suffix ⟨_, ?_⟩); (try simp only [Array.append_assoc]); rfl) | (with_reducible (first | apply Ext.drew | apply Ext.alloc | apply Ext.more_)))))).mono ?_); rintro e w' ⟨⟨A3, c3, X3, rfl, hrx3, hn3, ha3, hv3, hc3⟩, hx⟩; obtain ⟨os3, d3, rfl⟩ := hx.more; (try simp only [more_more, more_drew, drew_more, Array.append_assoc] at hrx3)); refine hK _ _ ?_ ?_; (repeat (first | (with_reducible (first | exact Ext.refl _ | exact ext_d _ _ _ _ | exact ext_app _ _ _ _ _ | exact ext_app2 _ _ _ _ _ _ | exact ext_app3 _ _ _ _ _ _ _ | exact ext_app4 _ _ _ _ _ _ _ _ | exact ext_app5 _ _ _ _ _ _ _ _ _)) | ((with_reducible refine ext_suffix ⟨_, ?_⟩); (try simp only [Array.append_assoc]); rfl) | (with_reducible (first | apply Ext.drew | apply Ext.alloc | apply Ext.more_)) | apply Ext.drew | apply Ext.alloc | apply Ext.more_)))
  try simp only [Act.put, zqA, zqB, zqC]
  (refine wpPl_eff rfl ?_ (fun K hK => ?_); rfl; go_simp; (go_at_call 68; (with_reducible refine (hnr _ _ _ _ hn3 (Rd.mono hrx3 (Nat.zero_le _)) hc3 ha3 hv3).mono ?_); rintro e w' ⟨rfl, hx⟩; obtain ⟨os4, d4, rfl⟩ := hx.more); refine hK _ _ ?_ ?_; (repeat (first | (with_reducible (first | exact Ext.refl _ | exact ext_d _ _ _ _ | exact ext_app _ _ _ _ _ | exact ext_app2 _ _ _ _ _ _ | exact ext_app3 _ _ _ _ _ _ _ | exact ext_app4 _ _ _ _ _ _ _ _ | exact ext_app5 _ _ _ _ _ _ _ _ _)) | ((with_reducible refine ext_suffix ⟨_, ?_⟩); (try simp only [Array.append_assoc]); rfl) | (with_reducible (first | apply Ext.drew | apply Ext.alloc | apply Ext.more_)) | apply Ext.drew | apply Ext.alloc | apply Ext.more_)))
  try simp only [Act.put, zqA, zqB, zqC]
  iterate 2 ((refine wpPl_read (v := ?_) rfl ?_ (fun _ h => ?_) ?_; rotate_left 1; rfl; (obtain ⟨_, _, rfl⟩ := h.more; go_simp; try rfl)); try simp only [Act.put, zqA, zqB, zqC])
  (refine wpPl_tail rfl ?_ (fun K hK => ?_); rfl; go_simp; refine hK _ _ ?_)
  try simp only [Act.put]
  (refine wpPl_tail rfl ?_ (fun K hK => ?_); rfl; go_simp; refine hK _ _ ?_)
  try simp only [Act.put, zqA, zqB, zqC]
  refine wpPl_nil ?_
  go_wp2
  exact bodyPost_ret (v := rnV R) (by simp [results, Tryz.results81, go_sem]) rfl ⟨rfl, by with_reducible repeat (first | exact Ext.refl _ | apply Ext.drew | apply Ext.alloc | apply Ext.more_)⟩
theorem radd_any (ma ea mb eb : Int) (w : World) (hma : I64 ma) (hmb : I64 mb) :
    Calls Tryz.prog 81 #[NV ma ea, NV mb eb] w fun e w' => e = .returned (rnV (addS ma ea mb eb)) ∧ Ext w w' := by
  unfold addS
  split
  · rename_i h; exact radd_yes ma ea mb eb w h.1 h.2
  · rename_i h; exact radd_no ma ea mb eb w hma hmb h
end Go.Proofs.YtlfbdodokldkhaaGreatDoor
namespace Go.Proofs.YtlfbdodokldkhaaGreatDoor
open Go.RowKit NM
theorem own_ext_ {w w' : World} {base : Nat} {ty : TypeId} {v : Value} {n : Nat} {xs : List Value} (h : w.ownsRow base ty 1 v n xs) (hx : Ext w w') : w'.ownsRow base ty 1 v n xs := by
  refine ⟨h.1, ?_⟩
  rcases h.2 with h2 | ⟨g, cap, cur, h3, h4, h5, h6⟩
  · exact Or.inl h2
  · exact Or.inr ⟨g, cap, cur, h3, h4, by rw [hx.block (lt_block h5)]; exact h5, h6⟩
end Go.Proofs.YtlfbdodokldkhaaGreatDoor
namespace Go.Proofs.YtlfbdodokldkhaaGreatDoor
open Go.RowKit NM
theorem tl_append (a b : ByteArray) : tl (a ++ b) = tl a ++ tl b := by unfold tl; simp
theorem tl_size (a : ByteArray) : (tl a).length = a.size := rfl
theorem tl_eq {a : ByteArray} {l : List UInt8} (h : tl a = l) : a = ⟨l.toArray⟩ := bytes_eq h
end Go.Proofs.YtlfbdodokldkhaaGreatDoor
namespace Go.Proofs.YtlfbdodokldkhaaGreatDoor
open Go.RowKit NM
def foldB (s : ByteArray) : ByteArray := ⟨((tl s).map upB).toArray⟩
theorem tl_fold (s : ByteArray) : tl (foldB s) = (tl s).map upB := by unfold foldB; rfl
theorem foldB_size (s : ByteArray) : (foldB s).size = s.size := by rw [← tl_size, tl_fold, List.length_map, tl_size]
end Go.Proofs.YtlfbdodokldkhaaGreatDoor
namespace Go.Proofs.YtlfbdodokldkhaaGreatDoor
open Go.RowKit NM
/-- What the document says. -/
def powC (c : Nat) (t : List Nat) : Option Int :=
    if c ≠ 101 ∧ c ≠ 69 then none else
    let ng := t.head? = some 45
    let t' := if t.head? = some 43 ∨ t.head? = some 45 then t.tail else t
    if t' = [] ∨ ¬ (∀ c ∈ t', isD c = true) then none else
    let n : Nat := t'.foldl (fun n c => min 1000 (10 * n + (c - 48))) 0
    some (if ng then -(n : Int) else n)
def powR : List Nat → Option Int
  | [] => some 0
  | c :: t => powC c t
theorem powR_cons (c : Nat) (t : List Nat) : powR (c :: t) = powC c t := rfl
def parR (l : List Nat) : Option (Int × Int) :=
  let ng := decide (l.head? = some 45)
  let l1 := if l.head? = some 45 then l.tail else l
  let A := l1.takeWhile isD
  let l2 := l1.dropWhile isD
  let B := if l2.head? = some 46 then l2.tail.takeWhile isD else []
  let l3 := if l2.head? = some 46 then l2.tail.dropWhile isD else l2
  if l2.head? = some 46 ∧ B = [] then none else
  match powR l3 with
  | none => none
  | some e => if A.length + B.length = 0 then none else rnd ng (val ((A ++ B).map (· - 48))) false (e - B.length)
theorem run_whole (a : List Nat) (h : ∀ c ∈ a, isD c = true) : ∀ s : St, s.st ≤ 2 → runS a s = some { s with st := if a = [] then s.st else 2, ds := s.ds ++ a.map (· - 48) } := by
  induction a with
  | nil => intro s hs; simp [runS]
  | cons c l ih =>
    intro s hs
    have hc := h c (List.mem_cons_self ..)
    show (takeS s c).bind (runS l) = _
    unfold takeS
    rw [if_pos hc]
    unfold digS
    rw [if_pos hs, Option.bind_some, ih (fun c hc => h c (List.mem_cons_of_mem _ hc)) _ (Nat.le_refl 2)]
    simp
theorem run_part (a : List Nat) (h : ∀ c ∈ a, isD c = true) : ∀ s : St, s.st = 3 ∨ s.st = 4 → runS a s = some { s with st := if a = [] then s.st else 4, ds := s.ds ++ a.map (· - 48), beh := s.beh + a.length } := by
  induction a with
  | nil => intro s hs; simp [runS]
  | cons c l ih =>
    intro s hs
    have hc := h c (List.mem_cons_self ..)
    show (takeS s c).bind (runS l) = _
    unfold takeS
    rw [if_pos hc]
    unfold digS
    rw [if_neg (by omega), if_pos (by omega), Option.bind_some, ih (fun c hc => h c (List.mem_cons_of_mem _ hc)) _ (Or.inr rfl)]
    simp; omega
def powF (p : Nat) (l : List Nat) : Nat := l.foldl (fun p c => if p < 100000 then p * 10 + (c - 48) else p) p
theorem run_pow (a : List Nat) (h : ∀ c ∈ a, isD c = true) : ∀ s : St, 5 ≤ s.st → runS a s = some { s with st := if a = [] then s.st else 7, pow := powF s.pow a } := by
  induction a with
  | nil => intro s hs; simp [runS, powF]
  | cons c l ih =>
    intro s hs
    have hc := h c (List.mem_cons_self ..)
    show (takeS s c).bind (runS l) = _
    unfold takeS
    rw [if_pos hc]
    unfold digS
    rw [if_neg (by omega), if_neg (by omega), Option.bind_some, ih (fun c hc => h c (List.mem_cons_of_mem _ hc)) _ (show 5 ≤ 7 by omega)]
    simp [powF]
theorem pow_two (l : List Nat) : ∀ p n : Nat, (p = n ∧ n < 1000 ∨ 1000 ≤ p ∧ n = 1000) → (powF p l = l.foldl (fun n c => min 1000 (10 * n + (c - 48))) n ∧ l.foldl (fun n c => min 1000 (10 * n + (c - 48))) n < 1000 ∨ 1000 ≤ powF p l ∧ l.foldl (fun n c => min 1000 (10 * n + (c - 48))) n = 1000) := by
  induction l with
  | nil => intro p n h; exact h
  | cons c l ih =>
    intro p n h
    show (powF (if p < 100000 then p * 10 + (c - 48) else p) l = _ ∧ _ ∨ _)
    apply ih
    show _ = min 1000 (10 * n + (c - 48)) ∧ min 1000 (10 * n + (c - 48)) < 1000 ∨ _ ∧ min 1000 (10 * n + (c - 48)) = 1000
    split <;> omega
theorem rnd_low_ {neg : Bool} {N : Nat} {e : Int} (h : nd N + e ≤ -100) : rnd neg N false e = some (0, 0) := by
  apply rnd_of_zero
  unfold n2
  apply cutN_far
  have h1 := n1_le N false
  have h2 : nd (n1 N false) ≤ 16 := (nd_le_iff _ _).2 (Nat.lt_of_le_of_lt h1 (T_lt (by omega)))
  omega
/-- Beyond a thousand a power of ten counts no more. -/
theorem rnd_same {neg ng : Bool} {N b p n : Nat} (hN : nd N ≤ 300) (hb : b ≤ 300) (h : p = n ∧ n < 1000 ∨ 1000 ≤ p ∧ n = 1000) : rnd neg N false ((if ng then -(p : Int) else p) - b) = rnd neg N false ((if ng then -(n : Int) else n) - b) := by
  rcases h with ⟨rfl, _⟩ | ⟨h1, rfl⟩
  · rfl
  · cases ng with
    | true =>
      simp only [if_true]
      rw [rnd_low_ (by omega), rnd_low_ (by omega)]
    | false =>
      simp only [Bool.false_eq_true, if_false]
      by_cases h0 : N = 0
      · rw [h0, rnd_nought, rnd_nought]
      · rw [rnd_far_up h0 (by omega), rnd_far_up h0 (by omega)]
theorem split_d (l : List Nat) : l = l.takeWhile isD ++ l.dropWhile isD := (List.takeWhile_append_dropWhile).symm
theorem take_d (l : List Nat) : ∀ c ∈ l.takeWhile isD, isD c = true := by
  intro c hc
  have := List.all_takeWhile (l := l) (p := isD)
  exact List.all_eq_true.1 this c hc
theorem drop_d {l : List Nat} {c : Nat} {t : List Nat} (h : l.dropWhile isD = c :: t) : isD c = false := by
  have := List.head?_dropWhile_not isD l
  rw [h] at this
  simpa using this
theorem run_digits {s : St} {t : List Nat} (hs : s.st = 5 ∨ s.st = 6) (hh : s.st = 5 → t.head? ≠ some 43 ∧ t.head? ≠ some 45) :
    (runS t s).bind endS = if t = [] ∨ ¬ (∀ c ∈ t, isD c = true) then none else rnd s.neg (val s.ds) false ((if s.npow then -(powF s.pow t : Int) else powF s.pow t) - s.beh) := by
  have h1 := split_d t
  have h2 := take_d t
  have h3 := fun c u => drop_d (l := t) (c := c) (t := u)
  generalize t.takeWhile isD = K at *
  generalize t.dropWhile isD = l4 at *
  subst h1
  rw [runS_append, run_pow K h2 s (by omega), Option.bind_some]
  cases l4 with
  | nil =>
    rw [List.append_nil]
    by_cases hK : K = []
    · subst hK
      rw [if_pos (Or.inl rfl)]
      show endS _ = none
      unfold endS
      rw [if_neg]
      simp; omega
    · have hcond : ¬ (K = [] ∨ ¬ (∀ c ∈ K, isD c = true)) := fun hx => hx.elim hK (fun h => h h2)
      rw [if_neg hcond]
      show endS _ = _
      unfold endS
      rw [if_pos (by simp [hK])]
  | cons c u =>
    have hc := h3 c u rfl
    rw [if_pos (Or.inr (fun h => by rw [h c (by simp)] at hc; cases hc))]
    have : takeS { s with st := if K = [] then s.st else 7, pow := powF s.pow K } c = none := by
      unfold takeS
      rw [if_neg (by rw [hc]; simp)]
      by_cases hK : K = []
      · subst hK
        simp only [if_true]
        rw [if_neg (by omega), if_neg (by omega), if_neg (by omega), if_neg]
        rintro ⟨h, h5⟩
        have := hh h5
        simp at this
        omega
      · simp only [if_neg hK]
        rw [if_neg (by omega), if_neg (by omega), if_neg (by omega), if_neg (by omega)]
    show ((takeS _ c).bind (runS u)).bind endS = none
    rw [this]; rfl
theorem run_tail {s : St} {l : List Nat} (hs : s.st = 2 ∧ l.head? ≠ some 46 ∨ s.st = 4) (hp : s.pow = 0) (hn : s.npow = false) (hd : ∀ c t, l = c :: t → isD c = false) (h1 : nd (val s.ds) ≤ 300) (h2 : s.beh ≤ 300) :
    (runS l s).bind endS = match powR l with
      | none => none
      | some e => rnd s.neg (val s.ds) false (e - s.beh) := by
  cases l with
  | nil =>
    show endS s = rnd s.neg (val s.ds) false (0 - s.beh)
    unfold endS
    rw [if_pos (by omega), hp, hn]; rfl
  | cons c t =>
    have hc := hd c t rfl
    by_cases he : c ≠ 101 ∧ c ≠ 69
    · have : powR (c :: t) = none := by rw [powR_cons]; unfold powC; rw [if_pos he]
      rw [this]
      have : takeS s c = none := by
        unfold takeS
        simp at hs
        rw [if_neg (by rw [hc]; simp), if_neg (by omega), if_neg (by omega), if_neg (by omega), if_neg (by omega)]
      show ((takeS s c).bind (runS t)).bind endS = none
      rw [this]; rfl
    · have ht : takeS s c = some { s with st := 5 } := by
        unfold takeS
        rw [if_neg (by rw [hc]; simp), if_neg (by omega), if_neg (by omega), if_pos (by omega)]
      show ((takeS s c).bind (runS t)).bind endS = _
      rw [ht, Option.bind_some]
      rw [powR_cons]
      unfold powC
      rw [if_neg he]
      simp only
      by_cases hsg : t.head? = some 43 ∨ t.head? = some 45
      · rw [if_pos hsg]
        obtain ⟨c', u, rfl⟩ : ∃ c' u, t = c' :: u := by
          cases t with
          | nil => simp at hsg
          | cons c' u => exact ⟨c', u, rfl⟩
        simp only [List.head?_cons, Option.some.injEq, List.tail_cons] at hsg ⊢
        have ht' : takeS { s with st := 5 } c' = some { s with npow := decide (c' = 45), st := 6 } := by
          rcases hsg with rfl | rfl <;> simp [takeS, isD]
        show ((takeS { s with st := 5 } c').bind (runS u)).bind endS = _
        rw [ht', Option.bind_some, run_digits (Or.inr rfl) (fun h => absurd h (by simp))]
        by_cases hb : u = [] ∨ ¬ (∀ c ∈ u, isD c = true)
        · rw [if_pos hb, if_pos hb]
        · rw [if_neg hb, if_neg hb]
          simp only [hp]
          have hpw := pow_two u 0 0 (Or.inl ⟨rfl, by omega⟩)
          have := rnd_same (neg := s.neg) (ng := decide (c' = 45)) h1 h2 hpw
          rw [this]
          by_cases h45 : c' = 45 <;> simp [h45]
      · rw [if_neg hsg, run_digits (Or.inl rfl) (fun _ => ⟨fun h => hsg (Or.inl h), fun h => hsg (Or.inr h)⟩)]
        by_cases hb : t = [] ∨ ¬ (∀ c ∈ t, isD c = true)
        · rw [if_pos hb, if_pos hb]
        · rw [if_neg hb, if_neg hb]
          simp only [hp, hn]
          have hpw := pow_two t 0 0 (Or.inl ⟨rfl, by omega⟩)
          have := rnd_same (neg := s.neg) (ng := false) h1 h2 hpw
          rw [this, if_neg (fun h => hsg (Or.inr h))]
          simp
def parR1 (ng : Bool) (l1 : List Nat) : Option (Int × Int) :=
  let A := l1.takeWhile isD
  let l2 := l1.dropWhile isD
  let B := if l2.head? = some 46 then l2.tail.takeWhile isD else []
  let l3 := if l2.head? = some 46 then l2.tail.dropWhile isD else l2
  if l2.head? = some 46 ∧ B = [] then none else
  match powR l3 with
  | none => none
  | some e => if A.length + B.length = 0 then none else rnd ng (val ((A ++ B).map (· - 48))) false (e - B.length)
theorem parR_one (l : List Nat) : parR l = parR1 (decide (l.head? = some 45)) (if l.head? = some 45 then l.tail else l) := rfl
theorem dig_len (a : List Nat) (h : ∀ c ∈ a, isD c = true) (hl : a.length ≤ 300) : nd (val (a.map (· - 48))) ≤ 300 := by
  have h1 : AllD (a.map (· - 48)) := by
    intro d hd
    obtain ⟨c, hc, rfl⟩ := List.mem_map.1 hd
    have := h c hc
    unfold isD at this
    have := of_decide_eq_true this
    omega
  have h2 := val_lt h1
  rw [List.length_map] at h2
  have := (nd_le_iff _ _).2 h2
  omega
theorem run_one {s : St} {l : List Nat} (hs : s.st = 0 ∧ l.head? ≠ some 45 ∨ s.st = 1) (hds : s.ds = []) (hbh : s.beh = 0) (hp : s.pow = 0) (hn : s.npow = false) (hl : l.length ≤ 300) :
    (runS l s).bind endS = parR1 s.neg l := by
  unfold parR1
  have hst : s.st ≤ 1 := by rcases hs with ⟨h, _⟩ | h <;> omega
  have h1 := split_d l
  have h2 := take_d l
  have h3 := fun c u => drop_d (l := l) (c := c) (t := u)
  generalize l.takeWhile isD = A at *
  generalize l.dropWhile isD = l2 at *
  subst h1
  simp only
  rw [runS_append, run_whole A h2 s (by omega), Option.bind_some, hds, List.nil_append]
  cases l2 with
  | nil =>
    simp only [List.head?_nil, if_neg (show ¬ (none : Option Nat) = some 46 by simp), false_and, if_false, reduceCtorEq]
    show endS _ = if A.length + 0 = 0 then none else _
    by_cases hA : A = []
    · subst hA
      show endS _ = none
      unfold endS
      exact if_neg (show ¬ (s.st = 2 ∨ s.st = 4 ∨ s.st = 7) by omega)
    · have hA0 : ¬ A.length + 0 = 0 := by cases A; exact absurd rfl hA; simp
      rw [if_neg hA0]
      unfold endS
      rw [if_pos (by simp [hA])]
      simp [hp, hn, hbh]
  | cons c t =>
    have hc := h3 c t rfl
    simp only [List.head?_cons, Option.some.injEq, List.tail_cons]
    by_cases h46 : c = 46
    · subst h46
      simp only [if_true, true_and]
      have ht : takeS { s with st := if A = [] then s.st else 2, ds := A.map (· - 48) } 46 = some { s with st := 3, ds := A.map (· - 48) } := by
        unfold takeS
        rw [if_neg (by unfold isD; simp), if_neg (by omega), if_pos]
        by_cases hA : A = [] <;> simp [hA]; omega
      show ((takeS _ 46).bind (runS t)).bind endS = _
      rw [ht, Option.bind_some]
      have k1 := split_d t
      have k2 := take_d t
      have k3 := fun c u => drop_d (l := t) (c := c) (t := u)
      generalize t.takeWhile isD = B at *
      generalize t.dropWhile isD = l3 at *
      subst k1
      rw [runS_append, run_part B k2 _ (Or.inl rfl), Option.bind_some]
      by_cases hB : B = []
      · subst hB
        rw [if_pos rfl]
        simp only [if_true]
        cases l3 with
        | nil => show endS _ = none; unfold endS; rw [if_neg (by simp)]
        | cons c u =>
          have hcd := k3 c u rfl
          have : takeS { s with st := 3, ds := A.map (· - 48) ++ [].map (· - 48), beh := s.beh + ([] : List Nat).length } c = none := by
            unfold takeS
            rw [if_neg (by rw [hcd]; simp), if_neg (by simp), if_neg (by simp), if_neg (by simp), if_neg (by simp)]
          show ((takeS _ c).bind (runS u)).bind endS = none
          rw [this]; rfl
      · rw [if_neg hB]
        simp only [if_neg hB]
        have hlen : A.length + (B.length + l3.length) + 1 ≤ 300 := by simp at hl; omega
        rw [run_tail (s := { s with st := 4, ds := A.map (· - 48) ++ B.map (· - 48), beh := s.beh + B.length }) (Or.inr rfl) hp hn k3 (by show nd (val (A.map (· - 48) ++ B.map (· - 48))) ≤ 300; rw [← List.map_append]; exact dig_len _ (fun c hc => (List.mem_append.1 hc).elim (h2 c) (k2 c)) (by simp; omega)) (by simp [hbh]; omega)]
        have hB0 : ¬ A.length + B.length = 0 := by cases B; exact absurd rfl hB; simp
        simp only [if_neg hB0, hbh, Nat.zero_add, List.map_append]
    · simp only [if_neg h46]
      rw [if_neg (show ¬ (c = 46 ∧ _) from fun h => h46 h.1)]
      by_cases hA : A = []
      · subst hA
        have : takeS { s with st := if ([] : List Nat) = [] then s.st else 2, ds := [].map (· - 48) } c = none := by
          unfold takeS
          simp only [if_true]
          simp at hs
          rw [if_neg (by rw [hc]; simp), if_neg (by omega), if_neg (by omega), if_neg (by omega), if_neg (by omega)]
        show ((takeS _ c).bind (runS t)).bind endS = _
        rw [this]
        cases powR (c :: t) <;> rfl
      · simp only [if_neg hA]
        have hlen : A.length + t.length + 1 ≤ 300 := by simp at hl; omega
        rw [run_tail (s := { s with st := 2, ds := A.map (· - 48) }) (Or.inl ⟨rfl, by simpa using h46⟩) hp hn (fun c' u hu => by cases hu; exact hc) (dig_len A h2 (by omega)) (by simp [hbh])]
        have hA0 : ¬ A.length + 0 = 0 := by cases A; exact absurd rfl hA; simp
        simp only [List.length_nil, if_neg hA0, hbh, List.append_nil]
/-- The reader and the document tell the same. -/
theorem parse_law (l : List Nat) (hl : l.length ≤ 300) : parM l = parR l := by
  rw [parR_one]
  unfold parM
  by_cases h : l.head? = some 45
  · cases l with
    | nil => simp at h
    | cons c t =>
      simp only [List.head?_cons, Option.some.injEq] at h
      subst h
      simp only [List.head?_cons, if_true, List.tail_cons, decide_true]
      show ((takeS st0 45).bind (runS t)).bind endS = _
      have : takeS st0 45 = some { st0 with neg := true, st := 1 } := by simp [takeS, isD, st0]
      rw [this, Option.bind_some]
      exact run_one (Or.inr rfl) rfl rfl rfl rfl (by simp at hl; omega)
  · rw [if_neg h, decide_eq_false h]
    exact run_one (Or.inl ⟨rfl, h⟩) rfl rfl rfl rfl hl
end Go.Proofs.YtlfbdodokldkhaaGreatDoor
namespace Go.Proofs.YtlfbdodokldkhaaGreatDoor
open Go.RowKit NM
theorem tw_lt : ∀ (l : List Nat) {j c : Nat}, j < (l.takeWhile isD).length → l[j]? = some c → isD c = true
  | [], j, c, h, _ => by simp at h
  | d :: l, j, c, h, hc => by
    rw [List.takeWhile_cons] at h
    by_cases hd : isD d = true
    · rw [if_pos hd, List.length_cons] at h
      cases j with
      | zero => rw [List.getElem?_cons_zero] at hc; cases hc; exact hd
      | succ j => rw [List.getElem?_cons_succ] at hc; exact tw_lt l (by omega) hc
    · rw [if_neg hd] at h; simp at h
theorem tw_eq : ∀ (l : List Nat) {c : Nat}, l[(l.takeWhile isD).length]? = some c → isD c = false
  | [], c, h => by simp at h
  | d :: l, c, h => by
    rw [List.takeWhile_cons] at h
    by_cases hd : isD d = true
    · rw [if_pos hd, List.length_cons, List.getElem?_cons_succ] at h
      exact tw_eq l h
    · rw [if_neg hd, List.length_nil, List.getElem?_cons_zero] at h
      cases h
      simpa using hd
theorem tw_le (l : List Nat) : (l.takeWhile isD).length ≤ l.length := (List.takeWhile_sublist _).length_le
theorem isD_yes {c : Nat} (h : isD c = true) : 48 ≤ c ∧ c ≤ 57 := of_decide_eq_true h
theorem isD_no {c : Nat} (h : isD c = false) : c < 48 ∨ 57 < c := by
  have := of_decide_eq_false h; omega
set_option maxHeartbeats 1000000 in
theorem run_any (s : ByteArray) (i : Nat) (w : World) (hs : s.size ≤ 1000) (hi : i ≤ s.size) :
    Calls Tryz.prog 161 #[.string s, .int .i64 (i : Int)] w fun r w' => r = .returned (.int .i64 ((((bl s).drop i).takeWhile isD).length : Int)) ∧ w' = w := by
  generalize hL : (((bl s).drop i).takeWhile isD).length = L
  have HL := Lib.hid hL
  have hLs : i + L ≤ s.size := by
    have h1 := tw_le ((bl s).drop i)
    rw [hL, List.length_drop, bl_length] at h1
    omega
  clear hL
  go_enter Tryz.func161, Tryz.ntmps161
  go_wp2_with fail
  go_loop [5] (fun v => ∃ j : Nat, v = .int .i64 (j : Int) ∧ j ≤ L) (fun v => L - (intOf v).toNat)
  case atStart => exact ⟨0, rfl, Nat.zero_le _⟩
  case round =>
    obtain ⟨j, rfl, hj⟩ := hrel
    by_cases hjs : i + j < s.size
    · have hb := bl_at s (i + j) hjs
      have hb' : ((bl s).drop i)[j]? = some (s[i + j]'hjs).toNat := by rw [List.getElem?_drop]; exact hb
      clear hb
      by_cases hjL : j < L
      · obtain ⟨g1, g2⟩ := isD_yes (tw_lt _ (by rw [HL.out]; exact hjL) hb')
        have g1' : (48 : Int) ≤ ((s[i + j]'hjs).toNat : Int) := by omega
        have g2' : ((s[i + j]'hjs).toNat : Int) ≤ 57 := by omega
        clear hb' g1 g2
        go_wp2_with fail
        exact ⟨⟨j + 1, by go_num, by omega⟩, by simp [intOf]; omega⟩
      · have hjL' : Hid (j = L) := by show j = L; omega
        have hd := isD_no (tw_eq ((bl s).drop i) (by rw [HL.out, ← hjL'.out]; exact hb'))
        rcases hd with hd | hd
        · have g1 : ¬ (48 : Int) ≤ ((s[i + j]'hjs).toNat : Int) := by omega
          clear hb' hd
          go_wp2_with fail
          exact bodyPost_ret (v := .int .i64 (j : Int)) (by simp [results, Tryz.results161, go_sem]) rfl ⟨by rw [hjL'.out], rfl⟩
        · have g1 : (48 : Int) ≤ ((s[i + j]'hjs).toNat : Int) := by omega
          have g2 : ¬ ((s[i + j]'hjs).toNat : Int) ≤ 57 := by omega
          clear hb' hd
          go_wp2_with fail
          exact bodyPost_ret (v := .int .i64 (j : Int)) (by simp [results, Tryz.results161, go_sem]) rfl ⟨by rw [hjL'.out], rfl⟩
    · have hjL' : Hid (j = L) := by
        show j = L
        have h1 := tw_le ((bl s).drop i)
        rw [HL.out, List.length_drop, bl_length] at h1
        omega
      have hjs' : ¬ ((i : Int) + (j : Int) < (s.size : Int)) := by omega
      go_wp2_with fail
      exact bodyPost_ret (v := .int .i64 (j : Int)) (by simp [results, Tryz.results161, go_sem]) rfl ⟨by rw [hjL'.out], rfl⟩
end Go.Proofs.YtlfbdodokldkhaaGreatDoor
namespace Go.Proofs.YtlfbdodokldkhaaGreatDoor
open Go.RowKit NM
def oV (r : Option Int) : Value := .tuple #[.int .i64 (r.getD 0), .bool r.isSome]
/-- Digits to the end, or not. -/
theorem run_end (l : List Nat) : (l = [] ∨ ¬ (∀ c ∈ l, isD c = true)) ↔ ((l.takeWhile isD).length = 0 ∨ (l.takeWhile isD).length ≠ l.length) := by
  constructor
  · rintro (rfl | h)
    · exact Or.inl rfl
    · refine Or.inr fun he => h ?_
      have h1 : l.takeWhile isD = l := (List.takeWhile_prefix isD).eq_of_length he
      intro c hc
      rw [← h1] at hc
      exact take_d l c hc
  · intro h
    by_cases h0 : l = []
    · exact Or.inl h0
    · refine Or.inr fun hall => ?_
      have h1 : (l.takeWhile isD).length = l.length := by
        have h2 := tw_le l
        by_cases h3 : (l.takeWhile isD).length < l.length
        · have h4 := tw_eq l (List.getElem?_eq_getElem h3)
          rw [hall _ (List.getElem_mem h3)] at h4
          cases h4
        · omega
      rcases h with h | h
      · exact h0 (List.length_eq_zero_iff.1 (by omega))
      · exact h h1
theorem fold_bd (l : List Nat) : ∀ n, n ≤ 1000 → l.foldl (fun n c => min 1000 (10 * n + (c - 48))) n ≤ 1000 := by
  induction l with
  | nil => intro n h; exact h
  | cons c l ih => intro n h; exact ih _ (by show min 1000 (10 * n + (c - 48)) ≤ 1000; omega)
theorem powR_tail (c : Nat) (t u : List Nat) (ng : Bool) (hc : c = 101 ∨ c = 69) (h : (t.head? = some 43 ∨ t.head? = some 45) ∧ u = t.tail ∧ ng = decide (t.head? = some 45) ∨ ¬ (t.head? = some 43 ∨ t.head? = some 45) ∧ u = t ∧ ng = false) :
    powR (c :: t) = if (u.takeWhile isD).length = 0 ∨ (u.takeWhile isD).length ≠ u.length then none else some (if ng then -((u.foldl (fun n c => min 1000 (10 * n + (c - 48))) 0 : Nat) : Int) else (u.foldl (fun n c => min 1000 (10 * n + (c - 48))) 0 : Nat)) := by
  rw [powR_cons]
  unfold powC
  rw [if_neg (by omega)]
  simp only
  rcases h with ⟨h1, rfl, rfl⟩ | ⟨h1, rfl, rfl⟩
  · rw [if_pos h1]
    rw [ite_iff _ _ (run_end t.tail)]
    congr 2
    by_cases h45 : t.head? = some 45 <;> simp [h45]
  · rw [if_neg h1, ite_iff _ _ (run_end u)]
    congr 2
    rw [if_neg (fun h => h1 (Or.inr h))]
    simp
set_option maxHeartbeats 1000000 in
theorem rpower_any (s : ByteArray) (w : World) (hs : s.size ≤ 1000) :
    Calls Tryz.prog 162 #[.string s] w fun r w' => r = .returned (oV (powR (bl s))) ∧ w' = w := by
  by_cases h0 : s.size = 0
  · have : s = ⟨#[]⟩ := by
      cases s with | mk d => cases d with | mk l => cases l with
        | nil => rfl
        | cons a l => simp [ByteArray.size] at h0
    subst this
    go_enter Tryz.func162, Tryz.ntmps162
    go_wp2_with fail
    exact bodyPost_ret (v := .tuple #[.int .i64 0, .bool true]) (by simp [results, Tryz.results162, go_sem]) rfl ⟨rfl, rfl⟩
  · have h0' : 0 < s.size := by omega
    have hne : s.toList.isEmpty = false := by
      rw [ByteArray.toList_eq]
      cases h : s.data.toList with
      | nil => have h1 : s.data.toList.length = s.size := rfl
               rw [h] at h1; simp at h1; omega
      | cons a l => rfl
    have hb := bl_at s 0 h0'
    obtain ⟨c, t, hct⟩ : ∃ c t, bl s = c :: t := by
      cases h : bl s with
      | nil => have := bl_length s; rw [h] at this; simp at this; omega
      | cons c t => exact ⟨c, t, rfl⟩
    have hc0 : (s[0]'h0').toNat = c := by rw [hct] at hb; simpa using hb.symm
    have hdr : (bl s).drop 1 = t := by rw [hct]; rfl
    by_cases hce : c = 101 ∨ c = 69
    · generalize hR : powR (bl s) = R
      have HR := Lib.hid hR
      clear hR
      have HE : Hid (((s[0]'h0').toNat : Int) = 101 ∨ (((s[0]'h0').toNat : Int) != 101) = true ∧ (((s[0]'h0').toNat : Int) != 69) = false) := by
        rcases hce with h | h
        · exact Or.inl (by omega)
        · exact Or.inr ⟨by simp; omega, by simp; omega⟩
      have HT : Hid (∀ (u : List Nat) (ng : Bool), (t.head? = some 43 ∨ t.head? = some 45) ∧ u = t.tail ∧ ng = decide (t.head? = some 45) ∨ ¬ (t.head? = some 43 ∨ t.head? = some 45) ∧ u = t ∧ ng = false → R = if (u.takeWhile isD).length = 0 ∨ (u.takeWhile isD).length ≠ u.length then none else some (if ng then -((u.foldl (fun n c => min 1000 (10 * n + (c - 48))) 0 : Nat) : Int) else (u.foldl (fun n c => min 1000 (10 * n + (c - 48))) 0 : Nat))) := by
        intro u ng h
        rw [← HR.out, hct]
        exact powR_tail c t u ng hce h
      have hc1 : ∀ h : 1 < s.size, t.head? = some (s[1]'h).toNat := by
        intro h
        have := bl_at s 1 h
        rw [hct] at this
        rw [List.head?_eq_getElem?]
        simpa using this
      have hc2 : s.size ≤ 1 → t = [] := by
        intro h
        have := bl_length s
        rw [hct] at this
        simp at this
        exact List.length_eq_zero_iff.1 (by omega)
      have hd2 : (bl s).drop 2 = t.tail := by rw [hct]; cases t <;> rfl
      have HC1 := Lib.hid hc1
      have HC2 := Lib.hid hc2
      have HD1 := Lib.hid hdr
      have HD2 := Lib.hid hd2
      clear hct hb hc0 hdr hc1 hc2 hd2 hce HR
      go_enter Tryz.func162, Tryz.ntmps162
      go_upto_region 3 with fail
      go_cut [18] (fun s18 wx => s18 = .bool false ∧ wx = w)
      case first =>
        rcases HE.out with h | ⟨h, h'⟩
        · have e1 : (((s[0]'h0').toNat : Int) != 101) = false := by simp [h]
          clear h
          go_wp2_with fail
          go_meet
          exact ⟨rfl, rfl⟩
        · go_wp2_with fail
          go_meet
          exact ⟨rfl, rfl⟩
      case rest =>
      obtain ⟨rfl, hwc⟩ := hcut
      rw [hwc]
      clear hwc wc
      go_upto_region 7 with fail
      obtain ⟨B, hB⟩ : ∃ B, B = decide (t.head? = some 43 ∨ t.head? = some 45) := ⟨_, rfl⟩
      have HB := Lib.hid hB
      clear hB
      go_cut [31] (fun s31 wx => s31 = .bool B ∧ wx = w)
      case first =>
        by_cases h1 : 1 < s.size
        · have hh := HC1.out h1
          by_cases h43 : ((s[1]'h1).toNat : Int) = 43
          · have hBt : B = true := by rw [HB.out, hh]; exact decide_eq_true (Or.inl (by congr 1; omega))
            subst hBt
            have e1 : (((s[1]'h1).toNat : Int) == 43) = true := by simp [h43]
            clear hh h43
            go_wp2_with fail
            go_meet
            exact ⟨rfl, rfl⟩
          · have e1 : (((s[1]'h1).toNat : Int) == 43) = false := by simpa using h43
            by_cases h45 : ((s[1]'h1).toNat : Int) = 45
            · have hBt : B = true := by rw [HB.out, hh]; exact decide_eq_true (Or.inr (by congr 1; omega))
              subst hBt
              have e2 : (((s[1]'h1).toNat : Int) == 45) = true := by simp [h45]
              clear hh h43 h45
              go_wp2_with fail
              go_meet
              exact ⟨rfl, rfl⟩
            · have hBt : B = false := by rw [HB.out, hh]; exact decide_eq_false (by simp; omega)
              subst hBt
              have e2 : (((s[1]'h1).toNat : Int) == 45) = false := by simpa using h45
              clear hh h43 h45
              go_wp2_with fail
              go_meet
              exact ⟨rfl, rfl⟩
        · have hBt : B = false := by rw [HB.out, HC2.out (by omega)]; rfl
          subst hBt
          go_wp2_with fail
          go_meet
          exact ⟨rfl, rfl⟩
      case rest =>
      obtain ⟨rfl, hwc⟩ := hcut
      rw [hwc]
      clear hwc wc
      go_upto_if 31 with fail
      go_cut [4, 5] (fun s4 s5 wx => ∃ (i : Nat) (ng : Bool), s4 = .int .i64 (i : Int) ∧ s5 = .bool ng ∧ wx = w ∧ i ≤ s.size ∧ Hid (R = if (((bl s).drop i).takeWhile isD).length = 0 ∨ (((bl s).drop i).takeWhile isD).length ≠ ((bl s).drop i).length then none else some (if ng then -((((bl s).drop i).foldl (fun n c => min 1000 (10 * n + (c - 48))) 0 : Nat) : Int) else (((bl s).drop i).foldl (fun n c => min 1000 (10 * n + (c - 48))) 0 : Nat))))
      case first =>
        cases B with
        | true =>
          have h1 : 1 < s.size := by
            have h2 := of_decide_eq_true HB.out.symm
            by_cases h1 : 1 < s.size
            · exact h1
            · rw [HC2.out (by omega)] at h2; simp at h2
          have hh := HC1.out h1
          go_wp2_with fail
          go_meet
          refine ⟨2, _, rfl, rfl, rfl, by omega, ?_⟩
          have h2 := of_decide_eq_true HB.out.symm
          rw [HD2.out]
          refine HT.out t.tail _ (Or.inl ⟨h2, rfl, ?_⟩)
          rw [hh]
          by_cases h45 : (s[1]'h1).toNat = 45 <;> simp [h45] <;> omega
        | false =>
          have h2 := of_decide_eq_false HB.out.symm
          have HH := Lib.hid h2
          clear h2
          go_wp2_with fail
          go_meet
          refine ⟨1, _, rfl, rfl, rfl, by omega, ?_⟩
          rw [HD1.out]
          exact HT.out t _ (Or.inr ⟨HH.out, rfl, rfl⟩)
      case rest =>
      obtain ⟨i, ng, rfl, rfl, hwc, hi, HRI⟩ := hcut
      rw [hwc]
      clear hwc wc HT HC1 HC2 HD1 HD2 HB HE
      have hrun := run_any s i w hs hi
      have hDl : ((bl s).drop i).length = s.size - i := by rw [List.length_drop, bl_length]
      have HAT : Hid (∀ (m : Nat) (h : i + m < s.size), ((bl s).drop i)[m]? = some (s[i + m]'h).toNat) := fun m h => by rw [List.getElem?_drop]; exact bl_at s (i + m) h
      generalize (bl s).drop i = D at *
      have HTW : Hid (∀ m c, m < (D.takeWhile isD).length → D[m]? = some c → isD c = true) := fun m c h1 h2 => tw_lt D h1 h2
      have hLle := tw_le D
      generalize (D.takeWhile isD).length = L at *
      by_cases hbad : L = 0 ∨ L ≠ D.length
      · have hRn : R = none := by rw [HRI.out]; exact if_pos hbad
        subst hRn
        by_cases hL0 : L = 0
        · have e1 : ((L : Int) == 0) = true := by simp [hL0]
          clear hL0 hbad
          go_wp2_with (go_at_call 161; (with_reducible refine hrun.mono ?_); rintro e w' ⟨rfl, rfl⟩)
          exact bodyPost_ret (v := .tuple #[.int .i64 0, .bool false]) (by simp [results, Tryz.results162, go_sem]) rfl ⟨rfl, rfl⟩
        · have e1 : ((L : Int) == 0) = false := by simp [hL0]
          have e2 : ((i : Int) + (L : Int) != (s.size : Int)) = true := by simp; omega
          clear hL0 hbad
          go_wp2_with (go_at_call 161; (with_reducible refine hrun.mono ?_); rintro e w' ⟨rfl, rfl⟩)
          exact bodyPost_ret (v := .tuple #[.int .i64 0, .bool false]) (by simp [results, Tryz.results162, go_sem]) rfl ⟨rfl, rfl⟩
      · have hRn : R = some (if ng then -((D.foldl (fun n c => min 1000 (10 * n + (c - 48))) 0 : Nat) : Int) else (D.foldl (fun n c => min 1000 (10 * n + (c - 48))) 0 : Nat)) := by rw [HRI.out]; exact if_neg hbad
        have e1 : ((L : Int) == 0) = false := by simp; omega
        have e2 : ((i : Int) + (L : Int) != (s.size : Int)) = false := by simp; omega
        have HRN := Lib.hid hRn
        have hLs : Hid (L = D.length ∧ i + L = s.size) := by show L = D.length ∧ i + L = s.size; omega
        have hLb : L ≤ 1000 := by omega
        clear hRn hbad hDl HRI
        go_wp2_with (go_at_call 161; (with_reducible refine hrun.mono ?_); rintro e w' ⟨rfl, rfl⟩)
        go_loop [7, 8] (fun v7 v8 => ∃ m : Nat, i + m ≤ s.size ∧ v8 = .int .i64 ((i + m : Nat) : Int) ∧ v7 = .int .i64 (((D.take m).foldl (fun n c => min 1000 (10 * n + (c - 48))) 0 : Nat) : Int)) (fun _ v8 => s.size - (intOf v8).toNat)
        case atStart => exact ⟨0, by omega, rfl, rfl⟩
        case round =>
          obtain ⟨m, hm, rfl, rfl⟩ := hrel
          have hn := fold_bd (D.take m) 0 (by omega)
          by_cases hms : i + m < s.size
          · have hb := HAT.out m hms
            obtain ⟨g1, g2⟩ := isD_yes (HTW.out m _ (by have := hLs.out.2; omega) hb)
            have HF : Hid ((D.take (m + 1)).foldl (fun n c => min 1000 (10 * n + (c - 48))) 0 = min 1000 (10 * (D.take m).foldl (fun n c => min 1000 (10 * n + (c - 48))) 0 + ((s[i + m]'hms).toNat - 48))) := by
              show List.foldl _ _ _ = _
              rw [take_at hb, List.foldl_append]; rfl
            generalize (D.take m).foldl (fun n c => min 1000 (10 * n + (c - 48))) 0 = n at *
            clear hb
            by_cases hbig : 1000 < 10 * n + ((s[i + m]'hms).toNat - 48)
            · have hbig' : (1000 : Int) < 10 * (n : Int) + ((s[i + m]'hms).toNat : Int) - 48 := by omega
              go_wp2_with fail
              refine ⟨⟨m + 1, by omega, by go_num, ?_⟩, by simp [intOf]; omega⟩
              rw [HF.out, Nat.min_eq_left (by omega)]; rfl
            · have hbig' : ¬ (1000 : Int) < 10 * (n : Int) + ((s[i + m]'hms).toNat : Int) - 48 := by omega
              go_wp2_with fail
              refine ⟨⟨m + 1, by omega, by go_num, ?_⟩, by simp [intOf]; omega⟩
              rw [HF.out, Nat.min_eq_right (by omega)]
              congr 1; omega
          · have HM : Hid (D.take m = D) := by
              show D.take m = D
              apply List.take_of_length_le
              have := hLs.out
              omega
            have HR2 : Hid (R = some (if ng then -(((D.take m).foldl (fun n c => min 1000 (10 * n + (c - 48))) 0 : Nat) : Int) else ((D.take m).foldl (fun n c => min 1000 (10 * n + (c - 48))) 0 : Nat))) := by
              show R = _
              rw [HM.out]; exact HRN.out
            clear HRN
            generalize (D.take m).foldl (fun n c => min 1000 (10 * n + (c - 48))) 0 = n at *
            have hms' : ¬ ((i : Int) + (m : Int) < (s.size : Int)) := by omega
            cases ng with
            | true =>
              go_wp2_with fail
              exact bodyPost_ret (v := .tuple #[.int .i64 (-(n : Int)), .bool true]) (by simp [results, Tryz.results162, go_sem]) rfl ⟨by rw [HR2.out]; rfl, rfl⟩
            | false =>
              go_wp2_with fail
              exact bodyPost_ret (v := .tuple #[.int .i64 (n : Int), .bool true]) (by simp [results, Tryz.results162, go_sem]) rfl ⟨by rw [HR2.out]; rfl, rfl⟩
    · have hR : powR (bl s) = none := by rw [hct, powR_cons]; unfold powC; rw [if_pos (by omega)]
      rw [hR]
      have e1 : (((s[0]'h0').toNat : Int) != 101) = true := by simp; omega
      have e2 : (((s[0]'h0').toNat : Int) != 69) = true := by simp; omega
      clear hR hct hb hc0 hdr
      go_enter Tryz.func162, Tryz.ntmps162
      go_wp2_with fail
      exact bodyPost_ret (v := .tuple #[.int .i64 0, .bool false]) (by simp [results, Tryz.results162, go_sem]) rfl ⟨rfl, rfl⟩
end Go.Proofs.YtlfbdodokldkhaaGreatDoor
namespace Go.Proofs.YtlfbdodokldkhaaGreatDoor
open Go.RowKit NM
theorem wp_append_own1 {P : Program} (w : World) {o : Oper} {a : Act} {K : Act → World → Prop} {Q : Exit → Act → World → Prop} (s x : Operand) (t : TypeId)
    (ho : o.op = .call { callee := .builtin .append, args := #[s, x], argTypes := #[t, t] })
    (base : Nat) (e : TypeId) (i : TypeInfo) (z : Value) (size bytes : Nat) (ht : P.underlying t = some (.slice e)) (hi : P.info? e = some i) (hz : i.zero = some z)
    (hsize : i.size = size) (hby : i.bytes = bytes) (hzs : z.cells.size = size) (hsz : 0 < size)
    (v : Value) (n : Nat) (xs : List Value) (hs : a.eval s = v) (hown : w.ownsRow base e size v n xs)
    (ad : Addr) (m c : Nat) (news : List Value) (hx : a.eval x = .slice (some ad) m c) (hl : news.length = m * size) (hnews : ∀ j u, news[j]? = some u → w.cell? (ad.add j) = some u) (h1 : ∀ u ∈ news, u.oneCell' = true)
    (b1 : n + m ≤ maxLen) (b2 : (n + m) * bytes ≤ 140737488355328) (hbase : base ≤ w.heap.size)
    (h : ∀ v' w', w'.ownsRow base e size v' (n + m) (xs ++ news) → w.grownBy w' v.ownBlock → K (a.put o.dst v') w') : o.wp P a w K Q := by
  obtain ⟨v', w', hr, h2, h3, _⟩ := run_append_own (P := P) w base t o.type e i z size bytes ht hi hz hsize hby hzs hsz v n xs hown ad m c news hl hnews h1 b1 b2 hbase
  unfold Oper.wp execOp
  simp only [ho, resolve, invoke, builtin, Sem.run_bind, Sem.run_pure, Result.andThen_ok, List.map_toArray, List.map_cons, List.map_nil, hs, hx, hr]
  exact h v' w' h2 h3
theorem one_i64 (n : Int) : ∀ u ∈ [Value.int .i64 n], u.oneCell' = true := by
  intro u hu
  obtain rfl := List.mem_singleton.1 hu
  rfl
theorem own_sl {w : World} {base : Nat} {e : TypeId} {v : Value} {n : Nat} {xs : List Value} (h : w.ownsRow base e 1 v n xs) : ∃ A c, v = .slice A n c := by
  rcases h.2 with ⟨rfl, rfl⟩ | ⟨g, cap, cur, rfl, _⟩
  · exact ⟨_, _, rfl⟩
  · exact ⟨_, _, rfl⟩
/-- A variable of type Dec (block s0) whose digits have been put together by append: k so far. -/
structure AccD (w0 : World) (s0 : Nat) (neg : Bool) (A : Option Addr) (cap k : Nat) (ex : Int) (l : List Nat) (wr : World) : Prop where
  ext : Ext w0 wr
  hi : w0.heap.size ≤ s0
  row : wr.heap[s0]? = some (.cells #[.bool neg, .slice A k cap, .int .i64 ex] 80)
  own : wr.ownsRow (s0 + 1) 3 1 (.slice A k cap) k (i6 l)
/-- What reads need of it. -/
def AccDS (w0 : World) (s0 : Nat) (neg : Bool) (A : Option Addr) (cap k : Nat) (ex : Int) (W : World) : Prop := Ext w0 W ∧ W.heap[s0]? = some (.cells #[.bool neg, .slice A k cap, .int .i64 ex] 80)
section
variable {w0 : World} {s0 : Nat} {neg : Bool} {A : Option Addr} {cap k : Nat} {ex : Int} {l : List Nat} {wr : World}
theorem AccD.lt (h : AccD w0 s0 neg A cap k ex l wr) : s0 < wr.heap.size := lt_block h.row
theorem AccD.of_ext (h : AccD w0 s0 neg A cap k ex l wr) {w1 : World} (hx : Ext wr w1) : AccD w0 s0 neg A cap k ex l w1 :=
  ⟨h.ext.trans hx, h.hi, by rw [hx.block h.lt]; exact h.row, own_ext_ h.own hx⟩
theorem AccD.rd (h : AccD w0 s0 neg A cap k ex l wr) : Rd (s0 + 1) wr A (i6 l) ∧ k ≤ cap := by
  obtain ⟨A', c', e, hr, hc⟩ := Rd.of_own h.own
  simp only [Value.slice.injEq, true_and] at e
  obtain ⟨rfl, rfl⟩ := e
  exact ⟨hr, hc⟩
theorem AccD.len (h : AccD w0 s0 neg A cap k ex l wr) : l.length = k := by
  have := h.own.1
  simp [i6] at this
  omega
theorem AccD.cells (h : AccD w0 s0 neg A cap k ex l wr) : wr.cell? ⟨s0, 0, none⟩ = some (.bool neg) ∧ wr.cell? ⟨s0, 1, none⟩ = some (.slice A k cap) ∧ wr.cell? ⟨s0, 2, none⟩ = some (.int .i64 ex) := by
  refine ⟨?_, ?_, ?_⟩ <;> rw [cell_of_row wr s0 _ _ _ (0, 0) h.row] <;> rfl
theorem AccD.fz (h : AccD w0 s0 neg A cap k ex l wr) (o : Nat) : wr.frozen? ⟨s0, o, none⟩ = false := frozen_of_row wr s0 o _ _ h.row
theorem AccD.own_set (h : AccD w0 s0 neg A cap k ex l wr) (o : Nat) (x : Value) : (wr.setCell ⟨s0, o, none⟩ x).ownsRow (s0 + 1) 3 1 (.slice A k cap) k (i6 l) :=
  own_keep h.own fun g cur hg => RowKit.Below.heap_setCell _ _ _ _ (fun he => by subst he; rw [h.row] at hg; cases hg)
theorem AccD.set0 (h : AccD w0 s0 neg A cap k ex l wr) (n' : Bool) : AccD w0 s0 n' A cap k ex l (wr.setCell ⟨s0, 0, none⟩ (.bool n')) := ⟨h.ext.set _ h.hi, h.hi, heap_setCell_same wr s0 0 _ _ _ h.row, h.own_set _ _⟩
theorem AccD.set2 (h : AccD w0 s0 neg A cap k ex l wr) (e' : Int) : AccD w0 s0 neg A cap k e' l (wr.setCell ⟨s0, 2, none⟩ (.int .i64 e')) := ⟨h.ext.set _ h.hi, h.hi, heap_setCell_same wr s0 2 _ _ _ h.row, h.own_set _ _⟩
theorem AccD.step (h : AccD w0 s0 neg A cap k ex l wr) {x : Nat} {v' : Value} {w1 w3 : World} (hx : Ext wr w1)
    (hg : w1.grownBy w3 (Value.slice A k cap).ownBlock) (ho : w3.ownsRow (s0 + 1) 3 1 v' (k + 1) (i6 l ++ [.int .i64 (x : Int)])) :
    ∃ A' cap', v' = .slice A' (k + 1) cap' ∧ w3.heap[s0]? = some (.cells #[.bool neg, .slice A k cap, .int .i64 ex] 80) ∧ Ext w0 w3 ∧ AccD w0 s0 neg A' cap' (k + 1) ex (l ++ [x]) (w3.setCell ⟨s0, 1, none⟩ v') := by
  obtain ⟨A', cap', rfl⟩ := own_sl ho
  have h1 := h.of_ext hx
  have hlt := h1.lt
  have hnb : ∀ b, b ≤ s0 → some b ≠ (Value.slice A k cap).ownBlock := fun b hb e => by have := (own_block1 h.own _ e.symm).1; omega
  have hrow : w3.heap[s0]? = some (.cells #[.bool neg, .slice A k cap, .int .i64 ex] 80) := by
    rw [hg.block _ hlt (hnb _ (Nat.le_refl _))]; exact h1.row
  have hex : Ext w0 w3 := by
    have h2 : Ext w0 w1 := h1.ext
    exact ⟨hg.os.trans h2.os, hg.tape.trans h2.tape, hg.output.trans h2.output, Nat.le_trans h2.size hg.size, fun b hb => (hg.block b (Nat.lt_of_lt_of_le hb h2.size) (hnb b (by have := h.hi; omega))).trans (h2.block hb)⟩
  refine ⟨A', cap', rfl, hrow, hex, Ext.set hex _ h.hi, h.hi, ?_, ?_⟩
  · exact heap_setCell_same w3 s0 1 _ _ _ hrow
  · have : i6 (l ++ [x]) = i6 l ++ [.int .i64 (x : Int)] := by simp [i6]
    rw [this]
    exact own_keep ho fun g cur hg => RowKit.Below.heap_setCell _ _ _ _ (fun he => by subst he; rw [hrow] at hg; cases hg)
end
end Go.Proofs.YtlfbdodokldkhaaGreatDoor
namespace Go.Proofs.YtlfbdodokldkhaaGreatDoor
open Go.RowKit NM
theorem bl_extract (s : ByteArray) (i : Nat) : bl (s.extract i s.size) = (bl s).drop i := by
  unfold bl
  rw [ByteArray.data_extract, Array.toList_extract, List.extract_eq_take_drop, List.take_of_length_le (by rw [List.length_drop]; exact Nat.le_refl _), List.map_drop]
/-- What comes behind the sign and the digits. -/
def parP (ng : Bool) (n nb : Nat) (ds : List Nat) : Option Int → Option (Int × Int)
  | none => none
  | some e => if n + nb = 0 then none else rnd ng (val ds) false (e - nb)
def parT (ng : Bool) (n nb : Nat) (ds : List Nat) (l3 : List Nat) : Option (Int × Int) := parP ng n nb ds (powR l3)
theorem parP_some (ng : Bool) (n nb : Nat) (ds : List Nat) (e : Int) : parP ng n nb ds (some e) = if n + nb = 0 then none else rnd ng (val ds) false (e - nb) := rfl
theorem parR1_dot {ng : Bool} {l1 : List Nat} (h : (l1.drop (l1.takeWhile isD).length).head? = some 46) (hB : ((l1.drop ((l1.takeWhile isD).length + 1)).takeWhile isD).length ≠ 0) :
    parR1 ng l1 = parT ng (l1.takeWhile isD).length ((l1.drop ((l1.takeWhile isD).length + 1)).takeWhile isD).length (((l1.takeWhile isD) ++ ((l1.drop ((l1.takeWhile isD).length + 1)).takeWhile isD)).map (· - 48)) (l1.drop ((l1.takeWhile isD).length + 1 + ((l1.drop ((l1.takeWhile isD).length + 1)).takeWhile isD).length)) := by
  have d1 : l1.dropWhile isD = l1.drop (l1.takeWhile isD).length := by
    conv => rhs; arg 2; rw [split_d l1]
    rw [List.drop_left]
  have d2 : (l1.drop (l1.takeWhile isD).length).tail = l1.drop ((l1.takeWhile isD).length + 1) := by rw [List.tail_drop]
  have d3 : ∀ l : List Nat, l.dropWhile isD = l.drop (l.takeWhile isD).length := fun l => by
    conv => rhs; arg 2; rw [split_d l]
    rw [List.drop_left]
  unfold parR1 parT
  simp only [d1, d2, h, if_true, true_and]
  rw [if_neg (fun h0 => hB (by rw [h0]; rfl)), d3 (l1.drop ((l1.takeWhile isD).length + 1)), List.drop_drop]
  generalize powR _ = r
  cases r <;> rfl
theorem parR1_dot0 {ng : Bool} {l1 : List Nat} (h : (l1.drop (l1.takeWhile isD).length).head? = some 46) (hB : ((l1.drop ((l1.takeWhile isD).length + 1)).takeWhile isD).length = 0) : parR1 ng l1 = none := by
  have d1 : l1.dropWhile isD = l1.drop (l1.takeWhile isD).length := by
    conv => rhs; arg 2; rw [split_d l1]
    rw [List.drop_left]
  have d2 : (l1.drop (l1.takeWhile isD).length).tail = l1.drop ((l1.takeWhile isD).length + 1) := by rw [List.tail_drop]
  unfold parR1
  simp only [d1, d2, h, if_true, true_and]
  rw [if_pos (List.length_eq_zero_iff.1 hB)]
theorem parR1_not {ng : Bool} {l1 : List Nat} (h : (l1.drop (l1.takeWhile isD).length).head? ≠ some 46) :
    parR1 ng l1 = parT ng (l1.takeWhile isD).length 0 ((l1.takeWhile isD).map (· - 48)) (l1.drop (l1.takeWhile isD).length) := by
  have d1 : l1.dropWhile isD = l1.drop (l1.takeWhile isD).length := by
    conv => rhs; arg 2; rw [split_d l1]
    rw [List.drop_left]
  unfold parR1 parT
  simp only [d1, if_neg h, List.length_nil, List.append_nil]
  rw [if_neg (fun h0 => h h0.1)]
  generalize powR _ = r
  cases r <;> rfl
theorem tw_take (l : List Nat) : l.take (l.takeWhile isD).length = l.takeWhile isD := by
  conv => lhs; arg 2; rw [split_d l]
  rw [List.take_left]
theorem powR_bd {l : List Nat} {e : Int} (h : powR l = some e) : -1000 ≤ e ∧ e ≤ 1000 := by
  cases l with
  | nil => cases h; omega
  | cons c t =>
    rw [powR_cons] at h
    unfold powC at h
    split at h
    · cases h
    · simp only at h
      generalize (if t.head? = some 43 ∨ t.head? = some 45 then t.tail else t) = u at h
      by_cases hu : u = [] ∨ ¬ (∀ c ∈ u, isD c = true)
      · rw [if_pos hu] at h; cases h
      · rw [if_neg hu] at h
        have hb := fold_bd u 0 (by omega)
        have h := Option.some.inj h
        split at h <;> omega
theorem chr_all {a : List Nat} (h : ∀ c ∈ a, isD c = true) : AllD (a.map (· - 48)) := by
  intro d hd
  obtain ⟨c, hc, rfl⟩ := List.mem_map.1 hd
  have := isD_yes (h c hc)
  omega
set_option maxHeartbeats 2000000 in
theorem rparse_any (s : ByteArray) (w : World) (hs : s.size ≤ 1000) :
    Calls Tryz.prog 127 #[.string s] w fun r w' => r = .returned (rnV (if 255 < s.size then none else parR (bl s))) ∧ Ext w w' := by
  by_cases hlen : 255 < s.size
  · rw [if_pos hlen]
    go_enter Tryz.func127, Tryz.ntmps127
    go_wp2_with fail
    exact bodyPost_ret (v := .tuple #[NV 0 0, .bool false]) (by simp [results, Tryz.results127, go_sem]) rfl ⟨rfl, by with_reducible repeat (first | exact Ext.refl _ | apply Ext.drew | apply Ext.alloc | apply Ext.more_)⟩
  · rw [if_neg hlen]
    generalize hR : parR (bl s) = R
    have HR := Lib.hid hR
    clear hR
    go_enter Tryz.func127, Tryz.ntmps127
    go_upto_region 5 with fail
    refine wp_world fun W hW => ?_
    have hX0 : PV (w.alloc (.cells #[.int .i64 0, .int .i64 0] 37)) w.heap.size 0 0 := PV.new 0 0 rfl
    have hXw : Ext w (w.alloc (.cells #[.int .i64 0, .int .i64 0] 37)) := (Ext.refl w).alloc _
    have hXs : (w.alloc (.cells #[.int .i64 0, .int .i64 0] 37)).heap.size = w.heap.size + 1 := by simp
    have hacc0 : AccD (w.alloc (.cells #[.int .i64 0, .int .i64 0] 37)) (w.heap.size + 1) false none 0 0 0 [] W := by
      refine ⟨by rw [hW]; exact (Ext.refl _).alloc _, by omega, ?_, World.ownsRow_nil _ _ _ _⟩
      rw [hW, ← hXs]
      exact Array.getElem?_push_size
    clear hW
    generalize w.alloc (.cells #[.int .i64 0, .int .i64 0] 37) = X at *
    have HS0 := Lib.hid hXs
    clear hXs
    have hq0 : w.heap.size < w.heap.size + 1 := by omega
    generalize w.heap.size + 1 = q at *
    obtain ⟨B, hB⟩ : ∃ B, B = decide ((bl s).head? = some 45) := ⟨_, rfl⟩
    have HB := Lib.hid hB
    have HACC := Lib.hid hacc0
    clear hB hacc0
    go_cut [24] (fun s24 wx => s24 = .bool B ∧ wx = W)
    case first =>
      by_cases h0 : 0 < s.size
      · have hh : (bl s).head? = some (s[0]'h0).toNat := by rw [List.head?_eq_getElem?]; exact bl_at s 0 h0
        by_cases h45 : ((s[0]'h0).toNat : Int) = 45
        · have hBt : B = true := by rw [HB.out, hh]; exact decide_eq_true (by congr 1; omega)
          subst hBt
          have e1 : (((s[0]'h0).toNat : Int) == 45) = true := by simp [h45]
          clear hh h45
          go_wp2_with fail
          go_meet
          exact ⟨rfl, rfl⟩
        · have hBt : B = false := by rw [HB.out, hh]; exact decide_eq_false (by simp; omega)
          subst hBt
          have e1 : (((s[0]'h0).toNat : Int) == 45) = false := by simpa using h45
          clear hh h45
          go_wp2_with fail
          go_meet
          exact ⟨rfl, rfl⟩
      · have hBt : B = false := by
          rw [HB.out]
          have : bl s = [] := List.length_eq_zero_iff.1 (by rw [bl_length]; omega)
          rw [this]; rfl
        subst hBt
        go_wp2_with fail
        go_meet
        exact ⟨rfl, rfl⟩
    case rest =>
    obtain ⟨rfl, hwc⟩ := hcut
    rw [hwc]
    clear hwc wc
    go_upto_if 24 with fail
    go_cut [5] (fun s5 wx => ∃ (p : Nat) (ng : Bool), s5 = .int .i64 (p : Int) ∧ p ≤ s.size ∧ Hid (R = parR1 ng ((bl s).drop p)) ∧ Hid (AccD X q ng none 0 0 0 [] wx))
    case first =>
      have a0 := HACC.out.fz 0
      have a1 := HACC.out.lt
      have a2 := HACC.out.cells.1
      cases B with
      | true =>
        have h2 := of_decide_eq_true HB.out.symm
        have h1 : 1 ≤ s.size := by
          have := bl_length s
          cases h : bl s with
          | nil => rw [h] at h2; cases h2
          | cons a l => rw [h] at this; simp at this; omega
        have HH := Lib.hid h2
        clear h2
        go_wp2_with fail
        go_meet
        refine ⟨1, true, rfl, h1, ?_, HACC.out.set0 true⟩
        show _ = _
        rw [← HR.out, parR_one, if_pos HH.out, decide_eq_true HH.out, ← List.drop_one]
      | false =>
        have h2 := of_decide_eq_false HB.out.symm
        have HH := Lib.hid h2
        clear h2
        go_wp2_with fail
        go_meet
        refine ⟨0, false, rfl, Nat.zero_le _, ?_, HACC⟩
        show _ = _
        rw [← HR.out, parR_one, if_neg HH.out, decide_eq_false HH.out, List.drop_zero]
    case rest =>
    obtain ⟨p, ng, rfl, hp, HRP, HA⟩ := hcut
    clear HR HB HACC
    obtain ⟨i0, hi0, hz0, hz1, hz2⟩ := info_parts info_int_
    have hrun := fun W => run_any s p W hs hp
    have HAT : Hid (∀ (m : Nat) (h : p + m < s.size), ((bl s).drop p)[m]? = some (s[p + m]'h).toNat) := fun m h => by rw [List.getElem?_drop]; exact bl_at s (p + m) h
    have hDl : ((bl s).drop p).length = s.size - p := by rw [List.length_drop, bl_length]
    have HDD : Hid (∀ k, (bl s).drop (p + k) = ((bl s).drop p).drop k) := fun k => by rw [List.drop_drop]
    generalize hD : (bl s).drop p = D at *
    have HTW : Hid (∀ m c, m < (D.takeWhile isD).length → D[m]? = some c → isD c = true) := fun m c h1 h2 => tw_lt D h1 h2
    have hLle := tw_le D
    have HLT := Lib.hid (tw_take D)
    generalize hL : (D.takeWhile isD).length = L at *
    have HL := Lib.hid hL
    have HDl := Lib.hid hDl
    have hLs : p + L ≤ s.size := by omega
    clear hL hD hDl hLle
    go_wp2_with (go_at_call 161; (with_reducible refine (hrun _).mono ?_); rintro e w' ⟨rfl, rfl⟩)
    go_loopw [8] (fun v8 wr => ∃ (j : Nat) (A : Option Addr) (cap : Nat), j ≤ L ∧ v8 = .int .i64 (j : Int) ∧ Hid (AccD X q ng A cap j 0 ((D.take j).map (· - 48)) wr)) (fun v8 _ => L - (intOf v8).toNat)
    case atStart => exact ⟨0, none, 0, Nat.zero_le _, rfl, HA⟩
    case round =>
      obtain ⟨j, A, cap, hj, rfl, H⟩ := hrel
      by_cases hjL : j < L
      · have hjs : p + j < s.size := by omega
        have hb := HAT.out j hjs
        obtain ⟨g1, g2⟩ := isD_yes (HTW.out j _ hjL hb)
        have HB := Lib.hid hb
        have hacc := H.out
        obtain ⟨x, hx⟩ : ∃ x, x = (s[p + j]'hjs).toNat - 48 := ⟨_, rfl⟩
        have w1 : IntKind.i64.wrap (((s[p + j]'hjs).toNat : Int) - 48) = (x : Int) := by rw [i64w (by omega) (by omega)]; omega
        have w0 : IntKind.i64.wrap ((s[p + j]'hjs).toNat : Int) = ((s[p + j]'hjs).toNat : Int) := i64w (by omega) (by omega)
        have w3 : IntKind.i64.wrap ((p : Int) + (j : Int)) = (p : Int) + (j : Int) := i64w (by omega) (by omega)
        have w4 : (0 : Int) ≤ (p : Int) + (j : Int) ∧ (p : Int) + (j : Int) < (s.size : Int) := by omega
        have w5 : ((p : Int) + (j : Int)).toNat = p + j := by omega
        have HX := Lib.hid hx
        clear hb g1 g2 hx
        go_upto_region 13 with fail
        refine wp_plan (S := AccDS _ _ _ _ _ _ _) [(0, 0), (1, 0), (2, 0), (3, 0), (4, 0), (5, 0), (6, 0), (7, 0), (8, 0), (9, 1), (10, 1), (11, 0), (12, 2)] [12] (by kernel_rfl) (by kernel_rfl) (by kernel_rfl) (fun _ _ d _ _ h => by cases d <;> exact h) ⟨(hacc.of_ext (by repeat (first | exact Ext.refl _ | (with_reducible (first | exact ext_d _ _ _ _ | exact ext_app _ _ _ _ _ | apply Ext.drew | apply Ext.alloc | apply Ext.more_)) | apply Ext.drew | apply Ext.alloc | apply Ext.more_))).ext, (hacc.of_ext (by repeat (first | exact Ext.refl _ | (with_reducible (first | exact ext_d _ _ _ _ | exact ext_app _ _ _ _ _ | apply Ext.drew | apply Ext.alloc | apply Ext.more_)) | apply Ext.drew | apply Ext.alloc | apply Ext.more_))).row⟩ ?_
        iterate 9 ((refine wpPl_read (v := ?_) rfl ?_ (fun w1 h1 => ?_) ?_; rotate_left 1; rfl; (obtain ⟨h1e, h1r⟩ := h1; have c2 := cell_of_row _ _ 1 _ _ _ h1r; clear h1r; obtain ⟨os1, d1, rfl⟩ := h1e.more; go_simp; first | done | rfl)); try simp only [Act.put, zqA, zqB, zqC])
        (refine wpPl_eff rfl ?_ (fun K hK => ?_); rfl; go_simp; refine hK _ _ ⟨(hacc.of_ext (by repeat (first | exact Ext.refl _ | (with_reducible (first | exact ext_d _ _ _ _ | exact ext_app _ _ _ _ _ | apply Ext.drew | apply Ext.alloc | apply Ext.more_)) | apply Ext.drew | apply Ext.alloc | apply Ext.more_))).ext, (hacc.of_ext (by repeat (first | exact Ext.refl _ | (with_reducible (first | exact ext_d _ _ _ _ | exact ext_app _ _ _ _ _ | apply Ext.drew | apply Ext.alloc | apply Ext.more_)) | apply Ext.drew | apply Ext.alloc | apply Ext.more_))).row⟩ ?_)
        try simp only [Act.put, zqA, zqB, zqC]
        (refine wpPl_eff rfl ?_ (fun K hK => ?_); rfl)
        refine wp_append_own1 _ _ _ _ rfl _ 3 i0 (.int .i64 0) 1 8 Tryz.underlying77 hi0 hz0 hz1 hz2 rfl (by decide) _ _ _ rfl (own_ext_ hacc.own (by repeat (first | exact Ext.refl _ | (with_reducible (first | exact ext_d _ _ _ _ | exact ext_app _ _ _ _ _ | apply Ext.drew | apply Ext.alloc | apply Ext.more_)) | apply Ext.drew | apply Ext.alloc | apply Ext.more_))) _ 1 1 [.int .i64 (x : Int)] rfl rfl (Rd.one_ _ _ (by first | rfl | (simp; done))).add (one_i64 _) (by simp only [maxLen]; omega) (by omega) (by have := hacc.lt; simp; omega) ?_
        intro v3 w3 ho3 hg3
        obtain ⟨A2, cap2, rfl, hrow3, hex3, hacc2⟩ := hacc.step (by repeat (first | exact Ext.refl _ | (with_reducible (first | exact ext_d _ _ _ _ | exact ext_app _ _ _ _ _ | apply Ext.drew | apply Ext.alloc | apply Ext.more_)) | apply Ext.drew | apply Ext.alloc | apply Ext.more_)) hg3 ho3
        refine hK _ _ ⟨hex3, hrow3⟩ ?_
        try simp only [Act.put, zqA, zqB, zqC]
        (refine wpPl_read (v := ?_) rfl ?_ (fun w1 h1 => ?_) ?_; rotate_left 1; rfl; (obtain ⟨h1e, h1r⟩ := h1; have c2 := cell_of_row _ _ 1 _ _ _ h1r; clear h1r; obtain ⟨os1, d1, rfl⟩ := h1e.more; go_simp; first | done | rfl))
        try simp only [Act.put, zqA, zqB, zqC]
        have c2 := cell_of_row _ _ 1 _ _ _ hrow3
        have f2 := frozen_of_row _ _ 1 _ _ hrow3
        clear hrow3 hex3 hg3 ho3
        (refine wpPl_tail rfl ?_ (fun K hK => ?_); rfl; go_simp; refine hK _ _ ?_)
        clear c2 f2
        try simp only [Act.put]
        refine wpPl_nil ?_
        go_wp2_with fail
        refine ⟨⟨j + 1, A2, cap2, by omega, by go_num, ?_⟩, by simp [intOf]; omega⟩
        show AccD _ _ _ _ _ _ _ _ _
        rw [take_at HB.out, List.map_append, List.map_singleton, ← HX.out]
        exact hacc2
      · obtain rfl : L = j := by omega
        clear hj hjL hrun HTW HAT HA
        go_upto_region 15 with fail
        obtain ⟨i1, hi1⟩ : ∃ i1 : Nat, (p : Int) + (L : Int) = (i1 : Int) := ⟨p + L, by omega⟩
        rw [hi1]
        have hi1' : i1 = p + L := by omega
        have hi1s : i1 ≤ s.size := by omega
        have HH : Hid (∀ h : i1 < s.size, (D.drop L).head? = some (s[i1]'h).toNat) := fun h => by
          rw [← HDD.out L, ← hi1', List.head?_drop]; exact bl_at s i1 h
        have HH0 : Hid (¬ i1 < s.size → (D.drop L).head? ≠ some 46) := fun h => by
          have : D.drop L = [] := List.drop_eq_nil_of_le (by rw [HDl.out]; omega)
          rw [this]; simp
        have HDD1 : Hid ((bl s).drop i1 = D.drop L) := by show _ = _; rw [hi1']; exact HDD.out L
        have HDD2 : Hid (∀ k, (bl s).drop (i1 + k) = D.drop (L + k)) := fun k => by rw [hi1', Nat.add_assoc]; exact HDD.out (L + k)
        clear hi1 hi1'
        have hX0r := hX0.ext H.out.ext
        have a0 := hX0r.c0
        have a1 := hX0r.c1
        have a2 := hX0r.fz 0
        have a3 := hX0r.fz 1
        have a4 := hX0r.lt
        have z0 := (hX0r.set 0 0).c0
        have z1 := (hX0r.set 0 0).c1
        obtain ⟨B2, hB2⟩ : ∃ B2, B2 = decide ((D.drop L).head? = some 46) := ⟨_, rfl⟩
        have HB2 := Lib.hid hB2
        clear hB2
        go_cut [58] (fun s58 wx => s58 = .bool B2 ∧ wx = wr)
        case first =>
          by_cases h1 : i1 < s.size
          · have hh := HH.out h1
            by_cases h46 : ((s[i1]'h1).toNat : Int) = 46
            · have hBt : B2 = true := by rw [HB2.out, hh]; exact decide_eq_true (by congr 1; omega)
              subst hBt
              have e1 : (((s[i1]'h1).toNat : Int) == 46) = true := by simp [h46]
              clear hh h46
              go_wp2_with fail
              go_meet
              exact ⟨rfl, rfl⟩
            · have hBt : B2 = false := by rw [HB2.out, hh]; exact decide_eq_false (by simp; omega)
              subst hBt
              have e1 : (((s[i1]'h1).toNat : Int) == 46) = false := by simpa using h46
              clear hh h46
              go_wp2_with fail
              go_meet
              exact ⟨rfl, rfl⟩
          · have hBt : B2 = false := by rw [HB2.out]; exact decide_eq_false (HH0.out h1)
            subst hBt
            have h1' : ¬ (i1 : Int) < (s.size : Int) := by omega
            go_wp2_with fail
            go_meet
            exact ⟨rfl, rfl⟩
        case rest =>
        obtain ⟨rfl, hwc⟩ := hcut
        rw [hwc]
        clear hwc wc
        go_upto_if 58 with fail
        go_cut [5, 7] (fun s5 s7 wx => ∃ (i2 nb k cap2 : Nat) (A2 : Option Addr) (ds : List Nat), s5 = .int .i64 (i2 : Int) ∧ s7 = .int .i64 (nb : Int) ∧ i2 ≤ s.size ∧ nb ≤ s.size ∧ k ≤ 510 ∧ Hid (AllD ds) ∧ Hid (R = parT ng L nb ds ((bl s).drop i2)) ∧ Hid (AccD X q ng A2 cap2 k 0 ds wx))
        case first =>
          cases B2 with
          | false =>
            have h46 := of_decide_eq_false HB2.out.symm
            have H46 := Lib.hid h46
            clear h46
            go_wp2_with fail
            go_meet
            refine ⟨i1, 0, L, cap, A, _, rfl, rfl, hi1s, Nat.zero_le _, by omega, ?_, ?_, H⟩
            · show AllD _
              rw [HLT.out]; exact chr_all (take_d D)
            · show _ = _
              rw [HRP.out, HDD1.out, HLT.out, ← HL.out]
              exact parR1_not (by rw [HL.out]; exact H46.out)
          | true =>
            have h46 := of_decide_eq_true HB2.out.symm
            have h1 : i1 < s.size := Decidable.byContradiction fun h => HH0.out h h46
            have H46 := Lib.hid h46
            clear h46
            obtain ⟨i2, hi2⟩ : ∃ i2 : Nat, (i1 : Int) + 1 = (i2 : Int) := ⟨i1 + 1, by omega⟩
            have hi2' : i2 = i1 + 1 := by omega
            have hi2s : i2 ≤ s.size := by omega
            have hrun := fun W => run_any s i2 W hs hi2s
            have hD2 : (bl s).drop i2 = D.drop (L + 1) := by rw [hi2']; exact HDD2.out 1
            have HAT : Hid (∀ (m : Nat) (h : i2 + m < s.size), (D.drop (L + 1))[m]? = some (s[i2 + m]'h).toNat) := fun m h => by rw [← hD2, List.getElem?_drop]; exact bl_at s (i2 + m) h
            have hDl : (D.drop (L + 1)).length = s.size - i2 := by rw [← hD2, List.length_drop, bl_length]
            rw [hD2] at hrun
            have HTW : Hid (∀ m c, m < ((D.drop (L + 1)).takeWhile isD).length → (D.drop (L + 1))[m]? = some c → isD c = true) := fun m c h1 h2 => tw_lt _ h1 h2
            have hLle := tw_le (D.drop (L + 1))
            have HLT2 := Lib.hid (tw_take (D.drop (L + 1)))
            have HTD := Lib.hid (take_d (D.drop (L + 1)))
            generalize hL2 : ((D.drop (L + 1)).takeWhile isD).length = nb at *
            have HL2 := Lib.hid hL2
            have HI2 := Lib.hid hi2'
            have hLs2 : i2 + nb ≤ s.size := by omega
            clear hL2 hDl hLle hD2 hi2'
            by_cases hnb : nb = 0
            · have hRn : R = none := by
                rw [HRP.out]
                exact parR1_dot0 (by rw [HL.out]; exact H46.out) (by rw [HL.out, HL2.out]; exact hnb)
              subst hRn
              have e1 : ((nb : Int) == 0) = true := by simp [hnb]
              clear hnb
              go_wp2_with (go_at_call 161; (with_reducible refine (hrun _).mono ?_); rintro e w' ⟨rfl, rfl⟩)
              exact bodyPost_ret (v := .tuple #[NV 0 0, .bool false]) (by simp [results, Tryz.results127, go_sem, z0, z1]) rfl ⟨rfl, ((hXw.trans H.out.ext).set _ (Nat.le_refl _)).set _ (Nat.le_refl _)⟩
            · have e1 : ((nb : Int) == 0) = false := by simp [hnb]
              have HNB := Lib.hid hnb
              clear hnb a0 a1 a2 a3 z0 z1
              go_wp2_with (go_at_call 161; (with_reducible refine (hrun _).mono ?_); rintro e w' ⟨rfl, rfl⟩)
              go_loopw [9] (fun v9 wx => ∃ (j : Nat) (A2 : Option Addr) (cap2 : Nat), j ≤ nb ∧ v9 = .int .i64 (j : Int) ∧ Hid (AccD X q ng A2 cap2 (L + j) 0 ((D.take L).map (· - 48) ++ ((D.drop (L + 1)).take j).map (· - 48)) wx)) (fun v9 _ => nb - (intOf v9).toNat)
              case atStart => exact ⟨0, A, cap, Nat.zero_le _, rfl, by show AccD _ _ _ _ _ _ _ _ _; rw [List.take_zero, List.map_nil, List.append_nil]; exact H.out⟩
              case round =>
                obtain ⟨j, A, cap, hj, rfl, H⟩ := hrel
                by_cases hjL : j < nb
                · have hjs : i2 + j < s.size := by omega
                  have hb := HAT.out j hjs
                  obtain ⟨g1, g2⟩ := isD_yes (HTW.out j _ hjL hb)
                  have HB := Lib.hid hb
                  have hacc := H.out
                  obtain ⟨x, hx⟩ : ∃ x, x = (s[i2 + j]'hjs).toNat - 48 := ⟨_, rfl⟩
                  have w1 : IntKind.i64.wrap (((s[i2 + j]'hjs).toNat : Int) - 48) = (x : Int) := by rw [i64w (by omega) (by omega)]; omega
                  have w0 : IntKind.i64.wrap ((s[i2 + j]'hjs).toNat : Int) = ((s[i2 + j]'hjs).toNat : Int) := i64w (by omega) (by omega)
                  have w3 : IntKind.i64.wrap ((i2 : Int) + (j : Int)) = (i2 : Int) + (j : Int) := i64w (by omega) (by omega)
                  have w7 : IntKind.i64.wrap (i2 : Int) = (i2 : Int) := i64w (by omega) (by omega)
                  have w6 : IntKind.i64.wrap ((i1 : Int) + 1) = (i2 : Int) := by rw [i64w (by omega) (by omega)]; exact hi2
                  have w4 : (0 : Int) ≤ (i2 : Int) + (j : Int) ∧ (i2 : Int) + (j : Int) < (s.size : Int) := by omega
                  have w5 : ((i2 : Int) + (j : Int)).toNat = i2 + j := by omega
                  have HX := Lib.hid hx
                  clear hb g1 g2 hx
                  go_upto_region 22 with fail
                  refine wp_plan (S := AccDS _ _ _ _ _ _ _) [(0, 0), (1, 0), (2, 0), (3, 0), (4, 0), (5, 0), (6, 0), (7, 0), (8, 0), (9, 0), (10, 1), (11, 1), (12, 0), (13, 2)] [13] (by kernel_rfl) (by kernel_rfl) (by kernel_rfl) (fun _ _ d _ _ h => by cases d <;> exact h) ⟨(hacc.of_ext (by repeat (first | exact Ext.refl _ | (with_reducible (first | exact ext_d _ _ _ _ | exact ext_app _ _ _ _ _ | apply Ext.drew | apply Ext.alloc | apply Ext.more_)) | apply Ext.drew | apply Ext.alloc | apply Ext.more_))).ext, (hacc.of_ext (by repeat (first | exact Ext.refl _ | (with_reducible (first | exact ext_d _ _ _ _ | exact ext_app _ _ _ _ _ | apply Ext.drew | apply Ext.alloc | apply Ext.more_)) | apply Ext.drew | apply Ext.alloc | apply Ext.more_))).row⟩ ?_
                  iterate 10 ((refine wpPl_read (v := ?_) rfl ?_ (fun w1 h1 => ?_) ?_; rotate_left 1; rfl; (obtain ⟨h1e, h1r⟩ := h1; have c2 := cell_of_row _ _ 1 _ _ _ h1r; clear h1r; obtain ⟨os1, d1, rfl⟩ := h1e.more; go_simp; first | done | rfl)); try simp only [Act.put, zqA, zqB, zqC])
                  (refine wpPl_eff rfl ?_ (fun K hK => ?_); rfl; go_simp; refine hK _ _ ⟨(hacc.of_ext (by repeat (first | exact Ext.refl _ | (with_reducible (first | exact ext_d _ _ _ _ | exact ext_app _ _ _ _ _ | apply Ext.drew | apply Ext.alloc | apply Ext.more_)) | apply Ext.drew | apply Ext.alloc | apply Ext.more_))).ext, (hacc.of_ext (by repeat (first | exact Ext.refl _ | (with_reducible (first | exact ext_d _ _ _ _ | exact ext_app _ _ _ _ _ | apply Ext.drew | apply Ext.alloc | apply Ext.more_)) | apply Ext.drew | apply Ext.alloc | apply Ext.more_))).row⟩ ?_)
                  try simp only [Act.put, zqA, zqB, zqC]
                  (refine wpPl_eff rfl ?_ (fun K hK => ?_); rfl)
                  refine wp_append_own1 _ _ _ _ rfl _ 3 i0 (.int .i64 0) 1 8 Tryz.underlying77 hi0 hz0 hz1 hz2 rfl (by decide) _ _ _ rfl (own_ext_ hacc.own (by repeat (first | exact Ext.refl _ | (with_reducible (first | exact ext_d _ _ _ _ | exact ext_app _ _ _ _ _ | apply Ext.drew | apply Ext.alloc | apply Ext.more_)) | apply Ext.drew | apply Ext.alloc | apply Ext.more_))) _ 1 1 [.int .i64 (x : Int)] rfl rfl (Rd.one_ _ _ (by first | rfl | (simp; done))).add (one_i64 _) (by simp only [maxLen]; omega) (by omega) (by have := hacc.lt; simp; omega) ?_
                  intro v3 w3 ho3 hg3
                  obtain ⟨A2, cap2, rfl, hrow3, hex3, hacc2⟩ := hacc.step (by repeat (first | exact Ext.refl _ | (with_reducible (first | exact ext_d _ _ _ _ | exact ext_app _ _ _ _ _ | apply Ext.drew | apply Ext.alloc | apply Ext.more_)) | apply Ext.drew | apply Ext.alloc | apply Ext.more_)) hg3 ho3
                  refine hK _ _ ⟨hex3, hrow3⟩ ?_
                  try simp only [Act.put, zqA, zqB, zqC]
                  (refine wpPl_read (v := ?_) rfl ?_ (fun w1 h1 => ?_) ?_; rotate_left 1; rfl; (obtain ⟨h1e, h1r⟩ := h1; have c2 := cell_of_row _ _ 1 _ _ _ h1r; clear h1r; obtain ⟨os1, d1, rfl⟩ := h1e.more; go_simp; first | done | rfl))
                  try simp only [Act.put, zqA, zqB, zqC]
                  have c2 := cell_of_row _ _ 1 _ _ _ hrow3
                  have f2 := frozen_of_row _ _ 1 _ _ hrow3
                  clear hrow3 hex3 hg3 ho3
                  (refine wpPl_tail rfl ?_ (fun K hK => ?_); rfl; go_simp; refine hK _ _ ?_)
                  clear c2 f2
                  try simp only [Act.put]
                  refine wpPl_nil ?_
                  go_wp2_with fail
                  refine ⟨⟨j + 1, A2, cap2, by omega, by go_num, ?_⟩, by simp [intOf]; omega⟩
                  show AccD _ _ _ _ _ _ _ _ _
                  rw [take_at HB.out, List.map_append, List.map_singleton, ← HX.out, ← List.append_assoc]
                  exact hacc2
                · obtain rfl : nb = j := by omega
                  go_wp2_with fail
                  go_meet
                  refine ⟨i2 + nb, nb, L + nb, cap, A, _, by go_num, rfl, hLs2, by omega, by omega, ?_, ?_, H⟩
                  · show AllD _
                    rw [HLT.out, HLT2.out]; exact (chr_all (take_d D)).append (chr_all HTD.out)
                  · show _ = _
                    rw [HRP.out, HLT.out, HLT2.out, HI2.out, Nat.add_assoc, HDD2.out, ← List.map_append]
                    have := parR1_dot (ng := ng) (l1 := D) (by rw [HL.out]; exact H46.out) (by rw [HL.out, HL2.out]; exact HNB.out)
                    rw [HL.out, HL2.out] at this
                    rw [this, Nat.add_assoc]
        case rest =>
        obtain ⟨i2, nb, k, cap2, A2, ds, rfl, rfl, hi2, hnb, hk, HAD, HRT, HA2⟩ := hcut
        clear a0 a1 a2 a3 a4 z0 z1 HB2 HDD1 HDD2 HH HH0 hi1s HRP HLT HL HDl H
        have hesz : (s.extract i2 s.size).size ≤ 1000 := by rw [ByteArray.size_extract]; omega
        have hpw := fun W => rpower_any (s.extract i2 s.size) W hesz
        rw [bl_extract] at hpw
        have hX0r := hX0.ext HA2.out.ext
        have a0 := hX0r.c0
        have a1 := hX0r.c1
        have a2 := hX0r.fz 0
        have a3 := hX0r.fz 1
        have a4 := hX0r.lt
        have z0 := (hX0r.set 0 0).c0
        have z1 := (hX0r.set 0 0).c1
        generalize hP : powR ((bl s).drop i2) = P at *
        have hRP : R = parP ng L nb ds P := by rw [HRT.out]; unfold parT; rw [hP]
        cases P with
        | none =>
          have hRP : R = none := hRP
          subst hRP
          clear hP
          go_wp2_with (go_at_call 162; (with_reducible refine (hpw _).mono ?_); rintro e w' ⟨rfl, rfl⟩; simp only [oV, Option.isSome_none, Option.getD_none])
          exact bodyPost_ret (v := .tuple #[NV 0 0, .bool false]) (by simp [results, Tryz.results127, go_sem, z0, z1]) rfl ⟨rfl, ((hXw.trans HA2.out.ext).set _ (Nat.le_refl _)).set _ (Nat.le_refl _)⟩
        | some e =>
          have hbd := powR_bd hP
          clear hP
          by_cases hLn : L + nb = 0
          · rw [parP_some, if_pos hLn] at hRP
            subst hRP
            have e1 : ((L : Int) + (nb : Int) == 0) = true := by simp; omega
            clear hLn
            go_wp2_with (go_at_call 162; (with_reducible refine (hpw _).mono ?_); rintro e w' ⟨rfl, rfl⟩; simp only [oV, Option.isSome_some, Option.getD_some])
            exact bodyPost_ret (v := .tuple #[NV 0 0, .bool false]) (by simp [results, Tryz.results127, go_sem, z0, z1]) rfl ⟨rfl, ((hXw.trans HA2.out.ext).set _ (Nat.le_refl _)).set _ (Nat.le_refl _)⟩
          · rw [parP_some, if_neg hLn] at hRP
            have HRP := Lib.hid hRP
            have e1 : ((L : Int) + (nb : Int) == 0) = false := by simp; omega
            have w1 : IntKind.i64.wrap (e - (nb : Int)) = e - nb := i64w (by omega) (by omega)
            clear hLn hRP
            have hkl := HA2.out.len
            have hset := HA2.out.set2 (e - nb)
            obtain ⟨c0, c1, c2⟩ := hset.cells
            have f2 := HA2.out.fz 2
            have c20 := HA2.out.cells.2.2
            have lq := HA2.out.lt
            have hnr := near_any (q + 1) ng A2 k cap2 ds (val ds) (e - nb) false _ hkl hset.rd.1 hset.rd.2 (by omega) HAD.out rfl (by omega) (by have := hset.lt; omega)
            rw [← HRP.out] at hnr
            have hX0s := hX0.ext hset.ext
            have x0 := hX0s.c0
            have x1 := hX0s.c1
            have x2 := hX0s.fz 0
            have x3 := hX0s.fz 1
            have x4 := hX0s.lt
            have y0 := (hX0s.set (rm R) (re R)).c0
            have y1 := (hX0s.set (rm R) (re R)).c1
            have HSE := Lib.hid hset.ext
            clear hkl z0 z1 hset hX0s
            go_wp2_with (first | (go_at_call 162; (with_reducible refine (hpw _).mono ?_); rintro e w' ⟨rfl, rfl⟩; simp only [oV, Option.isSome_some, Option.getD_some]) | (go_at_call 68; (with_reducible refine hnr.mono ?_); rintro e w' ⟨rfl, hxn⟩; obtain ⟨osn, dn, rfl⟩ := hxn.more))
            exact bodyPost_ret (v := rnV R) (by simp [results, Tryz.results127, go_sem, y0, y1, x4, a4]) rfl ⟨rfl, (((hXw.trans HSE.out).set _ (Nat.le_refl _)).set _ (Nat.le_refl _)).more_ _ _⟩
end Go.Proofs.YtlfbdodokldkhaaGreatDoor
namespace Go.Proofs.YtlfbdodokldkhaaGreatDoor
open Go.RowKit NM
set_option maxHeartbeats 2000000 in
theorem rint_any (m ex : Int) (w : World) (hm : I64 m) :
    Calls Tryz.prog 125 #[NV m ex] w fun e w' => e = .returned (inV (intS m ex)) ∧ Ext w w' := by
  by_cases h : Rt m ex
  · have r1 := rtB_yes h
    obtain ⟨b1, b2, b3⟩ := Rt_bd h
    by_cases h1 : ex < 0
    · have hs : intS m ex = none := by unfold intS; rw [if_pos (Or.inr h1)]
      rw [hs]
      clear h hs
      go_enter Tryz.func125, Tryz.ntmps125
      go_wp2_with (go_at_call 44; (with_reducible refine (rright_rt _ _ _ (by assumption)).mono ?_); rintro e w' ⟨rfl, hbr⟩; obtain ⟨osr, dr, rfl⟩ := hbr.more)
      go_ret2
      exact ⟨rfl, by repeat (first | exact Ext.refl _ | apply Ext.drew | apply Ext.alloc | apply Ext.more_)⟩
    · obtain ⟨n, rfl⟩ : ∃ n : Nat, ex = n := ⟨ex.toNat, by omega⟩
      have hs : intS m (n : Int) = intGo m n := by unfold intS; rw [if_neg (by rintro (h3 | h3); exact h3 h; omega)]; rfl
      generalize hR : intS m (n : Int) = R at *
      have HR := Lib.hid hs
      clear hs hR h
      go_enter Tryz.func125, Tryz.ntmps125
      go_wp2_with (go_at_call 44; (with_reducible refine (rright_rt _ _ _ (by assumption)).mono ?_); rintro e w' ⟨rfl, hbr⟩; obtain ⟨osr, dr, rfl⟩ := hbr.more)
      go_loop [4, 5] (fun a i => ∃ (j : Nat) (x : Int), j ≤ n ∧ i = .int .i64 (j : Int) ∧ a = .int .i64 x ∧ Hid (I64 x) ∧ Hid (R = intGo x (n - j))) (fun _ i => n - (intOf i).toNat)
      case atStart => exact ⟨0, m, Nat.zero_le _, rfl, rfl, hm, HR⟩
      case round =>
        obtain ⟨j, x, hj, rfl, rfl, HX, HG⟩ := hrel
        by_cases hlt : j < n
        · have HG1 : Hid (R = if 922337203685477580 < x.natAbs then none else intGo (x * 10) (n - (j + 1))) := by
            show _ = _
            rw [HG.out, show n - j = n - (j + 1) + 1 by omega]; rfl
          by_cases hbig : 922337203685477580 < x
          · have hRn : R = none := by rw [HG1.out, if_pos (by omega)]
            subst hRn
            go_wp2_with fail
            go_ret2
            exact ⟨rfl, by repeat (first | exact Ext.refl _ | apply Ext.drew | apply Ext.alloc | apply Ext.more_)⟩
          · by_cases hbig2 : x < -922337203685477580
            · have hRn : R = none := by rw [HG1.out, if_pos (by omega)]
              subst hRn
              go_wp2_with fail
              go_ret2
              exact ⟨rfl, by repeat (first | exact Ext.refl _ | apply Ext.drew | apply Ext.alloc | apply Ext.more_)⟩
            · have HRn : Hid (R = intGo (x * 10) (n - (j + 1))) := by show _ = _; rw [HG1.out, if_neg (by omega)]
              have h10 : Hid (I64 (x * 10)) := by show I64 _; unfold I64; omega
              have w1 : IntKind.i64.wrap (10 * x) = 10 * x := i64w (by omega) (by omega)
              go_wp2_with fail
              refine ⟨⟨j + 1, x * 10, by omega, by go_num, ?_, h10, HRn⟩, by simp [intOf]; omega⟩
              rw [Int.mul_comm]
        · have hRn : R = some x := by rw [HG.out, show n - j = 0 by omega]; rfl
          subst hRn
          go_wp2_with fail
          go_ret2
          exact ⟨rfl, by repeat (first | exact Ext.refl _ | apply Ext.drew | apply Ext.alloc | apply Ext.more_)⟩
  · have r1 := rtB_no h
    have hs : intS m ex = none := by unfold intS; rw [if_pos (Or.inl h)]
    rw [hs]
    clear h hs
    go_enter Tryz.func125, Tryz.ntmps125
    go_wp2_with (go_at_call 44; (with_reducible refine (rright_rt _ _ _ (by assumption)).mono ?_); rintro e w' ⟨rfl, hbr⟩; obtain ⟨osr, dr, rfl⟩ := hbr.more)
    go_ret2
    exact ⟨rfl, by repeat (first | exact Ext.refl _ | apply Ext.drew | apply Ext.alloc | apply Ext.more_)⟩
end Go.Proofs.YtlfbdodokldkhaaGreatDoor
namespace Go.Proofs.YtlfbdodokldkhaaGreatDoor
open Go.RowKit NM
theorem upB_yes {b : UInt8} (h1 : 97 ≤ b.toNat) (h2 : b.toNat ≤ 122) : (upB b).toNat = b.toNat - 32 := by
  unfold upB
  rw [if_pos ⟨UInt8.le_iff_toNat_le.2 h1, UInt8.le_iff_toNat_le.2 h2⟩, UInt8.toNat_sub_of_le]
  · rfl
  · rw [UInt8.le_iff_toNat_le]; show 32 ≤ b.toNat; omega
theorem upB_no {b : UInt8} (h : b.toNat < 97 ∨ 122 < b.toNat) : upB b = b := by
  unfold upB
  rw [if_neg]
  rintro ⟨h1, h2⟩
  have h1 : 97 ≤ b.toNat := UInt8.le_iff_toNat_le.1 h1
  have h2 : b.toNat ≤ 122 := UInt8.le_iff_toNat_le.1 h2
  omega
theorem bytes_ext_ (w : World) (e : TypeId) (s : ByteArray) : Ext w (Lib.bytesWorld w e s) :=
  ⟨rfl, rfl, rfl, by rw [Lib.bytesWorld_size]; omega, fun b hb => Lib.bytesWorld_at_old w e s b hb⟩
theorem tl_get (s : ByteArray) (j : Nat) (h : j < s.size) : (tl s)[j]? = some (s[j]'h) := by
  unfold tl
  rw [List.getElem?_eq_getElem (by exact h)]
  rfl
theorem fold_get (s : ByteArray) (j : Nat) (h : j < s.size) : (foldB s)[j]'(by rw [foldB_size]; exact h) = upB (s[j]'h) := by
  have h1 := tl_get (foldB s) j (by rw [foldB_size]; exact h)
  rw [tl_fold, List.getElem?_map, tl_get s j h] at h1
  exact (Option.some.inj h1).symm
/-- What the loop of folded keeps. -/
structure FS (w : World) (s : ByteArray) (k : Nat) (wr : World) : Prop where
  ext : Ext w wr
  cell : ∀ j (h : j < s.size), wr.cell? ⟨w.heap.size, j, none⟩ = some (.int .u8 ((if j < k then upB (s[j]'h) else s[j]'h).toNat : Int))
  fz : ∀ j, j < s.size → wr.frozen? ⟨w.heap.size, j, none⟩ = false
theorem FS.start (w : World) (s : ByteArray) : FS w s 0 (Lib.bytesWorld w 5 s) := by
  refine ⟨bytes_ext_ _ _ _, fun j h => ?_, fun j h => ?_⟩
  · rw [Lib.bytesWorld_cell _ _ _ _ h]
    have h1 := tl_get s j h
    unfold tl at h1
    rw [List.getD_eq_getElem?_getD, h1]
    rfl
  · have hc : s.size ≤ (Lib.bytesCells w 5 s).size := by
      unfold Lib.bytesCells
      rw [Array.size_append, Array.size_map]
      exact Nat.le_add_right _ _
    unfold World.frozen?
    rw [Lib.bytesWorld_at_new]
    simp
    omega
theorem FS.lt {w : World} {s : ByteArray} {k : Nat} {wr : World} (h : FS w s k wr) (h0 : 0 < s.size) : w.heap.size < wr.heap.size := lt_of_cell (h.cell 0 h0)
theorem FS.up {w : World} {s : ByteArray} {k : Nat} {wr : World} (h : FS w s k wr) (hk : k < s.size) (v : Int) (hv : v = ((upB (s[k]'hk)).toNat : Int)) : FS w s (k + 1) (wr.setCell ⟨w.heap.size, k, none⟩ (.int .u8 v)) := by
  subst hv
  refine ⟨h.ext.set _ (Nat.le_refl _), fun j hj => ?_, fun j hj => by rw [World.frozen?_setCell]; exact h.fz j hj⟩
  by_cases hjk : j = k
  · subst hjk
    rw [World.cell?_setCell_same _ _ _ (h.cell j hj), if_pos (by omega)]
  · rw [World.cell?_setCell_other _ _ _ _ (by intro e; injection e with _ e; omega), h.cell j hj]
    congr 4
    by_cases h1 : j < k
    · rw [if_pos h1, if_pos (by omega)]
    · rw [if_neg h1, if_neg (by omega)]
theorem FS.keep {w : World} {s : ByteArray} {k : Nat} {wr : World} (h : FS w s k wr) (hk : k < s.size) (hv : upB (s[k]'hk) = s[k]'hk) : FS w s (k + 1) wr := by
  refine ⟨h.ext, fun j hj => ?_, h.fz⟩
  rw [h.cell j hj]
  by_cases hjk : j = k
  · subst hjk
    rw [if_neg (by omega), if_pos (by omega), hv]
  · congr 4
    by_cases h1 : j < k
    · rw [if_pos h1, if_pos (by omega)]
    · rw [if_neg h1, if_neg (by omega)]
theorem FS.done {w : World} {s : ByteArray} {wr : World} (h : FS w s s.size wr) : Lib.Bytes wr w.heap.size 0 (foldB s) := by
  intro j hj
  have hj' : j < s.size := by rw [foldB_size] at hj; exact hj
  rw [Nat.zero_add, h.cell j hj', if_pos hj', fold_get s j hj']
set_option maxHeartbeats 1000000 in
theorem folded_any (s : ByteArray) (w : World) (h0 : 0 < s.size) (hs : s.size ≤ 9223372036854775807) :
    Calls Tryz.prog 173 #[.string s] w fun e w' => e = .returned (.string (foldB s)) ∧ Ext w w' := by
  have hc1 := Lib.run_convert_string_bytes (P := Tryz.prog) w 9 125 5 s Tryz.underlying9 Tryz.underlying125 Tryz.underlying5
  have hst := FS.start w s
  generalize Lib.bytesWorld w 5 s = W at *
  generalize grownCap w s.size 0 5 = cap at *
  have HST := Lib.hid hst
  clear hst
  go_enter Tryz.func173, Tryz.ntmps173
  go_wp2_with fail
  go_loopw [10] (fun v10 wr => ∃ k : Nat, k ≤ s.size ∧ v10 = .int .i64 (k : Int) ∧ Hid (FS w s k wr)) (fun v10 _ => s.size - (intOf v10).toNat)
  case atStart => exact ⟨0, Nat.zero_le _, rfl, HST⟩
  case round =>
    obtain ⟨k, hk, rfl, H⟩ := hrel
    by_cases hks : k < s.size
    · have hc := H.out.cell k hks
      rw [if_neg (Nat.lt_irrefl k)] at hc
      have hf := H.out.fz k hks
      have hl := H.out.lt h0
      have hb := (s[k]'hks).toNat_lt
      by_cases h97 : 97 ≤ (s[k]'hks).toNat
      · by_cases h122 : (s[k]'hks).toNat ≤ 122
        · have HU := Lib.hid (H.out.up hks (((s[k]'hks).toNat : Int) - 97 + 65) (by rw [upB_yes h97 h122]; omega))
          have g1 : (97 : Int) ≤ ((s[k]'hks).toNat : Int) := by omega
          have g2 : ((s[k]'hks).toNat : Int) ≤ 122 := by omega
          generalize (s[k]'hks).toNat = c at *
          have w1 : IntKind.u8.wrap ((c : Int) - 97) = (c : Int) - 97 := by rw [IntKind.wrap_u8]; omega
          have w2 : IntKind.u8.wrap ((c : Int) - 97 + 65) = (c : Int) - 97 + 65 := by rw [IntKind.wrap_u8]; omega
          clear h97 h122
          go_wp2_with fail
          exact ⟨⟨k + 1, by omega, by go_num, HU⟩, by simp [intOf]; omega⟩
        · have HU := Lib.hid (H.out.keep hks (upB_no (by omega)))
          have g1 : (97 : Int) ≤ ((s[k]'hks).toNat : Int) := by omega
          have g2 : ¬ ((s[k]'hks).toNat : Int) ≤ 122 := by omega
          generalize (s[k]'hks).toNat = c at *
          clear h97 h122
          go_wp2_with fail
          exact ⟨⟨k + 1, by omega, by go_num, HU⟩, by simp [intOf]; omega⟩
      · have HU := Lib.hid (H.out.keep hks (upB_no (by omega)))
        have g1 : ¬ (97 : Int) ≤ ((s[k]'hks).toNat : Int) := by omega
        generalize (s[k]'hks).toNat = c at *
        clear h97
        go_wp2_with fail
        exact ⟨⟨k + 1, by omega, by go_num, HU⟩, by simp [intOf]; omega⟩
    · obtain rfl : k = s.size := by omega
      have hcv := Lib.run_convert_whole (P := Tryz.prog) wr 125 5 9 Tryz.underlying125 Tryz.underlying5 Tryz.underlying9 w.heap.size 0 (foldB s) H.out.done cap
      rw [foldB_size] at hcv
      go_wp2_with fail
      exact bodyPost_ret (v := .string (foldB s)) (by simp [results, Tryz.results173, go_sem]) rfl ⟨rfl, H.out.ext⟩
set_option maxHeartbeats 1000000 in
theorem fold_any (s : ByteArray) (w : World) (hs : s.size ≤ 9223372036854775807) :
    Calls Tryz.prog 138 #[.string s] w fun e w' => e = .returned (.string (foldB s)) ∧ Ext w w' := by
  go_enter Tryz.func138, Tryz.ntmps138
  go_wp2_with fail
  go_loop [6] (fun v6 => ∃ k : Nat, k ≤ s.size ∧ v6 = .int .i64 (k : Int) ∧ Hid (∀ j (h : j < s.size), j < k → upB (s[j]'h) = s[j]'h)) (fun v6 => s.size - (intOf v6).toNat)
  case atStart => exact ⟨0, Nat.zero_le _, rfl, fun j _ h => by omega⟩
  case round =>
    obtain ⟨k, hk, rfl, H⟩ := hrel
    have hstep : ∀ hks : k < s.size, upB (s[k]'hks) = s[k]'hks → Hid (∀ j (h : j < s.size), j < k + 1 → upB (s[j]'h) = s[j]'h) := by
      intro hks hu j hj hjk
      by_cases h : j = k
      · subst h; exact hu
      · exact H.out j hj (by omega)
    by_cases hks : k < s.size
    · have HS := fun hu => hstep hks hu
      by_cases h97 : 97 ≤ (s[k]'hks).toNat
      · have g1 : (97 : Int) ≤ ((s[k]'hks).toNat : Int) := by omega
        by_cases h122 : (s[k]'hks).toNat ≤ 122
        · have g2 : ((s[k]'hks).toNat : Int) ≤ 122 := by omega
          have hfd := folded_any s w (by omega) hs
          clear HS hstep h97 h122
          go_wp2_with (go_at_call 173; (with_reducible refine hfd.mono ?_); rintro e w' ⟨rfl, hb⟩)
          exact bodyPost_ret (v := .string (foldB s)) (by simp [results, Tryz.results138, go_sem]) rfl ⟨rfl, hb⟩
        · have g2 : ¬ ((s[k]'hks).toNat : Int) ≤ 122 := by omega
          have HU := HS (upB_no (by omega))
          clear HS hstep h97 h122
          go_wp2_with fail
          exact ⟨⟨k + 1, by omega, by go_num, HU⟩, by simp [intOf]; omega⟩
      · have g1 : ¬ (97 : Int) ≤ ((s[k]'hks).toNat : Int) := by omega
        have HU := HS (upB_no (by omega))
        clear HS hstep h97
        go_wp2_with fail
        exact ⟨⟨k + 1, by omega, by go_num, HU⟩, by simp [intOf]; omega⟩
    · have hfs : Hid (foldB s = s) := by
        show _ = _
        have h1 : tl (foldB s) = tl s := by
          rw [tl_fold]
          conv => rhs; rw [← List.map_id (tl s)]
          apply List.map_congr_left
          intro b hb
          obtain ⟨j, hj, rfl⟩ := List.mem_iff_getElem.1 hb
          exact H.out j hj (by have : j < s.size := hj; omega)
        rw [tl_eq h1]
        cases s; simp [tl]
      have hks' : ¬ (k : Int) < (s.size : Int) := by omega
      clear hstep
      go_wp2_with fail
      exact bodyPost_ret (v := .string s) (by simp [results, Tryz.results138, go_sem]) rfl ⟨by rw [hfs.out], Ext.refl _⟩
theorem conv_one (w : World) (c : UInt8) : (convert 125 9 (.slice (some ⟨w.heap.size, 0, none⟩) 1 1)).run Tryz.prog (w.alloc (.cells #[.int .u8 (c.toNat : Int)] 5)) = .ok (.string ⟨#[c]⟩) (w.alloc (.cells #[.int .u8 (c.toNat : Int)] 5)) := by
  have hb : Lib.Bytes (w.alloc (.cells #[.int .u8 (c.toNat : Int)] 5)) w.heap.size 0 ⟨#[c]⟩ := by
    intro i hi
    have hi : i < 1 := hi
    obtain rfl : i = 0 := by omega
    rw [World.cell?_alloc_new]
    rfl
  exact Lib.run_convert_whole (P := Tryz.prog) _ 125 5 9 Tryz.underlying125 Tryz.underlying5 Tryz.underlying9 w.heap.size 0 ⟨#[c]⟩ hb 1
set_option maxHeartbeats 1000000 in
theorem rfold_any (s : ByteArray) (w : World) (hs : s.size ≤ 9223372036854775807) :
    Calls Tryz.prog 130 #[.string s] w fun e w' => e = .returned (.string (foldB s)) ∧ Ext w w' := by
  go_enter Tryz.func130, Tryz.ntmps130
  go_wp2_with fail
  go_loopw [3, 4] (fun v3 v4 wr => ∃ (k : Nat) (t : ByteArray), k ≤ s.size ∧ v3 = .string t ∧ v4 = .int .i64 (k : Int) ∧ t.size = k ∧ Ext w wr ∧ Hid (tl t = (tl (foldB s)).take k)) (fun _ v4 _ => s.size - (intOf v4).toNat)
  case atStart => exact ⟨0, ⟨#[]⟩, Nat.zero_le _, rfl, rfl, rfl, Ext.refl _, by show _ = _; rfl⟩
  case round =>
    obtain ⟨k, t, hk, rfl, rfl, ht, hx, H⟩ := hrel
    by_cases hks : k < s.size
    · have hb := (s[k]'hks).toNat_lt
      have HN : Hid (tl (t ++ ⟨#[upB (s[k]'hks)]⟩) = (tl (foldB s)).take (k + 1)) := by
        have hg := tl_get (foldB s) k (by rw [foldB_size]; exact hks)
        rw [fold_get s k hks] at hg
        show _ = _
        rw [tl_append, H.out, List.take_add_one, hg]; rfl
      have hcv := conv_one wr (upB (s[k]'hks))
      have HT := Lib.hid ht
      have g5 : ¬ 9223372036854775807 < t.size + 1 := by omega
      by_cases h97 : 97 ≤ (s[k]'hks).toNat
      · have g1 : (97 : Int) ≤ ((s[k]'hks).toNat : Int) := by omega
        by_cases h122 : (s[k]'hks).toNat ≤ 122
        · have g2 : ((s[k]'hks).toNat : Int) ≤ 122 := by omega
          have w1 : IntKind.u8.wrap (((s[k]'hks).toNat : Int) - 32) = ((upB (s[k]'hks)).toNat : Int) := by rw [IntKind.wrap_u8, upB_yes h97 h122]; omega
          clear h97 h122 ht
          go_wp2_with fail
          refine ⟨⟨k + 1, _, by omega, rfl, by go_num, ?_, (hx.alloc _), HN⟩, by simp [intOf]; omega⟩
          rw [ByteArray.size_append, HT.out]; rfl
        · have g2 : ¬ ((s[k]'hks).toNat : Int) ≤ 122 := by omega
          have hup : upB (s[k]'hks) = s[k]'hks := upB_no (by omega)
          rw [hup] at hcv HN
          clear h97 h122 hup ht
          go_wp2_with fail
          refine ⟨⟨k + 1, _, by omega, rfl, by go_num, ?_, (hx.alloc _), HN⟩, by simp [intOf]; omega⟩
          rw [ByteArray.size_append, HT.out]; rfl
      · have g1 : ¬ (97 : Int) ≤ ((s[k]'hks).toNat : Int) := by omega
        have hup : upB (s[k]'hks) = s[k]'hks := upB_no (by omega)
        rw [hup] at hcv HN
        clear h97 hup ht
        go_wp2_with fail
        refine ⟨⟨k + 1, _, by omega, rfl, by go_num, ?_, (hx.alloc _), HN⟩, by simp [intOf]; omega⟩
        rw [ByteArray.size_append, HT.out]; rfl
    · obtain rfl : s.size = k := by omega
      have he : Hid (t = foldB s) := by
        show _ = _
        have h1 := H.out
        rw [List.take_of_length_le (by rw [tl_size, foldB_size]; exact Nat.le_refl _)] at h1
        rw [tl_eq h1]
        generalize foldB s = u
        cases u; simp [tl]
      clear ht
      go_wp2_with fail
      exact bodyPost_ret (v := .string t) (by simp [results, Tryz.results130, go_sem]) rfl ⟨by rw [he.out], hx⟩
end Go.Proofs.YtlfbdodokldkhaaGreatDoor
namespace Go.Proofs.YtlfbdodokldkhaaGreatDoor
open Go.RowKit NM
theorem parR_S (t : ByteArray) : (if 255 < t.size then none else parR (bl t)) = parS t := by
  unfold parS
  by_cases h : 255 < t.size
  · rw [if_pos h, if_pos h]
  · rw [if_neg h, if_neg h, parse_law _ (by rw [bl_length]; omega)]
set_option maxHeartbeats 1000000 in
theorem rtoNum_any (x : Val) (w : World) (hx : x.right) :
    Calls Tryz.prog 80 #[VV x.kind x.mant x.exp x.text x.truth x.fault] w fun e w' => e = .returned (tnV x) ∧ Ext w w' := by
  rcases hx.form with rfl | ⟨m, e, rfl, hr⟩ | ⟨t, rfl, ht⟩ | ⟨b, rfl⟩ | ⟨f, rfl, hf⟩
  · rw [tn_blank]
    simp only [Val.only]
    go_enter Tryz.func80, Tryz.ntmps80
    go_wp2_with fail
    exact bodyPost_ret (v := .tuple #[NV 0 0, .int .i64 0]) (by simp [results, Tryz.results80, go_sem]) rfl ⟨rfl, by with_reducible repeat (first | exact Ext.refl _ | apply Ext.drew | apply Ext.alloc | apply Ext.more_)⟩
  · rw [tn_num]
    clear hx hr
    simp only
    go_enter Tryz.func80, Tryz.ntmps80
    go_wp2_with fail
    exact bodyPost_ret (v := .tuple #[NV m e, .int .i64 0]) (by simp [results, Tryz.results80, go_sem]) rfl ⟨rfl, by with_reducible repeat (first | exact Ext.refl _ | apply Ext.drew | apply Ext.alloc | apply Ext.more_)⟩
  · have hp := fun W => rparse_any t W (by omega)
    rw [parR_S] at hp
    simp only
    cases h : parS t with
    | none =>
      rw [tn_text_no h]
      rw [h] at hp
      simp only [rnV, rm, re, Option.getD_none, Option.isSome_none] at hp
      clear h hx
      go_enter Tryz.func80, Tryz.ntmps80
      go_wp2_with (go_at_call 127; (with_reducible refine (hp _).mono ?_); rintro e w' ⟨rfl, hb⟩; obtain ⟨os, d, rfl⟩ := hb.more; clear hb)
      exact bodyPost_ret (v := .tuple #[NV 0 0, .int .i64 2]) (by simp [results, Tryz.results80, go_sem]) rfl ⟨rfl, by with_reducible repeat (first | exact Ext.refl _ | apply Ext.drew | apply Ext.alloc | apply Ext.more_)⟩
    | some p =>
      rw [tn_text_yes h]
      rw [h] at hp
      simp only [rnV, rm, re, Option.getD_some, Option.isSome_some] at hp
      clear h hx
      go_enter Tryz.func80, Tryz.ntmps80
      go_wp2_with (go_at_call 127; (with_reducible refine (hp _).mono ?_); rintro e w' ⟨rfl, hb⟩; obtain ⟨os, d, rfl⟩ := hb.more; clear hb)
      exact bodyPost_ret (v := .tuple #[NV p.1 p.2, .int .i64 0]) (by simp [results, Tryz.results80, go_sem]) rfl ⟨rfl, by with_reducible repeat (first | exact Ext.refl _ | apply Ext.drew | apply Ext.alloc | apply Ext.more_)⟩
  · cases b
    · rw [tn_false]
      simp only [truthV]
      clear hx
      go_enter Tryz.func80, Tryz.ntmps80
      go_wp2_with fail
      exact bodyPost_ret (v := .tuple #[NV 0 0, .int .i64 0]) (by simp [results, Tryz.results80, go_sem]) rfl ⟨rfl, by with_reducible repeat (first | exact Ext.refl _ | apply Ext.drew | apply Ext.alloc | apply Ext.more_)⟩
    · rw [tn_true]
      simp only [truthV]
      clear hx
      go_enter Tryz.func80, Tryz.ntmps80
      go_wp2_with fail
      exact bodyPost_ret (v := .tuple #[NV 1 0, .int .i64 0]) (by simp [results, Tryz.results80, go_sem]) rfl ⟨rfl, by with_reducible repeat (first | exact Ext.refl _ | apply Ext.drew | apply Ext.alloc | apply Ext.more_)⟩
  · rw [tn_bad]
    simp only [badV]
    clear hx hf
    go_enter Tryz.func80, Tryz.ntmps80
    go_upto_region 2 with fail
    go_region
    all_goals
      go_wp2_with fail
      exact bodyPost_ret (v := .tuple #[NV 0 0, .int .i64 f]) (by simp [results, Tryz.results80, go_sem]) rfl ⟨rfl, by with_reducible repeat (first | exact Ext.refl _ | apply Ext.drew | apply Ext.alloc | apply Ext.more_)⟩
end Go.Proofs.YtlfbdodokldkhaaGreatDoor
namespace Go.Proofs.YtlfbdodokldkhaaGreatDoor
open Go.RowKit NM
theorem plus_tt (a b : Nat) : plusN true true a b = (true, a + b) := by simp [plusN]
set_option maxHeartbeats 4000000 in
theorem rfloor_yes (m ex : Int) (k : Nat) (w : World) (h : Rt m ex) (he : ex < 0) (hk : -ex = (k : Int)) :
    Calls Tryz.prog 126 #[NV m ex] w fun e w' => e = .returned (NV (rm (rnd (decide (m < 0)) (floorN m k) false 0)) (re (rnd (decide (m < 0)) (floorN m k) false 0))) ∧ Ext w w' := by
  obtain ⟨b1, b2, b3⟩ := Rt_bd h
  have hm : I64 m := by unfold I64; omega
  have r1 := rtB_yes h
  have hT15 : T 15 = 1000000000000000 := by decide
  have hnd : nd m.natAbs ≤ 15 := (nd_le_iff _ _).2 (by omega)
  have hof := fun W => rof_any m ex W hm
  have hdl := dig_length m.natAbs
  have hdall := dig_all m.natAbs
  have hval := take_val hdall (nd m.natAbs - k)
  rw [val_dig, hdl] at hval
  by_cases hneg : m < 0
  · have hfl : floorN m k = m.natAbs / T k + 1 := by unfold floorN; rw [if_pos hneg]
    have hng : decide (m < 0) = true := by simp [hneg]
    rw [hfl, hng]
    rw [hng] at hof
    by_cases hpos : k < nd m.natAbs
    · have hv : val ((dig m.natAbs).take (nd m.natAbs - k)) = m.natAbs / T k := by rw [hval.1]; congr 2; omega
      have hll : ((dig m.natAbs).take (nd m.natAbs - k)).length = nd m.natAbs - k := by rw [List.length_take, hdl]; omega
      have hal := hdall.take (nd m.natAbs - k)
      have hx1 : ((nd m.natAbs : Int) + ex) = ((nd m.natAbs - k : Nat) : Int) := by omega
      obtain ⟨x0, hx0⟩ : ∃ x, (dig m.natAbs)[0]? = some x := ⟨(dig m.natAbs)[0]'(by rw [hdl]; omega), by rw [List.getElem?_eq_getElem]⟩
      generalize m.natAbs / T k = Q at *
      generalize hN : m.natAbs = N at *
      have hnd' : nd N - k ≤ 15 ∧ 0 < nd N - k := by omega
      generalize hn : nd N - k = n at *
      have hnN : n ≤ nd N := by omega
      generalize hD : dig N = D at *
      have HTK : Hid (∀ W A, Rd 0 W A (i6 D) → Rd 0 W A (i6 (D.take n))) := fun W A hr => by have := Rd.take hr n; rw [← List.map_take] at this; exact this
      generalize D.take n = hd at *
      have hpl := fun A B ca cb W h1 h2 => plus_any true true A B ca cb hd [1] 0 0 0 0 0 n W h1 h2 (by omega) (by simp) rfl rfl (Or.inl rfl) (by omega) (by omega) hal (AllD.cons (by omega) AllD.nil) (by simp; omega)
      rw [plus_tt, hll, hv] at hpl
      simp only [show T 0 = 1 from rfl, Nat.mul_one, List.length_singleton, show val [1] = 1 from rfl] at hpl
      clear hval hv h hn hD hN
      generalize hRR : rnd true (Q + 1) false 0 = R
      have HRR := Lib.hid hRR
      clear hRR
      go_enter Tryz.func126, Tryz.ntmps126
      go_wp2_with (first | (go_at_call 44; (with_reducible refine (rright_rt _ _ _ (by assumption)).mono ?_); rintro e w' ⟨rfl, hbr⟩; obtain ⟨osr, dr, rfl⟩ := hbr.more) | ((go_at_call 89; (with_reducible refine (hof _).mono ?_); rintro e w' ⟨A, c, rfl, hrd, hcp, hx⟩; obtain ⟨os, d, rfl⟩ := hx.more; have hrd := hrd.mono (Nat.zero_le _); (try rw [more_more] at hrd)); obtain ⟨b, off, rfl, _, _⟩ := Rd.at_ hrd hx0) | (go_at_call 128; (with_reducible refine (hpl _ _ _ _ _ (HTK.out _ _ (Rd.ext hrd (by with_reducible repeat (first | exact Ext.refl _ | apply Ext.drew | apply Ext.alloc | apply Ext.more_)))) (Rd.one_ _ _ (by simp))).mono ?_); rintro e w' ⟨⟨A2, c2, X2, rfl, hrx2, hn2, ha2, hv2, hc2⟩, hx2⟩; obtain ⟨os2, d2, rfl⟩ := hx2.more) | (go_at_call 68; (with_reducible refine (near_any 0 true A2 (n + 1) c2 X2 (Q + 1) 0 false _ hn2 (Rd.swap hrx2 (by simp) (by simp) (Nat.zero_le _)) hc2 (by omega) ha2 hv2 (by omega) (Nat.zero_le _)).mono ?_); rintro e w' ⟨rfl, hx3⟩; obtain ⟨os3, d3, rfl⟩ := hx3.more; rw [HRR.out]))
      exact bodyPost_ret (v := NV (rm R) (re R)) (by simp [results, Tryz.results126, go_sem]) rfl ⟨rfl, by with_reducible repeat (first | exact Ext.refl _ | apply Ext.drew | apply Ext.alloc | apply Ext.more_)⟩
    · have hv : m.natAbs / T k = 0 := Nat.div_eq_of_lt ((nd_le_iff _ _).1 (by omega))
      have hpl := fun A B ca cb W h1 h2 => plus_any true true A B ca cb [] [1] 0 0 0 0 0 1 W h1 h2 (by simp) (by simp) rfl rfl (Or.inl rfl) (by omega) (by omega) AllD.nil (AllD.cons (by omega) AllD.nil) (by simp)
      rw [plus_tt] at hpl
      simp only [show T 0 = 1 from rfl, Nat.mul_one, List.length_singleton, List.length_nil, show val [1] = 1 from rfl, val_nil] at hpl
      rw [hv]
      clear hval hv h
      generalize hRR : rnd true (0 + 1) false 0 = R
      have HRR := Lib.hid hRR
      clear hRR
      have hx1 : ¬ (0 < (nd m.natAbs : Int) + ex) := by omega
      generalize nd m.natAbs = n at *
      go_enter Tryz.func126, Tryz.ntmps126
      go_wp2_with (first | (go_at_call 44; (with_reducible refine (rright_rt _ _ _ (by assumption)).mono ?_); rintro e w' ⟨rfl, hbr⟩; obtain ⟨osr, dr, rfl⟩ := hbr.more) | ((go_at_call 89; (with_reducible refine (hof _).mono ?_); rintro e w' ⟨A, c, rfl, hrd, hcp, hx⟩; obtain ⟨os, d, rfl⟩ := hx.more; have hrd := hrd.mono (Nat.zero_le _); (try rw [more_more] at hrd))) | (go_at_call 128; (with_reducible refine (hpl _ _ _ _ _ (Rd.nil _ _ _) (Rd.one_ _ _ (by simp))).mono ?_); rintro e w' ⟨⟨A2, c2, X2, rfl, hrx2, hn2, ha2, hv2, hc2⟩, hx2⟩; obtain ⟨os2, d2, rfl⟩ := hx2.more) | (go_at_call 68; (with_reducible refine (near_any 0 true A2 (1 + 1) c2 X2 (0 + 1) 0 false _ hn2 (Rd.swap hrx2 (by simp) (by simp) (Nat.zero_le _)) hc2 (by omega) ha2 hv2 (by omega) (Nat.zero_le _)).mono ?_); rintro e w' ⟨rfl, hx3⟩; obtain ⟨os3, d3, rfl⟩ := hx3.more; rw [HRR.out]))
      exact bodyPost_ret (v := NV (rm R) (re R)) (by simp [results, Tryz.results126, go_sem]) rfl ⟨rfl, by with_reducible repeat (first | exact Ext.refl _ | apply Ext.drew | apply Ext.alloc | apply Ext.more_)⟩
  · have hfl : floorN m k = m.natAbs / T k := by unfold floorN; rw [if_neg hneg]
    have hng : decide (m < 0) = false := by simp [hneg]
    rw [hfl, hng]
    rw [hng] at hof
    by_cases hpos : k < nd m.natAbs
    · have hv : val ((dig m.natAbs).take (nd m.natAbs - k)) = m.natAbs / T k := by rw [hval.1]; congr 2; omega
      have hll : ((dig m.natAbs).take (nd m.natAbs - k)).length = nd m.natAbs - k := by rw [List.length_take, hdl]; omega
      have hal := hdall.take (nd m.natAbs - k)
      have hx1 : ((nd m.natAbs : Int) + ex) = ((nd m.natAbs - k : Nat) : Int) := by omega
      obtain ⟨x0, hx0⟩ : ∃ x, (dig m.natAbs)[0]? = some x := ⟨(dig m.natAbs)[0]'(by rw [hdl]; omega), by rw [List.getElem?_eq_getElem]⟩
      generalize m.natAbs / T k = Q at *
      generalize hN : m.natAbs = N at *
      have hnd' : nd N - k ≤ 15 ∧ 0 < nd N - k := by omega
      generalize hn : nd N - k = n at *
      have hnN : n ≤ nd N := by omega
      generalize hD : dig N = D at *
      have HTK : Hid (∀ W A, Rd 0 W A (i6 D) → Rd 0 W A (i6 (D.take n))) := fun W A hr => by have := Rd.take hr n; rw [← List.map_take] at this; exact this
      generalize D.take n = hd at *
      clear hval h hn hD hN
      generalize hRR : rnd false Q false 0 = R
      have HRR := Lib.hid hRR
      clear hRR
      have hng' : ¬ m < 0 := hneg
      go_enter Tryz.func126, Tryz.ntmps126
      go_wp2_with (first | (go_at_call 44; (with_reducible refine (rright_rt _ _ _ (by assumption)).mono ?_); rintro e w' ⟨rfl, hbr⟩; obtain ⟨osr, dr, rfl⟩ := hbr.more) | ((go_at_call 89; (with_reducible refine (hof _).mono ?_); rintro e w' ⟨A, c, rfl, hrd, hcp, hx⟩; obtain ⟨os, d, rfl⟩ := hx.more; have hrd := hrd.mono (Nat.zero_le _); (try rw [more_more] at hrd)); obtain ⟨b, off, rfl, _, _⟩ := Rd.at_ hrd hx0) | (go_at_call 68; (with_reducible refine (near_any 0 false _ n c hd Q 0 false _ hll (HTK.out _ _ (Rd.ext hrd (by with_reducible repeat (first | exact Ext.refl _ | apply Ext.drew | apply Ext.alloc | apply Ext.more_)))) (by omega) (by omega) hal hv (by omega) (Nat.zero_le _)).mono ?_); rintro e w' ⟨rfl, hx3⟩; obtain ⟨os3, d3, rfl⟩ := hx3.more; rw [HRR.out]))
      exact bodyPost_ret (v := NV (rm R) (re R)) (by simp [results, Tryz.results126, go_sem]) rfl ⟨rfl, by with_reducible repeat (first | exact Ext.refl _ | apply Ext.drew | apply Ext.alloc | apply Ext.more_)⟩
    · have hv : m.natAbs / T k = 0 := Nat.div_eq_of_lt ((nd_le_iff _ _).1 (by omega))
      rw [hv]
      clear hval hv h
      generalize hRR : rnd false 0 false 0 = R
      have HRR := Lib.hid hRR
      clear hRR
      have hx1 : ¬ (0 < (nd m.natAbs : Int) + ex) := by omega
      generalize nd m.natAbs = n at *
      go_enter Tryz.func126, Tryz.ntmps126
      go_wp2_with (first | (go_at_call 44; (with_reducible refine (rright_rt _ _ _ (by assumption)).mono ?_); rintro e w' ⟨rfl, hbr⟩; obtain ⟨osr, dr, rfl⟩ := hbr.more) | ((go_at_call 89; (with_reducible refine (hof _).mono ?_); rintro e w' ⟨A, c, rfl, hrd, hcp, hx⟩; obtain ⟨os, d, rfl⟩ := hx.more; have hrd := hrd.mono (Nat.zero_le _); (try rw [more_more] at hrd))) | (go_at_call 68; (with_reducible refine (near_any 0 false none 0 0 [] 0 0 false _ rfl (Rd.nil _ _ _) (by omega) (by omega) AllD.nil rfl (by omega) (Nat.zero_le _)).mono ?_); rintro e w' ⟨rfl, hx3⟩; obtain ⟨os3, d3, rfl⟩ := hx3.more; rw [HRR.out]))
      exact bodyPost_ret (v := NV (rm R) (re R)) (by simp [results, Tryz.results126, go_sem]) rfl ⟨rfl, by with_reducible repeat (first | exact Ext.refl _ | apply Ext.drew | apply Ext.alloc | apply Ext.more_)⟩
set_option maxHeartbeats 1000000 in
theorem rfloor_any (m ex : Int) (w : World) (hm : I64 m) :
    Calls Tryz.prog 126 #[NV m ex] w fun e w' => e = .returned (NV (floorS m ex).1 (floorS m ex).2) ∧ Ext w w' := by
  have hz := fun W => zero_any m ex W hm
  by_cases h : Rt m ex
  · rw [if_pos h, if_pos h] at hz
    by_cases h0 : 0 ≤ ex
    · have hs : floorS m ex = (m, ex) := by unfold floorS; rw [if_neg (by simpa using h), if_pos h0]
      rw [hs]
      have r1 := rtB_yes h
      clear h hs
      go_enter Tryz.func126, Tryz.ntmps126
      go_wp2_with (first | (go_at_call 44; (with_reducible refine (rright_rt _ _ _ (by assumption)).mono ?_); rintro e w' ⟨rfl, hbr⟩; obtain ⟨osr, dr, rfl⟩ := hbr.more) | (go_at_call 160; (with_reducible refine (hz _).mono ?_); rintro e w' ⟨rfl, hx3⟩; obtain ⟨os3, d3, rfl⟩ := hx3.more))
      exact bodyPost_ret (v := NV m ex) (by simp [results, Tryz.results126, go_sem]) rfl ⟨rfl, by with_reducible repeat (first | exact Ext.refl _ | apply Ext.drew | apply Ext.alloc | apply Ext.more_)⟩
    · obtain ⟨k, hk⟩ : ∃ k : Nat, -ex = (k : Int) := ⟨(-ex).toNat, by omega⟩
      have hs : floorS m ex = (rm (rnd (decide (m < 0)) (floorN m k) false 0), re (rnd (decide (m < 0)) (floorN m k) false 0)) := by
        unfold floorS
        rw [if_neg (by simpa using h), if_neg h0, hk, fin_whole (floorN_nd h (by omega))]; rfl
      rw [hs]
      exact rfloor_yes m ex k w h (by omega) hk
  · rw [if_neg h, if_neg h] at hz
    have hs : floorS m ex = (0, 0) := by unfold floorS; rw [if_pos h]
    rw [hs]
    have r1 := rtB_no h
    clear h hs
    go_enter Tryz.func126, Tryz.ntmps126
    go_wp2_with (first | (go_at_call 44; (with_reducible refine (rright_rt _ _ _ (by assumption)).mono ?_); rintro e w' ⟨rfl, hbr⟩; obtain ⟨osr, dr, rfl⟩ := hbr.more) | (go_at_call 160; (with_reducible refine (hz _).mono ?_); rintro e w' ⟨rfl, hx3⟩; obtain ⟨os3, d3, rfl⟩ := hx3.more))
    exact bodyPost_ret (v := NV 0 0) (by simp [results, Tryz.results126, go_sem]) rfl ⟨rfl, by with_reducible repeat (first | exact Ext.refl _ | apply Ext.drew | apply Ext.alloc | apply Ext.more_)⟩
end Go.Proofs.YtlfbdodokldkhaaGreatDoor
namespace Go.Proofs.YtlfbdodokldkhaaGreatDoor
open Go.RowKit
def partL (C row col rows cols : Nat) (l : List Val) : List Val := vals (fun i j => getV l ((row + i) * C + col + j)) cols (rows * cols)
end Go.Proofs.YtlfbdodokldkhaaGreatDoor
namespace Go.Proofs.YtlfbdodokldkhaaGreatDoor
open Go.RowKit NM
/-- A part of an array. -/
def partA (a : NA) (row col rows cols : Nat) : NA := ⟨rows, cols, partL a.C row col rows cols a.l⟩
theorem partL_mem {C row col rows cols : Nat} {l : List Val} {v : Val} {R : Nat} (hl : l.length = R * C) (h1 : row + rows ≤ R) (h2 : col + cols ≤ C) (h : v ∈ partL C row col rows cols l) : v ∈ l := by
  unfold partL vals at h
  simp only [List.mem_map, List.mem_range] at h
  obtain ⟨t, ht, rfl⟩ := h
  have hc : 0 < cols := by rcases Nat.eq_zero_or_pos cols with h | h; (subst h; simp at ht); exact h
  have hi : t / cols < rows := Nat.div_lt_of_lt_mul (by rw [Nat.mul_comm]; exact ht)
  have hj : t % cols < cols := Nat.mod_lt _ hc
  have hk : (row + t / cols) * C + col + t % cols < l.length := by
    rw [hl]
    have : (row + t / cols) * C + C ≤ R * C := by
      have := Nat.mul_le_mul_right C (show row + t / cols + 1 ≤ R by omega)
      rw [Nat.add_mul, Nat.one_mul] at this
      exact this
    omega
  unfold getV
  rw [List.getElem?_eq_getElem hk]
  exact List.getElem_mem hk
theorem partA_ok {a : NA} (ha : a.ok) (hr : a.right) {row col rows cols : Nat} (h1 : row + rows ≤ a.R) (h2 : col + cols ≤ a.C) : (partA a row col rows cols).ok := fun x hx =>
  ha x (partL_mem (rightA_nat.1 hr).2.2.2.1 h1 h2 hx)
end Go.Proofs.YtlfbdodokldkhaaGreatDoor
namespace Go.Proofs.YtlfbdodokldkhaaGreatDoor
open Go.RowKit NM
/-- A value's truth, and a fault. -/
def truthO (v : Val) : Bool × Int :=
  if v.kind = 1 then (decide (v.mant ≠ 0), 0)
  else if v.kind = 2 then (if (foldB v.text).toList == [84, 82, 85, 69] then (true, 0) else if (foldB v.text).toList == [70, 65, 76, 83, 69] then (false, 0) else (false, 2))
  else if v.kind = 3 then (v.truth, 0)
  else if v.kind = 4 then (false, v.fault)
  else (false, 0)
abbrev bfV (p : Bool × Int) : Value := .tuple #[.bool p.1, .int .i64 p.2]
set_option maxHeartbeats 1000000 in
theorem toTruth_any (v : Val) (w : World) (hv : v.right) :
    Calls Tryz.prog 97 #[VV v.kind v.mant v.exp v.text v.truth v.fault] w fun e w' => e = .returned (bfV (truthO v)) ∧ Ext w w' := by
  rcases hv.form with rfl | ⟨m, e, rfl, hr⟩ | ⟨t, rfl, ht⟩ | ⟨x, rfl⟩ | ⟨f, rfl, hf⟩
  · show Calls Tryz.prog 97 #[VV 0 0 0 ⟨#[]⟩ false 0] w fun e w' => e = .returned (.tuple #[.bool false, .int .i64 0]) ∧ Ext w w'
    go_enter Tryz.func97, Tryz.ntmps97
    go_wp2
    exact bodyPost_ret (v := .tuple #[.bool false, .int .i64 0]) (by simp [results, Tryz.results97, go_sem]) rfl ⟨rfl, by with_reducible repeat (first | exact Ext.refl _ | apply Ext.drew | apply Ext.alloc | apply Ext.more_)⟩
  · show Calls Tryz.prog 97 #[VV 1 m e ⟨#[]⟩ false 0] w fun e w' => e = .returned (.tuple #[.bool (decide (m ≠ 0)), .int .i64 0]) ∧ Ext w w'
    clear hr hv
    by_cases hm : m = 0
    · subst hm
      go_enter Tryz.func97, Tryz.ntmps97
      go_wp2
      exact bodyPost_ret (v := .tuple #[.bool false, .int .i64 0]) (by simp [results, Tryz.results97, go_sem]) rfl ⟨rfl, by with_reducible repeat (first | exact Ext.refl _ | apply Ext.drew | apply Ext.alloc | apply Ext.more_)⟩
    · rw [decide_eq_true hm]
      have hm' : (m != 0) = true := by simpa using hm
      go_enter Tryz.func97, Tryz.ntmps97
      go_wp2
      exact bodyPost_ret (v := .tuple #[.bool true, .int .i64 0]) (by simp [results, Tryz.results97, go_sem]) rfl ⟨rfl, by with_reducible repeat (first | exact Ext.refl _ | apply Ext.drew | apply Ext.alloc | apply Ext.more_)⟩
  · have hF := fun W => fold_any t W (by omega)
    have hT : truthO ⟨2, 0, 0, t, false, 0⟩ = if (foldB t).toList == [84, 82, 85, 69] then (true, 0) else if (foldB t).toList == [70, 65, 76, 83, 69] then (false, 0) else (false, 2) := rfl
    rw [hT]
    show Calls Tryz.prog 97 #[VV 2 0 0 t false 0] w _
    clear hT ht hv
    generalize foldB t = X at *
    cases h1 : X.toList == [84, 82, 85, 69] with
    | true =>
      rw [if_pos rfl]
      go_enter Tryz.func97, Tryz.ntmps97
      go_wp2_with (go_at_call 138; (with_reducible refine (hF _).mono ?_); rintro e w' ⟨rfl, hb⟩; obtain ⟨os, d, rfl⟩ := hb.more; clear hb)
      exact bodyPost_ret (v := .tuple #[.bool true, .int .i64 0]) (by simp [results, Tryz.results97, go_sem]) rfl ⟨rfl, by with_reducible repeat (first | exact Ext.refl _ | apply Ext.drew | apply Ext.alloc | apply Ext.more_)⟩
    | false =>
      rw [if_neg (by simp)]
      cases h2 : X.toList == [70, 65, 76, 83, 69] with
      | true =>
        rw [if_pos rfl]
        go_enter Tryz.func97, Tryz.ntmps97
        go_wp2_with (go_at_call 138; (with_reducible refine (hF _).mono ?_); rintro e w' ⟨rfl, hb⟩; obtain ⟨os, d, rfl⟩ := hb.more; clear hb)
        exact bodyPost_ret (v := .tuple #[.bool false, .int .i64 0]) (by simp [results, Tryz.results97, go_sem]) rfl ⟨rfl, by with_reducible repeat (first | exact Ext.refl _ | apply Ext.drew | apply Ext.alloc | apply Ext.more_)⟩
      | false =>
        rw [if_neg (by simp)]
        go_enter Tryz.func97, Tryz.ntmps97
        go_wp2_with (go_at_call 138; (with_reducible refine (hF _).mono ?_); rintro e w' ⟨rfl, hb⟩; obtain ⟨os, d, rfl⟩ := hb.more; clear hb)
        exact bodyPost_ret (v := .tuple #[.bool false, .int .i64 2]) (by simp [results, Tryz.results97, go_sem]) rfl ⟨rfl, by with_reducible repeat (first | exact Ext.refl _ | apply Ext.drew | apply Ext.alloc | apply Ext.more_)⟩
  · show Calls Tryz.prog 97 #[VV 3 0 0 ⟨#[]⟩ x 0] w fun e w' => e = .returned (.tuple #[.bool x, .int .i64 0]) ∧ Ext w w'
    go_enter Tryz.func97, Tryz.ntmps97
    go_wp2
    exact bodyPost_ret (v := .tuple #[.bool x, .int .i64 0]) (by simp [results, Tryz.results97, go_sem]) rfl ⟨rfl, by with_reducible repeat (first | exact Ext.refl _ | apply Ext.drew | apply Ext.alloc | apply Ext.more_)⟩
  · show Calls Tryz.prog 97 #[VV 4 0 0 ⟨#[]⟩ false f] w fun e w' => e = .returned (.tuple #[.bool false, .int .i64 f]) ∧ Ext w w'
    go_enter Tryz.func97, Tryz.ntmps97
    go_upto_region 14 with fail
    go_region
    all_goals
      go_wp2
      exact bodyPost_ret (v := .tuple #[.bool false, .int .i64 f]) (by simp [results, Tryz.results97, go_sem]) rfl ⟨rfl, by with_reducible repeat (first | exact Ext.refl _ | apply Ext.drew | apply Ext.alloc | apply Ext.more_)⟩
end Go.Proofs.YtlfbdodokldkhaaGreatDoor
namespace Go.Proofs.YtlfbdodokldkhaaGreatDoor
open Go.RowKit
theorem partL_length (C row col rows cols : Nat) (l : List Val) : (partL C row col rows cols l).length = rows * cols := vals_length _ _ _
end Go.Proofs.YtlfbdodokldkhaaGreatDoor
namespace Go.Proofs.YtlfbdodokldkhaaGreatDoor
open Go.RowKit NM
def rowL (C : Nat) (l : List Val) (r : Nat) : List Val := (l.drop (r * C)).take C
def colL (R C : Nat) (l : List Val) (ps : List Nat) : List Val := (List.range R).flatMap fun r => ps.map fun c => getV l (r * C + c)
/-- An array's rows at these places. -/
def rowsN (a : NA) (ps : List Nat) : NA := ⟨ps.length, a.C, ps.flatMap (rowL a.C a.l)⟩
/-- An array's columns at these places. -/
def colsN (a : NA) (ps : List Nat) : NA := ⟨a.R, ps.length, colL a.R a.C a.l ps⟩
def plc (ps : List Nat) (i : Nat) : Nat := (ps[i]?).getD 0
theorem plc_map (ps : List Nat) : (List.range ps.length).map (plc ps) = ps := by
  refine List.ext_getElem? fun i => ?_
  rw [List.getElem?_map]
  rcases Nat.lt_or_ge i ps.length with h | h
  · rw [List.getElem?_range h]; simp [h, plc]
  · rw [List.getElem?_eq_none (by simpa using h), List.getElem?_eq_none h]; rfl
theorem flatMap_cong {α β : Type} {f g : α → List β} : ∀ {l : List α}, (∀ x ∈ l, f x = g x) → l.flatMap f = l.flatMap g
  | [], _ => rfl
  | y :: l, h => by rw [List.flatMap_cons, List.flatMap_cons, h y (by simp), flatMap_cong fun x hx => h x (List.mem_cons_of_mem _ hx)]
theorem plc_mem {ps : List Nat} {i : Nat} (h : i < ps.length) : plc ps i ∈ ps := by
  simp [plc, h]
theorem vals_block (g : Nat → Nat → Val) (C i : Nat) : ∀ k, k ≤ C → vals g C (i * C + k) = vals g C (i * C) ++ (List.range k).map (g i)
  | 0, _ => by simp
  | k + 1, h => by
    rw [← Nat.add_assoc, vals_succ g C i k (by omega), vals_block g C i k (by omega), List.range_succ, List.map_append, List.append_assoc]; rfl
theorem flat_vals (g : Nat → Nat → Val) (C : Nat) : ∀ n, (List.range n).flatMap (fun i => (List.range C).map (g i)) = vals g C (n * C)
  | 0 => by simp [vals]
  | n + 1 => by
    rw [List.range_succ, List.flatMap_append, flat_vals g C n, Nat.succ_mul, vals_block g C n C (Nat.le_refl _)]
    simp
theorem cell_lt {R C i j : Nat} (hi : i < R) (hj : j < C) : i * C + j < R * C := by
  calc i * C + j < i * C + C := by omega
    _ = (i + 1) * C := by rw [Nat.succ_mul]
    _ ≤ R * C := Nat.mul_le_mul_right _ hi
theorem rowL_range {R C r : Nat} {l : List Val} (hl : l.length = R * C) (hr : r < R) : rowL C l r = (List.range C).map fun j => getV l (r * C + j) := by
  refine List.ext_getElem? fun j => ?_
  unfold rowL
  rw [List.getElem?_take, List.getElem?_map]
  by_cases hj : j < C
  · have h1 : r * C + j < l.length := by rw [hl]; exact cell_lt hr hj
    rw [if_pos hj, List.getElem?_drop, List.getElem?_range hj]
    simp [getV, h1]
  · rw [if_neg hj, List.getElem?_eq_none (by simpa using Nat.not_lt.1 hj)]; rfl
theorem rowsN_l {a : NA} {ps : List Nat} (hl : a.l.length = a.R * a.C) (hp : ∀ r ∈ ps, r < a.R) : (rowsN a ps).l = vals (fun i j => getV a.l (plc ps i * a.C + j)) a.C (ps.length * a.C) := by
  rw [← flat_vals]
  show ps.flatMap (rowL a.C a.l) = _
  conv => lhs; rw [← plc_map ps]
  rw [List.flatMap_map]
  refine flatMap_cong fun i hi => ?_
  exact rowL_range hl (hp _ (plc_mem (List.mem_range.1 hi)))
theorem colsN_l (a : NA) (ps : List Nat) : (colsN a ps).l = vals (fun i j => getV a.l (i * a.C + plc ps j)) ps.length (a.R * ps.length) := by
  rw [← flat_vals]
  show (List.range a.R).flatMap _ = _
  refine flatMap_cong fun i _ => ?_
  conv => lhs; rw [← plc_map ps]
  rw [List.map_map]; rfl
theorem getV_allP {P : Val → Prop} {l : List Val} {k : Nat} (h : ∀ x ∈ l, P x) (hk : k < l.length) : P (getV l k) := h _ (getV_mem hk)
theorem vals_all {P : Val → Prop} {g : Nat → Nat → Val} {R C : Nat} (h : ∀ i j, i < R → j < C → P (g i j)) : ∀ x ∈ vals g C (R * C), P x := by
  intro x hx
  unfold vals at hx
  obtain ⟨t, ht, rfl⟩ := List.mem_map.1 hx
  have ht' : t < R * C := List.mem_range.1 ht
  have hC : 0 < C := by rcases Nat.eq_zero_or_pos C with rfl | h; · simp at ht'
                        · exact h
  exact h _ _ (Nat.div_lt_of_lt_mul (by rw [Nat.mul_comm]; exact ht')) (Nat.mod_lt _ hC)
theorem rowsN_all {P : Val → Prop} {a : NA} {ps : List Nat} (hl : a.l.length = a.R * a.C) (hp : ∀ r ∈ ps, r < a.R) (h : ∀ x ∈ a.l, P x) : ∀ x ∈ (rowsN a ps).l, P x := by
  rw [rowsN_l hl hp]
  exact vals_all fun i j hi hj => getV_allP h (by rw [hl]; exact cell_lt (hp _ (plc_mem hi)) hj)
theorem colsN_all {P : Val → Prop} {a : NA} {ps : List Nat} (hl : a.l.length = a.R * a.C) (hp : ∀ r ∈ ps, r < a.C) (h : ∀ x ∈ a.l, P x) : ∀ x ∈ (colsN a ps).l, P x := by
  rw [colsN_l]
  exact vals_all fun i j hi hj => getV_allP h (by rw [hl]; exact cell_lt hi (hp _ (plc_mem hj)))
theorem rowsN_right {a : NA} {ps : List Nat} (ha : a.right) (hp : ∀ r ∈ ps, r < a.R) (h1 : 1 ≤ ps.length) (h2 : ps.length ≤ a.R) : (rowsN a ps).right := by
  obtain ⟨a1, a2, a3, a4, a5⟩ := rightA_nat.1 ha
  refine rightA_nat.2 ⟨h1, a2, Nat.le_trans (Nat.mul_le_mul_right _ h2) a3, ?_, rowsN_all a4 hp a5⟩
  rw [rowsN_l a4 hp, vals_length]; rfl
/-- The places from one up to another. -/
def rng (lo hi : Nat) : List Nat := List.range' lo (hi - lo)
theorem rng_length (lo hi : Nat) : (rng lo hi).length = hi - lo := by simp [rng]
theorem rng_lt {lo hi r : Nat} (h : r ∈ rng lo hi) : r < hi := by
  unfold rng at h
  rw [List.mem_range'_1] at h
  omega
theorem rng_plc {lo hi i : Nat} (h : i < hi - lo) : plc (rng lo hi) i = lo + i := by
  simp [plc, rng, List.getElem?_range', h]
theorem part_of {a : NA} (ha : a.right) {lo hi lo' hi' : Nat} (h2 : hi ≤ a.R) (h4 : hi' ≤ a.C) : colsN (rowsN a (rng lo hi)) (rng lo' hi') = partA a lo lo' (hi - lo) (hi' - lo') := by
  obtain ⟨a1, a2, a3, a4, a5⟩ := rightA_nat.1 ha
  have hp : ∀ r ∈ rng lo hi, r < a.R := fun r hr => Nat.lt_of_lt_of_le (rng_lt hr) h2
  have e1 : (colsN (rowsN a (rng lo hi)) (rng lo' hi')).l = partL a.C lo lo' (hi - lo) (hi' - lo') a.l := by
    rw [colsN_l, rowsN_l a4 hp]
    unfold partL
    show vals _ (rng lo' hi').length ((rng lo hi).length * (rng lo' hi').length) = _
    rw [rng_length, rng_length]
    refine vals_congr fun i j hi0 hj0 => ?_
    show getV (vals _ a.C ((hi - lo) * a.C)) (i * a.C + plc (rng lo' hi') j) = _
    rw [rng_plc hj0, getV_vals _ hi0 (by omega), rng_plc hi0]
    congr 1; omega
  show (⟨(rng lo hi).length, (rng lo' hi').length, (colsN (rowsN a (rng lo hi)) (rng lo' hi')).l⟩ : NA) = ⟨hi - lo, hi' - lo', _⟩
  rw [e1, rng_length, rng_length]
theorem turn_rows {a : NA} (ha : a.right) {ps : List Nat} (hp : ∀ r ∈ ps, r < a.C) : turnN (rowsN (turnN a) ps) = colsN a ps := by
  obtain ⟨a1, a2, a3, a4, a5⟩ := rightA_nat.1 ha
  have ht : (turnN a).l.length = (turnN a).R * (turnN a).C := by show (turnL a.R a.C a.l).length = a.C * a.R; rw [turnL_length]
  have e1 : (turnN (rowsN (turnN a) ps)).l = (colsN a ps).l := by
    show turnL ps.length a.R (rowsN (turnN a) ps).l = _
    rw [rowsN_l (a := turnN a) ht hp, colsN_l]
    unfold turnL
    refine vals_congr fun i j hi hj => ?_
    show getV (vals (fun i j => getV (vals (fun i j => getV a.l (j * a.C + i)) a.R (a.C * a.R)) (plc ps i * a.R + j)) a.R (ps.length * a.R)) (j * a.R + i) = _
    rw [getV_vals _ hj hi, getV_vals _ (hp _ (plc_mem hj)) hi]
  show (⟨a.R, ps.length, (turnN (rowsN (turnN a) ps)).l⟩ : NA) = ⟨a.R, ps.length, (colsN a ps).l⟩
  rw [e1]
end Go.Proofs.YtlfbdodokldkhaaGreatDoor
namespace Go.Proofs.YtlfbdodokldkhaaGreatDoor
open Go.RowKit NM
/-- The places that TAKE keeps, that DROP leaves. -/
def keptL (n : Int) (h : Nat) : List Nat := if (h : Int) ≤ n ∨ n ≤ -(h : Int) then rng 0 h else if 0 < n then rng 0 n.toNat else rng ((h : Int) + n).toNat h
def restL (n : Int) (h : Nat) : List Nat := if (h : Int) ≤ n ∨ n ≤ -(h : Int) then [] else if 0 < n then rng n.toNat h else rng 0 ((h : Int) + n).toNat
def takeT (a : NA) (m n : Int × Int) : NA := if m.2 ≠ 0 then aloneO m.2 else if n.2 ≠ 0 then aloneO n.2 else if m.1 = 0 ∨ n.1 = 0 then aloneO 9 else colsN (rowsN a (keptL m.1 a.R)) (keptL n.1 a.C)
def dropT (a : NA) (m n : Int × Int) : NA := if m.2 ≠ 0 then aloneO m.2 else if n.2 ≠ 0 then aloneO n.2 else if restL m.1 a.R = [] ∨ restL n.1 a.C = [] then aloneO 9 else colsN (rowsN a (restL m.1 a.R)) (restL n.1 a.C)
def takeO (xs : List Ar) : NA := takeT (argN xs 0) (numO xs 1 (argN xs 0).R) (numO xs 2 (argN xs 0).C)
def dropO (xs : List Ar) : NA := dropT (argN xs 0) (numO xs 1 0) (numO xs 2 0)
/-- FILTER: the first fault, the places that are true. -/
def maskF : List Val → Int
  | [] => 0
  | v :: l => if (truthO v).2 ≠ 0 then (truthO v).2 else maskF l
def maskP : List Val → Nat → List Nat
  | [], _ => []
  | v :: l, k => if (truthO v).1 then k :: maskP l (k + 1) else maskP l (k + 1)
def filterT (a b c : NA) (g : Bool) : NA :=
  if ¬ (b.C = 1 ∧ b.R = a.R) ∧ (b.R ≠ 1 ∨ b.C ≠ a.C) then aloneO 2
  else if maskF b.l ≠ 0 then aloneO (maskF b.l)
  else if maskP b.l 0 = [] then (if g then c else aloneO 9)
  else if b.C = 1 ∧ b.R = a.R then rowsN a (maskP b.l 0) else colsN a (maskP b.l 0)
def filterO (xs : List Ar) : NA := filterT (argN xs 0) (argN xs 1) (argN xs 2) (givenB xs 2)
end Go.Proofs.YtlfbdodokldkhaaGreatDoor
namespace Go.Proofs.YtlfbdodokldkhaaGreatDoor
open Go.RowKit
theorem part_good {R C row col rows cols : Nat} (h : ((((((((rows : Int) < 1 ∨ (cols : Int) < 1) ∨ (row : Int) < 0) ∨ (col : Int) < 0) ∨ R < rows) ∨ C < cols) ∨ IntKind.i64.wrap ((R : Int) - rows) < row) ∨ IntKind.i64.wrap ((C : Int) - cols) < col)) (hR : R ≤ 4096) (hC : C ≤ 4096) (hr1 : 1 ≤ rows) (hc1 : 1 ≤ cols) (h1 : row + rows ≤ R) (h2 : col + cols ≤ C) : False := by
  rw [IntKind.wrap_i64, IntKind.wrap_i64] at h
  omega
theorem refGet_at (R C i j : Nat) (A : Option Addr) (n cap : Nat) (l : List Val) (w : World) (h : ArrIn w A n cap l) (hn : n = R * C) (hN : n ≤ 4096) (hi : i < R) (hj : j < C) (x : Val) (hx : getV l (i * C + j) = x) (i' j' : Int) (ei : i' = i) (ej : j' = j) :
    Calls Tryz.prog 73 #[AV R C (.slice A n cap), .int .i64 i', .int .i64 j'] w fun e w' => e = .returned (VV x.kind x.mant x.exp x.text x.truth x.fault) ∧ Ext w w' := by
  subst ei ej; exact refGet_any R C i j A n cap l w h hn hN hi hj x hx
set_option maxHeartbeats 800000 in
theorem refPart_yes (R C row col rows cols : Nat) (A : Option Addr) (n cap : Nat) (l : List Val) (w : World) (h : ArrIn w A n cap l) (hr : rightA R C l = true) (hr1 : 1 ≤ rows) (hc1 : 1 ≤ cols) (h1 : row + rows ≤ R) (h2 : col + cols ≤ C) :
    Calls Tryz.prog 79 #[AV R C (.slice A n cap), .int .i64 row, .int .i64 col, .int .i64 rows, .int .i64 cols] w fun e w' => ∃ D c, e = .returned (.tuple #[AV rows cols (.slice D (rows * cols) c), .bool true]) ∧ SlV w.heap.size w' D (partL C row col rows cols l) ∧ rows * cols ≤ c ∧ Ext w w' := by
  obtain ⟨i0, hi0, hz0, hz1, hz2⟩ := info_parts info_val
  obtain ⟨r1, r2, r3, r4, r5, r6⟩ := right_bd hr
  have hln := h.len
  have HN := Lib.hid (show n = R * C by omega)
  have hN : n ≤ 4096 := by omega
  clear r4 hln
  have hT : rows * cols ≤ 4096 := by
    have a1 : rows * cols ≤ rows * C := Nat.mul_le_mul_left _ (by omega)
    have a2 : rows * C ≤ R * C := Nat.mul_le_mul_right _ (by omega)
    omega
  have HB := Lib.hid (And.intro hr1 (And.intro hc1 (And.intro h1 (And.intro h2 (And.intro r5 r6)))))
  clear hr1 hc1 h1 h2 r1 r2 r3 r5 r6
  go_enter Tryz.func79, Tryz.ntmps79
  go_upto_region 1 with (fail)
  refine wp_region_lit ?_
  iterate 3 ((refine wpL_read (v := ?_) rfl ?_ ?_; rotate_left 1; (go_simp; first | done | rfl)); try simp only [Act.put, zqA, zqB, zqC])
  iterate 2 ((refine wpL_gread (v := ?_) (c := ?_) rfl rfl rfl ?_ (fun hc => ?_) ?_; rotate_left 2; (first | exact gc_t _ | exact gc_f _ | exact gc_gt _ _ | exact gc_gf _ _); ((try simp only [gv_of hc]); (try (have hc1 := and_l hc; (try simp only [gv_of hc1]); (try (have hc2 := and_l hc1; (try simp only [gv_of hc2]))))); go_simp; first | done | rfl)); try simp only [Act.put, zqA, zqB, zqC])
  first | (refine wpL_pick_and rfl rfl rfl rfl rfl ?_) | (refine wpL_pick_or rfl rfl rfl rfl rfl ?_)
  try simp only [Act.put, zqA, zqB, zqC]
  (refine wpL_read (v := ?_) rfl ?_ ?_; rotate_left 1; (go_simp; first | done | rfl))
  try simp only [Act.put, zqA, zqB, zqC]
  iterate 2 ((refine wpL_gread (v := ?_) (c := ?_) rfl rfl rfl ?_ (fun hc => ?_) ?_; rotate_left 2; (first | exact gc_t _ | exact gc_f _ | exact gc_gt _ _ | exact gc_gf _ _); ((try simp only [gv_of hc]); (try (have hc1 := and_l hc; (try simp only [gv_of hc1]); (try (have hc2 := and_l hc1; (try simp only [gv_of hc2]))))); go_simp; first | done | rfl)); try simp only [Act.put, zqA, zqB, zqC])
  first | (refine wpL_pick_and rfl rfl rfl rfl rfl ?_) | (refine wpL_pick_or rfl rfl rfl rfl rfl ?_)
  try simp only [Act.put, zqA, zqB, zqC]
  (refine wpL_read (v := ?_) rfl ?_ ?_; rotate_left 1; (go_simp; first | done | rfl))
  try simp only [Act.put, zqA, zqB, zqC]
  iterate 2 ((refine wpL_gread (v := ?_) (c := ?_) rfl rfl rfl ?_ (fun hc => ?_) ?_; rotate_left 2; (first | exact gc_t _ | exact gc_f _ | exact gc_gt _ _ | exact gc_gf _ _); ((try simp only [gv_of hc]); (try (have hc1 := and_l hc; (try simp only [gv_of hc1]); (try (have hc2 := and_l hc1; (try simp only [gv_of hc2]))))); go_simp; first | done | rfl)); try simp only [Act.put, zqA, zqB, zqC])
  first | (refine wpL_pick_and rfl rfl rfl rfl rfl ?_) | (refine wpL_pick_or rfl rfl rfl rfl rfl ?_)
  try simp only [Act.put, zqA, zqB, zqC]
  (refine wpL_read (v := ?_) rfl ?_ ?_; rotate_left 1; (go_simp; first | done | rfl))
  try simp only [Act.put, zqA, zqB, zqC]
  iterate 4 ((refine wpL_gread (v := ?_) (c := ?_) rfl rfl rfl ?_ (fun hc => ?_) ?_; rotate_left 2; (first | exact gc_t _ | exact gc_f _ | exact gc_gt _ _ | exact gc_gf _ _); ((try simp only [gv_of hc]); (try (have hc1 := and_l hc; (try simp only [gv_of hc1]); (try (have hc2 := and_l hc1; (try simp only [gv_of hc2]))))); go_simp; first | done | rfl)); try simp only [Act.put, zqA, zqB, zqC])
  first | (refine wpL_pick_and rfl rfl rfl rfl rfl ?_) | (refine wpL_pick_or rfl rfl rfl rfl rfl ?_)
  try simp only [Act.put, zqA, zqB, zqC]
  (refine wpL_read (v := ?_) rfl ?_ ?_; rotate_left 1; (go_simp; first | done | rfl))
  try simp only [Act.put, zqA, zqB, zqC]
  iterate 4 ((refine wpL_gread (v := ?_) (c := ?_) rfl rfl rfl ?_ (fun hc => ?_) ?_; rotate_left 2; (first | exact gc_t _ | exact gc_f _ | exact gc_gt _ _ | exact gc_gf _ _); ((try simp only [gv_of hc]); (try (have hc1 := and_l hc; (try simp only [gv_of hc1]); (try (have hc2 := and_l hc1; (try simp only [gv_of hc2]))))); go_simp; first | done | rfl)); try simp only [Act.put, zqA, zqB, zqC])
  first | (refine wpL_pick_and rfl rfl rfl rfl rfl ?_) | (refine wpL_pick_or rfl rfl rfl rfl rfl ?_)
  try simp only [Act.put, zqA, zqB, zqC]
  (refine wpL_read (v := ?_) rfl ?_ ?_; rotate_left 1; (go_simp; first | done | rfl))
  try simp only [Act.put, zqA, zqB, zqC]
  iterate 6 ((refine wpL_gread (v := ?_) (c := ?_) rfl rfl rfl ?_ (fun hc => ?_) ?_; rotate_left 2; (first | exact gc_t _ | exact gc_f _ | exact gc_gt _ _ | exact gc_gf _ _); ((try simp only [gv_of hc]); (try (have hc1 := and_l hc; (try simp only [gv_of hc1]); (try (have hc2 := and_l hc1; (try simp only [gv_of hc2]))))); go_simp; first | done | rfl)); try simp only [Act.put, zqA, zqB, zqC])
  first | (refine wpL_pick_and rfl rfl rfl rfl rfl ?_) | (refine wpL_pick_or rfl rfl rfl rfl rfl ?_)
  try simp only [Act.put, zqA, zqB, zqC]
  (refine wpL_read (v := ?_) rfl ?_ ?_; rotate_left 1; (go_simp; first | done | rfl))
  try simp only [Act.put, zqA, zqB, zqC]
  iterate 6 ((refine wpL_gread (v := ?_) (c := ?_) rfl rfl rfl ?_ (fun hc => ?_) ?_; rotate_left 2; (first | exact gc_t _ | exact gc_f _ | exact gc_gt _ _ | exact gc_gf _ _); ((try simp only [gv_of hc]); (try (have hc1 := and_l hc; (try simp only [gv_of hc1]); (try (have hc2 := and_l hc1; (try simp only [gv_of hc2]))))); go_simp; first | done | rfl)); try simp only [Act.put, zqA, zqB, zqC])
  first | (refine wpL_pick_and rfl rfl rfl rfl rfl ?_) | (refine wpL_pick_or rfl rfl rfl rfl rfl ?_)
  try simp only [Act.put, zqA, zqB, zqC]
  refine wpList_nil ?_
  try go_simp
  go_wp2
  · exfalso
    rename_i hbad
    obtain ⟨hr1, hc1, h1, h2, r5, r6⟩ := HB.out
    exact part_good hbad r5 r6 hr1 hc1 h1 h2
  · obtain ⟨hr1, hc1, h1, h2, r5, r6⟩ := HB.out
    rename_i hgood _ _
    clear hgood
    generalize hGG : (fun i j => getV l ((row + i) * C + col + j)) = G
    have HG := Lib.hid hGG
    clear hGG
    have hacc0 := Acc.start ((w.alloc (Obj.cells #[.int .i64 R, .int .i64 C, .slice A n cap] 30)).alloc (Obj.cells #[.int .i64 0, .int .i64 0, .slice none 0 0] 30)) rows cols
    go_loopw [13] (fun i wr => ∃ (r cp : Nat) (D : Option Addr), r ≤ rows ∧ i = .int .i64 r ∧ Acc ((w.alloc (Obj.cells #[.int .i64 R, .int .i64 C, .slice A n cap] 30)).alloc (Obj.cells #[.int .i64 0, .int .i64 0, .slice none 0 0] 30)) (w.heap.size + 1 + 1) rows cols D cp (r * cols) (vals G cols (r * cols)) wr) (fun i _ => rows - (intOf i).toNat)
    case atStart => exact ⟨0, 0, none, Nat.zero_le _, rfl, by simpa [vals] using hacc0⟩
    case round =>
      clear hacc0
      obtain ⟨r, cp, D, hrr, rfl, hacc⟩ := hrel
      have hlt0 := hacc.lt
      by_cases hlt : r < rows
      · go_wp2
        clear hlt0
        obtain ⟨wo, rfl⟩ : ∃ wo : World, wo = wr := ⟨_, rfl⟩
        go_loopw [14] (fun i wr => ∃ (j cp : Nat) (D : Option Addr), j ≤ cols ∧ i = .int .i64 j ∧ Acc ((w.alloc (Obj.cells #[.int .i64 R, .int .i64 C, .slice A n cap] 30)).alloc (Obj.cells #[.int .i64 0, .int .i64 0, .slice none 0 0] 30)) (w.heap.size + 1 + 1) rows cols D cp (r * cols + j) (vals G cols (r * cols + j)) wr) (fun i _ => cols - (intOf i).toNat)
        case atStart => exact ⟨0, cp, D, Nat.zero_le _, rfl, by simpa using hacc⟩
        case round =>
          clear hacc
          obtain ⟨j, cp, D, hj, rfl, hacc⟩ := hrel
          have hlt0 := hacc.lt
          by_cases hjt : j < cols
          · have hk : r * cols + j < 4096 := by have := cell_prod rows hlt hjt hT; omega
            go_wp2
            have hx : getV l ((row + r) * C + (col + j)) = G r j := by rw [← HG.out]; simp only [Nat.add_assoc]
            generalize hxx : G r j = x at hx
            have HX := Lib.hid hxx
            clear hxx
            refine wp_plan (S := AccS _ _ _ _ _ _ _) [(0, 0), (1, 0), (2, 0), (3, 0), (4, 0), (5, 0), (6, 0), (7, 0), (8, 0), (9, 1), (10, 1), (11, 1), (12, 0), (13, 2)] [13] (by kernel_rfl) (by kernel_rfl) (by kernel_rfl) (fun _ _ d _ _ h => by cases d <;> exact h) ⟨(hacc.of_ext (by repeat (first | exact Ext.refl _ | (with_reducible (first | exact ext_d _ _ _ _ | exact ext_app _ _ _ _ _ | apply Ext.drew | apply Ext.alloc | apply Ext.more_)) | apply Ext.drew | apply Ext.alloc | apply Ext.more_))).ext, (hacc.of_ext (by repeat (first | exact Ext.refl _ | (with_reducible (first | exact ext_d _ _ _ _ | exact ext_app _ _ _ _ _ | apply Ext.drew | apply Ext.alloc | apply Ext.more_)) | apply Ext.drew | apply Ext.alloc | apply Ext.more_))).row⟩ ?_
            iterate 9 ((refine wpPl_read (v := ?_) rfl ?_ (fun w1 h1 => ?_) ?_; rotate_left 1; rfl; (obtain ⟨h1e, h1r⟩ := h1; have c2 := cell_of_row _ _ 2 _ _ _ h1r; clear h1r; obtain ⟨os1, d1, rfl⟩ := h1e.more; (try simp only [more_more, Array.append_assoc] at c2); go_simp; first | done | rfl)); try simp only [Act.put, zqA, zqB, zqC])
            (refine wpPl_eff rfl ?_ (fun K hK => ?_); rfl; go_simp; refine (refGet_at R C (row + r) (col + j) A n cap l _ (h.ext (Ext.trans (by repeat (first | exact Ext.refl _ | exact ext_app _ _ _ _ _ | exact ext_app2 _ _ _ _ _ _ | apply Ext.drew | apply Ext.alloc | apply Ext.more_)) hacc.ext.drew)) HN.out hN (by omega) (by omega) x hx _ _ (by rw [IntKind.wrap_i64]; omega) (by rw [IntKind.wrap_i64]; omega)).mono ?_; rintro e w' ⟨rfl, hb⟩; obtain ⟨os, d, rfl⟩ := hb.more; clear hb; refine hK _ _ ⟨(hacc.of_ext (by repeat (first | exact Ext.refl _ | (with_reducible (first | exact ext_d _ _ _ _ | exact ext_app _ _ _ _ _ | apply Ext.drew | apply Ext.alloc | apply Ext.more_)) | apply Ext.drew | apply Ext.alloc | apply Ext.more_))).ext, (hacc.of_ext (by repeat (first | exact Ext.refl _ | (with_reducible (first | exact ext_d _ _ _ _ | exact ext_app _ _ _ _ _ | apply Ext.drew | apply Ext.alloc | apply Ext.more_)) | apply Ext.drew | apply Ext.alloc | apply Ext.more_))).row⟩ ?_)
            try simp only [Act.put, zqA, zqB, zqC]
            (refine wpPl_eff rfl ?_ (fun K hK => ?_); rfl; go_simp; refine hK _ _ ⟨(hacc.of_ext (by repeat (first | exact Ext.refl _ | (with_reducible (first | exact ext_d _ _ _ _ | exact ext_app _ _ _ _ _ | apply Ext.drew | apply Ext.alloc | apply Ext.more_)) | apply Ext.drew | apply Ext.alloc | apply Ext.more_))).ext, (hacc.of_ext (by repeat (first | exact Ext.refl _ | (with_reducible (first | exact ext_d _ _ _ _ | exact ext_app _ _ _ _ _ | apply Ext.drew | apply Ext.alloc | apply Ext.more_)) | apply Ext.drew | apply Ext.alloc | apply Ext.more_))).row⟩ ?_)
            try simp only [Act.put, zqA, zqB, zqC]
            (refine wpPl_eff rfl ?_ (fun K hK => ?_); rfl)
            refine wp_append_own _ _ _ _ rfl _ 39 i0 (VV 0 0 0 ⟨#[]⟩ false 0) 6 56 Tryz.underlying28 hi0 hz0 hz1 hz2 rfl (by decide) _ _ _ rfl (own_ext hacc.own (by repeat (first | exact Ext.refl _ | (with_reducible (first | exact ext_d _ _ _ _ | exact ext_app _ _ _ _ _ | apply Ext.drew | apply Ext.alloc | apply Ext.more_)) | apply Ext.drew | apply Ext.alloc | apply Ext.more_))) _ 1 1 (Val.cells x) rfl rfl (new_cells_at _ _ _ (by simp) rfl _) (cells_one _) (by simp only [maxLen]; omega) (by omega) (by have := hacc.lt; simp; omega) ?_
            intro v3 w3 ho3 hg3
            obtain ⟨A2, cap2, rfl, hrow3, hex3, hacc2⟩ := hacc.step (by repeat (first | exact Ext.refl _ | (with_reducible (first | exact ext_d _ _ _ _ | exact ext_app _ _ _ _ _ | apply Ext.drew | apply Ext.alloc | apply Ext.more_)) | apply Ext.drew | apply Ext.alloc | apply Ext.more_)) hg3 ho3
            refine hK _ _ ⟨hex3, hrow3⟩ ?_
            try simp only [Act.put, zqA, zqB, zqC]
            (refine wpPl_read (v := ?_) rfl ?_ (fun w1 h1 => ?_) ?_; rotate_left 1; rfl; (obtain ⟨h1e, h1r⟩ := h1; have c2 := cell_of_row _ _ 2 _ _ _ h1r; clear h1r; obtain ⟨os1, d1, rfl⟩ := h1e.more; (try simp only [more_more, Array.append_assoc] at c2); go_simp; first | done | rfl))
            try simp only [Act.put, zqA, zqB, zqC]
            have c2 := cell_of_row _ _ 2 _ _ _ hrow3
            have f2 := frozen_of_row _ _ 2 _ _ hrow3
            clear hrow3 hex3 hg3 ho3
            (refine wpPl_tail rfl ?_ (fun K hK => ?_); rfl; go_simp; refine hK _ _ ?_)
            clear c2 f2
            try simp only [Act.put]
            refine wpPl_nil ?_
            go_wp2
            refine ⟨⟨j + 1, cap2, A2, by omega, by go_num, ?_⟩, by simp [intOf]; omega⟩
            rw [show r * cols + (j + 1) = r * cols + j + 1 by omega, vals_succ _ cols r j hjt, HX.out]
            exact hacc2
          · obtain rfl : j = cols := by omega
            go_wp2
            refine ⟨⟨r + 1, cp, D, by omega, by go_num, by rw [Nat.succ_mul]; exact hacc⟩, by simp [intOf]; omega⟩
      · obtain rfl : r = rows := by omega
        have q0 : wr.cell? ⟨w.heap.size + 1, 0, none⟩ = some (.int .i64 0) := hacc.ext.cell_some (by simp [go_sem]); have q1 : wr.cell? ⟨w.heap.size + 1, 1, none⟩ = some (.int .i64 0) := hacc.ext.cell_some (by simp [go_sem]); have q2 : wr.cell? ⟨w.heap.size + 1, 2, none⟩ = some (.slice none 0 0) := hacc.ext.cell_some (by simp [go_sem]); have q3 : wr.frozen? ⟨w.heap.size + 1, 0, none⟩ = false := (hacc.ext.frozen (p := ⟨w.heap.size + 1, 0, none⟩) (by simp)).trans (by simp [go_sem]); have q4 : wr.frozen? ⟨w.heap.size + 1, 1, none⟩ = false := (hacc.ext.frozen (p := ⟨w.heap.size + 1, 1, none⟩) (by simp)).trans (by simp [go_sem]); have q5 : wr.frozen? ⟨w.heap.size + 1, 2, none⟩ = false := (hacc.ext.frozen (p := ⟨w.heap.size + 1, 2, none⟩) (by simp)).trans (by simp [go_sem]); have c0 := cell_of_row _ _ 0 _ _ _ hacc.row; have c1 := cell_of_row _ _ 1 _ _ _ hacc.row; have c2 := cell_of_row _ _ 2 _ _ _ hacc.row
        go_wp2
        obtain ⟨hrd, hcp⟩ := hacc.rd
        refine bodyPost_ret (v := .tuple #[AV r cols (.slice D (r * cols) cp), .bool true]) (by simp [results, Tryz.results79, go_sem, q0, q1, q2]) rfl ⟨D, cp, rfl, ?_, hcp, ?_⟩
        · rw [partL, HG.out]; exact Rd.mono (((hrd.set_far _ (by simp)).set_far _ (by simp)).set_far _ (by simp)) (by omega)
        · exact Ext.set (Ext.set (Ext.set (Ext.trans (by repeat (first | exact Ext.refl _ | exact ext_app _ _ _ _ _ | exact ext_app2 _ _ _ _ _ _ | apply Ext.drew | apply Ext.alloc | apply Ext.more_)) hacc.ext) _ (by simp)) _ (by simp)) _ (by simp)
end Go.Proofs.YtlfbdodokldkhaaGreatDoor
namespace Go.Proofs.YtlfbdodokldkhaaGreatDoor
open Go.RowKit NM
theorem kept_all (h : Nat) : keptL h h = rng 0 h := by
  unfold keptL; rw [if_pos (Or.inl (Int.le_refl _))]
theorem rng_ne {lo hi : Nat} (h : lo < hi) : rng lo hi ≠ [] := fun e => by have := rng_length lo hi; rw [e] at this; simp at this; omega
end Go.Proofs.YtlfbdodokldkhaaGreatDoor
namespace Go.Proofs.YtlfbdodokldkhaaGreatDoor
open Go.RowKit NM
/-- From which to which place so many stay, and whether any do. -/
def cutT (n : Int) (h : Nat) (take out : Bool) : Int × Int × Bool :=
  if take = true then
    if out = true ∨ (h : Int) ≤ n ∨ n ≤ -(h : Int) then (0, (h : Int), out || decide (n ≠ 0))
    else if 0 < n then (0, n, true) else ((h : Int) + n, (h : Int), decide (n ≠ 0))
  else if (h : Int) ≤ n ∨ n ≤ -(h : Int) then (0, 0, false)
  else if 0 ≤ n then (n, (h : Int), true) else (0, (h : Int) + n, true)
/-- These places stay, or none do. -/
def CutIs (c : Int × Int × Bool) (ps : List Nat) (h : Nat) : Prop := ∃ lo hi : Nat, c = ((lo : Int), (hi : Int), true) ∧ lo < hi ∧ hi ≤ h ∧ ps = rng lo hi
theorem cut_kept {n : Int} {h : Nat} (h1 : 1 ≤ h) (hn : n ≠ 0) : CutIs (cutT n h true false) (keptL n h) h := by
  unfold cutT keptL
  rw [if_pos rfl]
  by_cases q : (h : Int) ≤ n ∨ n ≤ -(h : Int)
  · rw [if_pos (Or.inr q), if_pos q]
    exact ⟨0, h, by simp [hn], h1, Nat.le_refl _, rfl⟩
  · rw [if_neg (by simpa using q), if_neg q]
    by_cases p : 0 < n
    · rw [if_pos p, if_pos p]
      exact ⟨0, n.toNat, by rw [show ((n.toNat : Nat) : Int) = n by omega]; rfl, by omega, by omega, rfl⟩
    · rw [if_neg p, if_neg p]
      exact ⟨((h : Int) + n).toNat, h, by rw [show ((((h : Int) + n).toNat : Nat) : Int) = (h : Int) + n by omega]; simp [hn], by omega, Nat.le_refl _, rfl⟩
theorem cut_kept0 {h : Nat} (h1 : 1 ≤ h) : (cutT 0 h true false).2.2 = false := by
  unfold cutT
  rw [if_pos rfl, if_neg (by simp; omega), if_neg (by omega)]
  simp
theorem cut_out {n : Int} {h : Nat} (h1 : 1 ≤ h) : CutIs (cutT n h true true) (keptL (h : Int) h) h := by
  unfold cutT
  rw [if_pos rfl, if_pos (Or.inl rfl), kept_all]
  exact ⟨0, h, rfl, h1, Nat.le_refl _, rfl⟩
theorem cut_rest {n : Int} {h : Nat} {o : Bool} (h1 : 1 ≤ h) : ((cutT n h false o).2.2 = false ∧ restL n h = []) ∨ CutIs (cutT n h false o) (restL n h) h := by
  unfold cutT restL
  rw [if_neg (by simp)]
  by_cases q : (h : Int) ≤ n ∨ n ≤ -(h : Int)
  · rw [if_pos q, if_pos q]; exact Or.inl ⟨rfl, rfl⟩
  · rw [if_neg q, if_neg q]
    right
    by_cases p : 0 < n
    · rw [if_pos (by omega), if_pos p]
      exact ⟨n.toNat, h, by rw [show ((n.toNat : Nat) : Int) = n by omega], by omega, Nat.le_refl _, rfl⟩
    · rw [if_neg p]
      by_cases z : 0 ≤ n
      · obtain rfl : n = 0 := by omega
        rw [if_pos (by omega)]
        exact ⟨0, h, rfl, by omega, Nat.le_refl _, by congr 1⟩
      · rw [if_neg z]
        exact ⟨0, ((h : Int) + n).toNat, by rw [show ((((h : Int) + n).toNat : Nat) : Int) = (h : Int) + n by omega]; rfl, by omega, by omega, rfl⟩
theorem cut_cases {n : Int} {h : Nat} (take out : Bool) (h1 : 1 ≤ h) : (cutT n h take out).2.2 = false ∨ ∃ ps, CutIs (cutT n h take out) ps h := by
  cases take with
  | true =>
    cases out with
    | true => exact Or.inr ⟨_, cut_out h1⟩
    | false =>
      by_cases hn : n = 0
      · subst hn; exact Or.inl (cut_kept0 h1)
      · exact Or.inr ⟨_, cut_kept h1 hn⟩
  | false =>
    rcases cut_rest (n := n) (o := out) h1 with ⟨h2, _⟩ | h2
    · exact Or.inl h2
    · exact Or.inr ⟨_, h2⟩
theorem CutIs.ne {c : Int × Int × Bool} {ps : List Nat} {h : Nat} (hc : CutIs c ps h) : ps ≠ [] := by
  obtain ⟨lo, hi, _, h1, _, rfl⟩ := hc
  exact rng_ne h1
/-- What TAKE and DROP tell, by the document. -/
def partT (a : NA) (m n : Int × Int) (c d : Int × Int × Bool) : NA :=
  if m.2 ≠ 0 then aloneO m.2 else if n.2 ≠ 0 then aloneO n.2
  else if c.2.2 = false ∨ d.2.2 = false then aloneO 9 else partA a c.1.toNat d.1.toNat (c.2.1 - c.1).toNat (d.2.1 - d.1).toNat
theorem part_cut {a : NA} (ha : a.right) {c d : Int × Int × Bool} {ps qs : List Nat} (hc : CutIs c ps a.R) (hd : CutIs d qs a.C) :
    (if c.2.2 = false ∨ d.2.2 = false then aloneO 9 else partA a c.1.toNat d.1.toNat (c.2.1 - c.1).toNat (d.2.1 - d.1).toNat) = colsN (rowsN a ps) qs := by
  obtain ⟨lo, hi, rfl, h1, h2, rfl⟩ := hc
  obtain ⟨lo', hi', rfl, h3, h4, rfl⟩ := hd
  rw [if_neg (by simp), part_of ha h2 h4]
  simp only [Int.toNat_natCast]
  rw [show ((hi : Int) - (lo : Int)).toNat = hi - lo by omega, show ((hi' : Int) - (lo' : Int)).toNat = hi' - lo' by omega]
def docPart (xs : List Ar) (take : Bool) : NA :=
  partT (argN xs 0) (numO xs 1 0) (numO xs 2 0) (cutT (numO xs 1 0).1 (argN xs 0).R take (!givenB xs 1)) (cutT (numO xs 2 0).1 (argN xs 0).C take (!givenB xs 2))
theorem numO_left {xs : List Ar} {k : Nat} {l l' : Int} (h : givenB xs k = true) : numO xs k l = numO xs k l' := by
  unfold numO; rw [if_pos h, if_pos h]
theorem numO_out {xs : List Ar} {k : Nat} {l : Int} (h : givenB xs k = false) : numO xs k l = (l, 0) := by
  unfold numO; rw [if_neg (by simp [h])]
/-- One side of TAKE: the number, its fault, whether it is 0, the places. -/
theorem take_side (xs : List Ar) (k h : Nat) (h1 : 1 ≤ h) : ((numO xs k h).2 = (numO xs k 0).2) ∧ ((numO xs k h).2 = 0 →
    ((numO xs k h).1 = 0 ∧ (cutT (numO xs k 0).1 h true (!givenB xs k)).2.2 = false) ∨ ((numO xs k h).1 ≠ 0 ∧ CutIs (cutT (numO xs k 0).1 h true (!givenB xs k)) (keptL (numO xs k h).1 h) h)) := by
  cases hg : givenB xs k with
  | false =>
    rw [numO_out hg, numO_out hg]
    exact ⟨rfl, fun _ => Or.inr ⟨by show (h : Int) ≠ 0; omega, cut_out h1⟩⟩
  | true =>
    rw [numO_left (l := (h : Int)) (l' := 0) hg]
    refine ⟨rfl, fun _ => ?_⟩
    by_cases hz : (numO xs k 0).1 = 0
    · left; refine ⟨hz, ?_⟩; rw [hz]; exact cut_kept0 h1
    · exact Or.inr ⟨hz, cut_kept h1 hz⟩
theorem doc_take {xs : List Ar} (ha : (argN xs 0).right) : docPart xs true = takeO xs := by
  obtain ⟨r1, r2, _⟩ := rightA_nat.1 ha
  obtain ⟨e1, c1⟩ := take_side xs 1 (argN xs 0).R r1
  obtain ⟨e2, c2⟩ := take_side xs 2 (argN xs 0).C r2
  unfold docPart takeO partT takeT
  rw [e1, e2]
  by_cases q1 : (numO xs 1 0).2 = 0
  · simp only [show ¬ (numO xs 1 0).2 ≠ 0 by simpa using q1, if_false]
    by_cases q2 : (numO xs 2 0).2 = 0
    · simp only [show ¬ (numO xs 2 0).2 ≠ 0 by simpa using q2, if_false]
      rcases c1 (e1.trans q1) with ⟨z1, f1⟩ | ⟨z1, f1⟩
      · rw [if_pos (Or.inl f1), if_pos (Or.inl z1)]
      · rcases c2 (e2.trans q2) with ⟨z2, f2⟩ | ⟨z2, f2⟩
        · rw [if_pos (Or.inr f2), if_pos (Or.inr z2)]
        · rw [if_neg (c := (numO xs 1 ((argN xs 0).R : Int)).1 = 0 ∨ (numO xs 2 ((argN xs 0).C : Int)).1 = 0) (by simp [z1, z2])]
          exact part_cut ha f1 f2
    · simp only [show (numO xs 2 0).2 ≠ 0 from q2, if_true, not_false_eq_true, ne_eq]
  · simp only [show (numO xs 1 0).2 ≠ 0 from q1, if_true, not_false_eq_true, ne_eq]
theorem doc_drop {xs : List Ar} (ha : (argN xs 0).right) : docPart xs false = dropO xs := by
  obtain ⟨r1, r2, _⟩ := rightA_nat.1 ha
  unfold docPart dropO partT dropT
  by_cases q1 : (numO xs 1 0).2 = 0
  · simp only [show ¬ (numO xs 1 0).2 ≠ 0 by simpa using q1, if_false]
    by_cases q2 : (numO xs 2 0).2 = 0
    · simp only [show ¬ (numO xs 2 0).2 ≠ 0 by simpa using q2, if_false]
      rcases cut_rest (n := (numO xs 1 0).1) (o := !givenB xs 1) r1 with ⟨f1, z1⟩ | f1
      · rw [if_pos (Or.inl f1), if_pos (Or.inl z1)]
      · rcases cut_rest (n := (numO xs 2 0).1) (o := !givenB xs 2) r2 with ⟨f2, z2⟩ | f2
        · rw [if_pos (Or.inr f2), if_pos (Or.inr z2)]
        · rw [if_neg (c := restL (numO xs 1 0).1 (argN xs 0).R = [] ∨ restL (numO xs 2 0).1 (argN xs 0).C = []) (fun e => e.elim f1.ne f2.ne)]
          exact part_cut ha f1 f2
    · simp only [show (numO xs 2 0).2 ≠ 0 from q2, if_true, not_false_eq_true, ne_eq]
  · simp only [show (numO xs 1 0).2 ≠ 0 from q1, if_true, not_false_eq_true, ne_eq]
/-- A fault that a number's argument tells is one of the nine. -/
theorem tnF_bd {x : Val} (h : x.right) : tnF x = 0 ∨ (1 ≤ tnF x ∧ tnF x ≤ 9) := by
  rcases h.form with rfl | ⟨m, e, rfl, hr⟩ | ⟨t, rfl, ht⟩ | ⟨b, rfl⟩ | ⟨f, rfl, hf⟩
  · left; rfl
  · left; rfl
  · unfold tnF
    rw [if_pos rfl]
    cases (parS t).isSome
    · right; simp
    · left; rfl
  · left; rfl
  · right; exact hf
theorem wholeO_bd {x : Val} (h : x.right) : (wholeO x).2 = 0 ∨ (1 ≤ (wholeO x).2 ∧ (wholeO x).2 ≤ 9) := by
  unfold wholeO
  split
  · show (if _ then (0 : Int) else 5) = 0 ∨ _
    split
    · left; rfl
    · right; simp
  · exact tnF_bd h
theorem argV_right {w : World} {A : Option Addr} {n cap k : Nat} {xs : List Ar} (h : ArgsIn w A n cap xs) (hg : givenB xs k = true) : (argV xs k).right := by
  unfold givenB at hg
  unfold argV
  cases hx : xs[k]? with
  | none => rw [hx] at hg; cases hg
  | some a =>
    have ha := (h.all a (List.mem_of_getElem? hx)).right
    obtain ⟨r1, r2, r3, r4, r5⟩ := rightA_nat.1 ha
    exact r5 _ (getV_mem (by rw [r4]; exact Nat.mul_pos r1 r2))
theorem numO_bd {w : World} {A : Option Addr} {n cap k : Nat} {xs : List Ar} {l : Int} (h : ArgsIn w A n cap xs) : (numO xs k l).2 = 0 ∨ (1 ≤ (numO xs k l).2 ∧ (numO xs k l).2 ≤ 9) := by
  cases hg : givenB xs k with
  | false => rw [numO_out hg]; left; rfl
  | true => unfold numO; rw [if_pos hg]; exact wholeO_bd (argV_right h hg)
theorem intGo_i64 : ∀ {k : Nat} {n i : Int}, I64 n → intGo n k = some i → I64 i
  | 0, n, i, h, e => by
    simp only [intGo, Option.some.injEq] at e
    subst e; exact h
  | k + 1, n, i, h, e => by
    unfold intGo at e
    split at e
    · cases e
    · exact intGo_i64 (by unfold I64; omega) e
theorem int_i64 {m e i : Int} (h : Rt m e) (hi : intS m e = some i) : I64 i := by
  unfold intS at hi
  split at hi
  · cases hi
  · exact intGo_i64 (rt_i64 h) hi
/-- A number's argument is one that an int holds. -/
theorem wholeO_i64 {x : Val} (h : x.right) : I64 (wholeO x).1 := by
  unfold wholeO
  split
  · show I64 (Option.getD _ 0)
    cases hi : intS (floorS (tnP x).1 (tnP x).2).1 (floorS (tnP x).1 (tnP x).2).2 with
    | none => show I64 0; unfold I64; omega
    | some i => exact int_i64 (floor_spec (tn_rt h)).1 hi
  · show I64 0; unfold I64; omega
theorem numO_i64 {w : World} {A : Option Addr} {n cap k : Nat} {xs : List Ar} {l : Int} (h : ArgsIn w A n cap xs) (hl : I64 l) : I64 (numO xs k l).1 := by
  cases hg : givenB xs k with
  | false => rw [numO_out hg]; exact hl
  | true => unfold numO; rw [if_pos hg]; exact wholeO_i64 (argV_right h hg)
end Go.Proofs.YtlfbdodokldkhaaGreatDoor
namespace Go.Proofs.YtlfbdodokldkhaaGreatDoor
open Go.RowKit NM
set_option maxHeartbeats 1000000 in
theorem left_any (A : Option Addr) (n cap : Nat) (xs : List Ar) (k : Nat) (w : World) (h : ArgsIn w A n cap xs) (g : Bool) (hg : (!givenB xs k) = g) :
    Calls Tryz.prog 78 #[.slice A n cap, .int .i64 (k : Int)] w fun e w' => e = .returned (.bool g) ∧ Ext w w' := by
  by_cases hlt : k < n
  · obtain ⟨R, C, l, b1, off1, n1, cap1, b, off, x, ha, rfl, ⟨v0, v1, v2⟩, hn1, hc1, ⟨y0, y1, y2, y3, y4, y5⟩, hgv, hxr, hbl, hb1, hav, hgb, harr, hx⟩ := h.first hlt
    rw [hgb] at hg
    simp only at v0 v1 v2
    clear ha hgv hxr hav hgb harr hx
    have hsm := h.small
    have hcap := h.cap
    have hlt' : ¬ n ≤ k := by omega
    clear h
    obtain ⟨xk, xm, xe, xt, xb, xf⟩ := x
    simp only at y0 y1 y2 y3 y4 y5 hg
    generalize hR : (R : Int) = r at v0
    generalize hC : (C : Int) = c at v1
    by_cases h1 : R = 1
    · obtain rfl : r = 1 := by omega
      by_cases h2 : C = 1
      · obtain rfl : c = 1 := by omega
        subst h1 h2
        by_cases h3 : xk = 0
        · subst h3
          obtain rfl : g = true := by rw [← hg]; rfl
          clear hg hR hC
          go_enter Tryz.func78, Tryz.ntmps78
          go_wp2
          exact bodyPost_ret (v := .bool true) (by simp [results, Tryz.results78, go_sem]) rfl ⟨rfl, by with_reducible repeat (first | exact Ext.refl _ | apply Ext.drew | apply Ext.alloc | apply Ext.more_)⟩
        · have h3'' : (xk == 0) = false := by simpa using h3
          obtain rfl : g = false := by rw [← hg, h3'']; rfl
          clear hg hR hC h3
          go_enter Tryz.func78, Tryz.ntmps78
          go_wp2
          exact bodyPost_ret (v := .bool false) (by simp [results, Tryz.results78, go_sem]) rfl ⟨rfl, by with_reducible repeat (first | exact Ext.refl _ | apply Ext.drew | apply Ext.alloc | apply Ext.more_)⟩
      · have h2' : (c == 1) = false := by simp; omega
        have h2'' : (C == 1) = false := by simpa using h2
        obtain rfl : g = false := by rw [← hg, h2'']; simp
        subst h1
        clear hg hR hC h2 h2''
        go_enter Tryz.func78, Tryz.ntmps78
        go_wp2
        exact bodyPost_ret (v := .bool false) (by simp [results, Tryz.results78, go_sem]) rfl ⟨rfl, by with_reducible repeat (first | exact Ext.refl _ | apply Ext.drew | apply Ext.alloc | apply Ext.more_)⟩
    · have h1' : (r == 1) = false := by simp; omega
      have h1'' : (R == 1) = false := by simpa using h1
      obtain rfl : g = false := by rw [← hg, h1'']; rfl
      clear hg hR hC h1 h1''
      go_enter Tryz.func78, Tryz.ntmps78
      go_wp2
      exact bodyPost_ret (v := .bool false) (by simp [results, Tryz.results78, go_sem]) rfl ⟨rfl, by with_reducible repeat (first | exact Ext.refl _ | apply Ext.drew | apply Ext.alloc | apply Ext.more_)⟩
  · obtain rfl : g = true := by rw [← hg]; unfold givenB; rw [List.getElem?_eq_none (by rw [h.len]; omega)]; rfl
    have hsm := h.small
    have hlt' : n ≤ k := by omega
    clear hg
    go_enter Tryz.func78, Tryz.ntmps78
    go_wp2
    exact bodyPost_ret (v := .bool true) (by simp [results, Tryz.results78, go_sem]) rfl ⟨rfl, by with_reducible repeat (first | exact Ext.refl _ | apply Ext.drew | apply Ext.alloc | apply Ext.more_)⟩
set_option maxHeartbeats 1000000 in
theorem rnumber15_any (A : Option Addr) (n cap : Nat) (xs : List Ar) (k : Nat) (left : Int) (w : World) (h : ArgsIn w A n cap xs) (y : Int × Int) (hy : numO xs k left = y) :
    Calls Tryz.prog 76 #[.slice A n cap, .int .i64 (k : Int), .int .i64 left] w fun e w' => e = .returned (.tuple #[.int .i64 y.1, .int .i64 y.2]) ∧ Ext w w' := by
  have hgv := fun W (hW : ArgsIn W A n cap xs) g hg => left_any A n cap xs k W hW g hg
  have H := Lib.hid h
  subst hy
  unfold numO
  cases hg : givenB xs k with
  | false =>
    rw [if_neg (by simp)]
    have hgw := fun W (hW : ArgsIn W A n cap xs) => hgv W hW true (by rw [hg]; rfl)
    clear hgv hg h
    go_enter Tryz.func76, Tryz.ntmps76
    go_wp2_with (go_at_call 78; (with_reducible refine (hgw _ (H.out.ext (by with_reducible repeat (first | exact Ext.refl _ | apply Ext.drew | apply Ext.alloc | apply Ext.more_)))).mono ?_); rintro e w' ⟨rfl, hb⟩; obtain ⟨os, d, rfl⟩ := hb.more; clear hb)
    exact bodyPost_ret (v := .tuple #[.int .i64 left, .int .i64 0]) (by simp [results, Tryz.results76, go_sem]) rfl ⟨rfl, by with_reducible repeat (first | exact Ext.refl _ | apply Ext.drew | apply Ext.alloc | apply Ext.more_)⟩
  | true =>
    rw [if_pos rfl]
    have hgw := fun W (hW : ArgsIn W A n cap xs) => hgv W hW false (by rw [hg]; rfl)
    have hlt : k < n := by
      rcases Nat.lt_or_ge k n with hl | hl
      · exact hl
      · unfold givenB at hg; rw [List.getElem?_eq_none (by rw [h.len]; exact hl)] at hg; cases hg
    obtain ⟨R, C, l, b1, off1, n1, cap1, b, off, x, ha, rfl, ⟨v0, v1, v2⟩, hn1, hc1, ⟨y0, y1, y2, y3, y4, y5⟩, _, hxr, hbl, hb1, hav, _, _, _⟩ := h.first hlt
    rw [hav]
    simp only at v0 v1 v2
    have hcap := h.cap
    have ht := fun W => rtoNum_any x W hxr
    have hi1 : I64 (tnP x).1 := rt_i64 (tn_rt hxr)
    unfold wholeO
    generalize htp : tnP x = p at *
    generalize htf : tnF x = f at *
    by_cases hf : f = 0
    · subst hf
      rw [if_pos rfl]
      have hfl := fun W => rfloor_any p.1 p.2 W hi1
      have hi2 : I64 (floorS p.1 p.2).1 := rt_i64 (by exact (floor_spec (by rw [← htp]; exact tn_rt hxr)).1)
      generalize hq : floorS p.1 p.2 = q at *
      have hin := fun W => rint_any q.1 q.2 W hi2
      cases hI : intS q.1 q.2 with
      | none =>
        rw [hI] at hin
        simp only [inV, Option.getD_none, Option.isSome_none] at hin ⊢
        simp only [tnV, htp, htf] at ht
        clear hI hq htp htf ha hxr hav hi1 hi2 h hg hgv
        go_enter Tryz.func76, Tryz.ntmps76
        go_wp2_with (first | (go_at_call 78; (with_reducible refine (hgw _ (H.out.ext (by with_reducible repeat (first | exact Ext.refl _ | apply Ext.drew | apply Ext.alloc | apply Ext.more_)))).mono ?_); rintro e w' ⟨rfl, hb⟩; obtain ⟨os, d, rfl⟩ := hb.more; clear hb) | (go_at_call 80; (with_reducible refine (ht _).mono ?_); rintro e w' ⟨rfl, hb⟩; obtain ⟨os, d, rfl⟩ := hb.more; clear hb) | (go_at_call 126; (with_reducible refine (hfl _).mono ?_); rintro e w' ⟨rfl, hb⟩; obtain ⟨os, d, rfl⟩ := hb.more; clear hb) | (go_at_call 125; (with_reducible refine (hin _).mono ?_); rintro e w' ⟨rfl, hb⟩; obtain ⟨os, d, rfl⟩ := hb.more; clear hb))
        exact bodyPost_ret (v := .tuple #[.int .i64 0, .int .i64 5]) (by simp [results, Tryz.results76, go_sem]) rfl ⟨rfl, by with_reducible repeat (first | exact Ext.refl _ | apply Ext.drew | apply Ext.alloc | apply Ext.more_)⟩
      | some i =>
        rw [hI] at hin
        simp only [inV, Option.getD_some, Option.isSome_some] at hin ⊢
        simp only [tnV, htp, htf] at ht
        clear hI hq htp htf ha hxr hav hi1 hi2 h hg hgv
        go_enter Tryz.func76, Tryz.ntmps76
        go_wp2_with (first | (go_at_call 78; (with_reducible refine (hgw _ (H.out.ext (by with_reducible repeat (first | exact Ext.refl _ | apply Ext.drew | apply Ext.alloc | apply Ext.more_)))).mono ?_); rintro e w' ⟨rfl, hb⟩; obtain ⟨os, d, rfl⟩ := hb.more; clear hb) | (go_at_call 80; (with_reducible refine (ht _).mono ?_); rintro e w' ⟨rfl, hb⟩; obtain ⟨os, d, rfl⟩ := hb.more; clear hb) | (go_at_call 126; (with_reducible refine (hfl _).mono ?_); rintro e w' ⟨rfl, hb⟩; obtain ⟨os, d, rfl⟩ := hb.more; clear hb) | (go_at_call 125; (with_reducible refine (hin _).mono ?_); rintro e w' ⟨rfl, hb⟩; obtain ⟨os, d, rfl⟩ := hb.more; clear hb))
        exact bodyPost_ret (v := .tuple #[.int .i64 i, .int .i64 0]) (by simp [results, Tryz.results76, go_sem]) rfl ⟨rfl, by with_reducible repeat (first | exact Ext.refl _ | apply Ext.drew | apply Ext.alloc | apply Ext.more_)⟩
    · rw [if_neg hf]
      have hf' : (f != 0) = true := by simpa using hf
      simp only [tnV, htp, htf] at ht
      clear htp htf ha hxr hav hi1 h hg hgv
      go_enter Tryz.func76, Tryz.ntmps76
      go_wp2_with (first | (go_at_call 78; (with_reducible refine (hgw _ (H.out.ext (by with_reducible repeat (first | exact Ext.refl _ | apply Ext.drew | apply Ext.alloc | apply Ext.more_)))).mono ?_); rintro e w' ⟨rfl, hb⟩; obtain ⟨os, d, rfl⟩ := hb.more; clear hb) | (go_at_call 80; (with_reducible refine (ht _).mono ?_); rintro e w' ⟨rfl, hb⟩; obtain ⟨os, d, rfl⟩ := hb.more; clear hb))
      exact bodyPost_ret (v := .tuple #[.int .i64 0, .int .i64 f]) (by simp [results, Tryz.results76, go_sem]) rfl ⟨rfl, by with_reducible repeat (first | exact Ext.refl _ | apply Ext.drew | apply Ext.alloc | apply Ext.more_)⟩
end Go.Proofs.YtlfbdodokldkhaaGreatDoor
namespace Go.Proofs.YtlfbdodokldkhaaGreatDoor
open Go.RowKit NM
/-- A slice of places in memory of its own. -/
def Pls (base : Nat) (w : World) (v : Value) (ps : List Nat) : Prop := w.ownsRow base 3 1 v ps.length (i6 ps)
theorem rng_succ {lo j : Nat} (h : lo ≤ j) : rng lo (j + 1) = rng lo j ++ [j] := by
  unfold rng
  rw [show j + 1 - lo = (j - lo) + 1 by omega, List.range'_concat]
  congr 2; omega
set_option maxHeartbeats 2000000 in
theorem grun_any (lo hi : Nat) (hlo : lo ≤ 100000) (hhi : hi ≤ 100000) (w : World) :
    Calls Tryz.prog 137 #[.int .i64 (lo : Int), .int .i64 (hi : Int)] w fun e w' => ∃ v, e = .returned v ∧ Pls w.heap.size w' v (rng lo hi) ∧ Ext w w' := by
  obtain ⟨i0, hi0, hz0, hz1, hz2⟩ := info_parts info_int_
  go_enter Tryz.func137, Tryz.ntmps137
  go_wp2_with fail
  go_loopw [5, 6] (fun v i wr => ∃ j : Nat, lo ≤ j ∧ (j ≤ hi ∨ j = lo) ∧ i = .int .i64 (j : Int) ∧ Hid (wr.ownsRow w.heap.size 3 1 v (j - lo) (i6 (rng lo j))) ∧ Ext w wr) (fun _ i _ => hi - (intOf i).toNat)
  case atStart =>
    refine ⟨lo, Nat.le_refl _, Or.inr rfl, rfl, ?_, Ext.refl _⟩
    show World.ownsRow _ _ _ _ _ _ _
    rw [show rng lo lo = [] by simp [rng], Nat.sub_self]
    exact World.ownsRow_nil _ _ _ _
  case round =>
    obtain ⟨j, h1, h2, rfl, HW, hxr⟩ := hrel
    have hsz := hxr.size
    by_cases hlt : j < hi
    · go_wp2_with (at_builtin; refine wpList_append_own _ rfl _ _ _ rfl w.heap.size 3 i0 (.int .i64 0) 1 8 Tryz.underlying77 hi0 hz0 hz1 hz2 rfl (by decide) _ (j - lo) (i6 (rng lo j)) rfl (own_allocT HW.out _) _ 1 1 [.int .i64 j] rfl rfl (Rd.one_ _ _ rfl).add (one_i6 [j]) (by simp [maxLen]; omega) (by omega) (by simp; omega) ?_; intro v4 w4 ho4 hg4 _)
      have hx4 := ext_grown (hxr.alloc _) (own_allocT HW.out _) hg4
      refine ⟨⟨j + 1, by omega, Or.inl (by omega), by go_num, ?_, hx4⟩, by simp [intOf]; omega⟩
      show World.ownsRow _ _ _ _ _ _ _
      rw [rng_succ h1, show j + 1 - lo = j - lo + 1 by omega]; unfold i6; rw [List.map_append]
      exact ho4
    · go_wp2_with fail
      go_ret
      refine ⟨_, rfl, ?_, hxr⟩
      have hj : rng lo j = rng lo hi := by
        rcases h2 with h2 | h2
        · rw [show j = hi by omega]
        · subst h2; simp [rng]; omega
      unfold Pls
      rw [← hj, rng_length]
      exact HW.out
set_option maxHeartbeats 2000000 in
theorem kept_any (n : Int) (h : Nat) (hn : I64 n) (hh : h ≤ 4096) (w : World) :
    Calls Tryz.prog 111 #[.int .i64 n, .int .i64 (h : Int)] w fun e w' => ∃ v, e = .returned v ∧ Pls w.heap.size w' v (keptL n h) ∧ Ext w w' := by
  unfold I64 at hn
  unfold keptL
  have r1 := fun lo hi h1 h2 W => grun_any lo hi h1 h2 W
  by_cases h1 : (h : Int) ≤ n
  · rw [if_pos (Or.inl h1)]
    have hr := fun W => grun_any 0 h (by omega) (by omega) W
    rw [show ((0 : Nat) : Int) = 0 from rfl] at hr
    generalize rng 0 h = ps at *
    go_enter Tryz.func111, Tryz.ntmps111
    go_wp2_with (go_at_call 137; (with_reducible refine (hr _).mono ?_); rintro e w' ⟨v, rfl, hv, hb⟩)
    go_ret
    exact ⟨v, rfl, hv, hb⟩
  · by_cases h2 : n ≤ -(h : Int)
    · rw [if_pos (Or.inr h2)]
      have hr := fun W => grun_any 0 h (by omega) (by omega) W
      rw [show ((0 : Nat) : Int) = 0 from rfl] at hr
      generalize rng 0 h = ps at *
      go_enter Tryz.func111, Tryz.ntmps111
      go_wp2_with (go_at_call 137; (with_reducible refine (hr _).mono ?_); rintro e w' ⟨v, rfl, hv, hb⟩)
      go_ret
      exact ⟨v, rfl, hv, hb⟩
    · rw [if_neg (by omega)]
      by_cases h3 : 0 < n
      · rw [if_pos h3]
        have hr := fun W => grun_any 0 n.toNat (by omega) (by omega) W
        rw [show ((0 : Nat) : Int) = 0 from rfl, show ((n.toNat : Nat) : Int) = n by omega] at hr
        generalize rng 0 n.toNat = ps at *
        go_enter Tryz.func111, Tryz.ntmps111
        go_wp2_with (go_at_call 137; (with_reducible refine (hr _).mono ?_); rintro e w' ⟨v, rfl, hv, hb⟩)
        go_ret
        exact ⟨v, rfl, hv, hb⟩
      · rw [if_neg h3]
        have hr := fun W => grun_any ((h : Int) + n).toNat h (by omega) (by omega) W
        rw [show ((((h : Int) + n).toNat : Nat) : Int) = (h : Int) + n by omega] at hr
        have hw : IntKind.i64.wrap ((h : Int) + n) = (h : Int) + n := by rw [IntKind.wrap_i64]; omega
        generalize rng ((h : Int) + n).toNat h = ps at *
        go_enter Tryz.func111, Tryz.ntmps111
        go_wp2_with (go_at_call 137; (with_reducible refine (hr _).mono ?_); rintro e w' ⟨v, rfl, hv, hb⟩)
        go_ret
        exact ⟨v, rfl, hv, hb⟩
set_option maxHeartbeats 2000000 in
theorem rest_any (n : Int) (h : Nat) (hn : I64 n) (hh : h ≤ 4096) (w : World) :
    Calls Tryz.prog 94 #[.int .i64 n, .int .i64 (h : Int)] w fun e w' => ∃ v, e = .returned v ∧ Pls w.heap.size w' v (restL n h) ∧ Ext w w' := by
  unfold I64 at hn
  unfold restL
  by_cases h1 : (h : Int) ≤ n
  · rw [if_pos (Or.inl h1)]
    go_enter Tryz.func94, Tryz.ntmps94
    go_wp2_with fail
    go_ret
    exact ⟨_, rfl, World.ownsRow_nil _ _ _ _, by with_reducible repeat (first | exact Ext.refl _ | apply Ext.drew | apply Ext.alloc | apply Ext.more_)⟩
  · by_cases h2 : n ≤ -(h : Int)
    · rw [if_pos (Or.inr h2)]
      go_enter Tryz.func94, Tryz.ntmps94
      go_wp2_with fail
      go_ret
      exact ⟨_, rfl, World.ownsRow_nil _ _ _ _, by with_reducible repeat (first | exact Ext.refl _ | apply Ext.drew | apply Ext.alloc | apply Ext.more_)⟩
    · rw [if_neg (by omega)]
      by_cases h3 : 0 < n
      · rw [if_pos h3]
        have hr := fun W => grun_any n.toNat h (by omega) (by omega) W
        rw [show ((n.toNat : Nat) : Int) = n by omega] at hr
        generalize rng n.toNat h = ps at *
        go_enter Tryz.func94, Tryz.ntmps94
        go_wp2_with (go_at_call 137; (with_reducible refine (hr _).mono ?_); rintro e w' ⟨v, rfl, hv, hb⟩)
        go_ret
        exact ⟨v, rfl, hv, hb⟩
      · rw [if_neg h3]
        have hr := fun W => grun_any 0 ((h : Int) + n).toNat (by omega) (by omega) W
        rw [show ((((h : Int) + n).toNat : Nat) : Int) = (h : Int) + n by omega, show ((0 : Nat) : Int) = 0 from rfl] at hr
        have hw : IntKind.i64.wrap ((h : Int) + n) = (h : Int) + n := by rw [IntKind.wrap_i64]; omega
        generalize rng 0 ((h : Int) + n).toNat = ps at *
        go_enter Tryz.func94, Tryz.ntmps94
        go_wp2_with (go_at_call 137; (with_reducible refine (hr _).mono ?_); rintro e w' ⟨v, rfl, hv, hb⟩)
        go_ret
        exact ⟨v, rfl, hv, hb⟩
end Go.Proofs.YtlfbdodokldkhaaGreatDoor
namespace Go.Proofs.YtlfbdodokldkhaaGreatDoor
open Go.RowKit NM
theorem ArrIn.part {w : World} {A : Option Addr} {n cap : Nat} {l : List Val} (h : ArrIn w A n cap l) {p m : Nat} (hp : p + m ≤ n) (hm : 0 < m) :
    ∃ b off, A = some ⟨b, off, none⟩ ∧ b < w.heap.size ∧ ∀ j u, (vcells ((l.drop p).take m))[j]? = some u → w.cell? ⟨b, off + p * 6 + j, none⟩ = some u := by
  obtain ⟨x, b, off, hx, _, hA, hv⟩ := h.at (k := p) (by omega)
  refine ⟨b, off, hA, lt_of_cell hv.1, fun j u hu => ?_⟩
  have hl : l = l.take p ++ ((l.drop p).take m ++ (l.drop p).drop m) := by rw [List.take_append_drop, List.take_append_drop]
  have hj : j < (vcells ((l.drop p).take m)).length := (List.getElem?_eq_some_iff.1 hu).1
  have h1 : (vcells l)[p * 6 + j]? = some u := by
    rw [hl, vcells_append, vcells_append]
    have hlp : (vcells (l.take p)).length = p * 6 := by rw [vcells_length, List.length_take]; have := h.len; rw [Nat.min_eq_left (by omega)]
    rw [List.getElem?_append_right (by rw [hlp]; omega), hlp, show p * 6 + j - p * 6 = j by omega, List.getElem?_append_left hj]
    exact hu
  obtain ⟨b', off', hA', _, hc⟩ := h.rd _ _ h1
  rw [hA] at hA'
  simp only [Option.some.injEq, Addr.mk.injEq, and_true] at hA'
  obtain ⟨rfl, rfl⟩ := hA'
  rw [Nat.add_assoc]; exact hc
theorem make_vals (N : Nat) (hN : N ≤ 4096) (W : World) : (Instr.makeSlice 28 (.int .i64 0) (.int .i64 (N : Int))).run Tryz.prog W = .ok (.slice (some ⟨W.heap.size, 0, none⟩) 0 N) (W.alloc (.cells (madeCells #[.int .i64 0, .int .i64 0, .int .i64 0, .string ⟨#[]⟩, .bool false, .int .i64 0] (N * 6)) 39)) := by
  obtain ⟨i0, hi, hz0, hz1, hz2⟩ := info_parts info_val
  have := run_make (P := Tryz.prog) W 28 39 i0 _ Tryz.underlying28 hi hz0 .i64 .i64 0 (N : Int) (by omega) (by omega) (by rw [hz2]; omega) (by omega)
  simpa [hz1, Value.cells] using this
theorem made_own (X : World) (base N : Nat) (hN : N ≤ 4096) (hb : base ≤ X.heap.size) : (X.alloc (.cells (madeCells #[.int .i64 0, .int .i64 0, .int .i64 0, .string ⟨#[]⟩, .bool false, .int .i64 0] (N * 6)) 39)).ownsRow base 39 6 (.slice (some ⟨X.heap.size, 0, none⟩) 0 N) 0 [] := by
  have h0 := World.ownsRow_made (base := base) (e := 39) (size := 6) X (madeCells #[.int .i64 0, .int .i64 0, .int .i64 0, .string ⟨#[]⟩, .bool false, .int .i64 0] (N * 6)) N hb (by simp only [maxLen]; omega) (by rw [size_madeCells])
  exact h0
theorem rows_step {C : Nat} {l : List Val} {ps : List Nat} {k r : Nat} (hr : ps[k]? = some r) : (ps.take (k + 1)).flatMap (rowL C l) = (ps.take k).flatMap (rowL C l) ++ rowL C l r := by
  rw [List.take_add_one, hr, List.flatMap_append]; simp
theorem lt_mul {r R C : Nat} (h : r < R) (hm : R * C ≤ 4096) : r * C + C ≤ R * C ∧ r * C ≤ 4096 := by
  have := Nat.mul_le_mul_right C (show r + 1 ≤ R by omega)
  rw [Nat.add_mul, Nat.one_mul] at this
  omega
set_option maxHeartbeats 4000000 in
theorem rowsOf_any (R C : Nat) (l : List Val) (A : Option Addr) (n cap : Nat) (ps : List Nat) (B : Option Addr) (cb : Nat) (w : World) (h : ArrIn w A n cap l) (hr : NA.right ⟨R, C, l⟩) (hps : Rd 0 w B (i6 ps)) (hcb : ps.length ≤ cb) (hp : ∀ r ∈ ps, r < R) (hm : ps.length * C ≤ 4096) (hm2 : ps.length ≤ 4096) :
    Calls Tryz.prog 96 #[AV R C (.slice A n cap), .slice B ps.length cb] w fun e w' => ResA w (rowsN ⟨R, C, l⟩ ps) e w' := by
  obtain ⟨r1, r2, r3, r4, r5⟩ := rightA_nat.1 hr
  simp only at r1 r2 r3 r4 r5
  have hln := h.len
  obtain ⟨i0, hi0, hz0, hz1, hz2⟩ := info_parts info_val
  have hmk := make_vals (ps.length * C) hm
  have hw0 : IntKind.i64.wrap ((ps.length : Int) * (C : Int)) = ((ps.length * C : Nat) : Int) := by rw [IntKind.wrap_i64, Int.natCast_mul]; rw [← Int.natCast_mul]; omega
  have hres : rowsN ⟨R, C, l⟩ ps = ⟨ps.length, C, ps.flatMap (rowL C l)⟩ := rfl
  have hok : ∀ x ∈ ps.flatMap (rowL C l), x.ok := rowsN_all (a := ⟨R, C, l⟩) r4 hp h.ok
  rw [hres]
  have HO := Lib.hid hok
  have HL := Lib.hid hm
  have hmo := made_own ((w.alloc (Obj.cells #[.int .i64 (R : Int), .int .i64 (C : Int), .slice (A) n cap] 30)).alloc (Obj.cells #[.int .i64 0, .int .i64 0, .slice none 0 0] 30)) ((w.alloc (Obj.cells #[.int .i64 (R : Int), .int .i64 (C : Int), .slice (A) n cap] 30)).alloc (Obj.cells #[.int .i64 0, .int .i64 0, .slice none 0 0] 30)).heap.size (ps.length * C) hm (Nat.le_refl _)
  have hC4 : C ≤ 4096 := Nat.le_trans (Nat.le_mul_of_pos_left C r1) r3
  generalize hN : ps.length * C = N at *
  have HN := Lib.hid hN
  clear hN hres hok
  go_enter Tryz.func96, Tryz.ntmps96
  go_wp2_with fail
  go_loopw [5, 16] (fun v i wr => ∃ k : Nat, k ≤ ps.length ∧ i = .int .i64 (k : Int) ∧ Hid (wr.ownsRow ((w.alloc (Obj.cells #[.int .i64 (R : Int), .int .i64 (C : Int), .slice (A) n cap] 30)).alloc (Obj.cells #[.int .i64 0, .int .i64 0, .slice none 0 0] 30)).heap.size 39 6 v (k * C) (vcells ((ps.take k).flatMap (rowL C l)))) ∧ Ext ((w.alloc (Obj.cells #[.int .i64 (R : Int), .int .i64 (C : Int), .slice (A) n cap] 30)).alloc (Obj.cells #[.int .i64 0, .int .i64 0, .slice none 0 0] 30)) wr) (fun _ i _ => ps.length - (intOf i).toNat)
  case atStart =>
    refine ⟨0, Nat.zero_le _, rfl, ?_, (Ext.refl _).alloc _⟩
    show World.ownsRow _ _ _ _ _ _ _
    rw [Nat.zero_mul]
    simp only [World.size_alloc] at hmo ⊢
    exact hmo
  case round =>
    obtain ⟨k, hk, rfl, HW, hxr⟩ := hrel
    have hsz := hxr.size
    have hx0 := hxr
    obtain ⟨os, d, rfl⟩ := hxr.more
    clear hxr hmo
    by_cases hlt : k < ps.length
    · obtain ⟨r, hrk⟩ : ∃ r, ps[k]? = some r := ⟨_, List.getElem?_eq_getElem hlt⟩
      have hrR : r < R := hp r (List.mem_of_getElem? hrk)
      obtain ⟨m1, m2⟩ := lt_mul hrR r3
      obtain ⟨bp, op, rfl, _, hcp⟩ := hps k (.int .i64 r) (by rw [List.getElem?_map, hrk]; rfl)
      have hbp := lt_of_cell hcp
      obtain ⟨b, off, rfl, hbl, hcell⟩ := h.part (p := r * C) (m := C) (by omega) r2
      have hcap := h.cap
      have hkC : k * C + C ≤ N := by rw [← HN.out]; have := Nat.mul_le_mul_right C (show k + 1 ≤ ps.length by omega); rw [Nat.add_mul, Nat.one_mul] at this; exact this
      have hl6 : (vcells ((l.drop (r * C)).take C)).length = C * 6 := by rw [vcells_length, List.length_take, List.length_drop]; omega
      have hstep := rows_step (C := C) (l := l) hrk
      have e1 : IntKind.i64.wrap ((r : Int) * (C : Int)) = ((r * C : Nat) : Int) := by rw [IntKind.wrap_i64, ← Int.natCast_mul]; omega
      have hrC : r ≤ 4096 := Nat.le_trans (Nat.le_mul_of_pos_right r r2) m2
      have e3 : IntKind.i64.wrap (((r : Int) + 1) * (C : Int)) = ((r * C + C : Nat) : Int) := by
        rw [IntKind.wrap_i64, Int.add_mul, Int.one_mul, ← Int.natCast_mul, ← Int.natCast_add]
        generalize r * C + C = z at *
        omega
      have hne : ¬ cap = r * C := by omega
      have HS := Lib.hid hstep
      have HK := Lib.hid hkC
      generalize hP : r * C = P at *
      have hPC : P + C - P = C := by omega
      clear hstep hkC hrk hr hp
      go_wp2_with (at_builtin; refine wpList_append_own _ rfl _ _ _ rfl ((w.alloc (Obj.cells #[.int .i64 (R : Int), .int .i64 (C : Int), .slice (some ⟨b, off, none⟩) n cap] 30)).alloc (Obj.cells #[.int .i64 0, .int .i64 0, .slice none 0 0] 30)).heap.size 39 i0 (VV 0 0 0 ⟨#[]⟩ false 0) 6 56 Tryz.underlying28 hi0 hz0 hz1 hz2 rfl (by decide) _ (k * C) _ rfl HW.out _ (P + C - P) _ (vcells ((l.drop P).take C)) rfl (by rw [hPC]; exact hl6) (fun j u hu => by rw [Addr.add_mid]; exact (Ext.trans (b := ((w.alloc (Obj.cells #[.int .i64 (R : Int), .int .i64 (C : Int), .slice (some ⟨b, off, none⟩) n cap] 30)).alloc (Obj.cells #[.int .i64 0, .int .i64 0, .slice none 0 0] 30))) (by with_reducible repeat (first | exact Ext.refl _ | apply Ext.drew | apply Ext.alloc | apply Ext.more_)) hx0).cell_some (hcell j u hu)) (fun u hu => vcells_one u hu) (by have := HK.out; rw [hPC]; simp only [maxLen]; omega) (by have := HK.out; rw [hPC]; omega) hsz ?_; intro v4 w4 ho4 hg4 _)
      have hx4 := ext_grownN hx0 HW.out hg4
      refine ⟨⟨k + 1, by omega, by go_num, ?_, hx4⟩, by simp [intOf]; omega⟩
      show World.ownsRow _ _ _ _ _ _ _
      rw [HS.out, vcells_append, show (k + 1) * C = k * C + C by rw [Nat.add_mul, Nat.one_mul]]
      unfold rowL
      rw [hP]
      rw [hPC] at ho4
      exact ho4
    · obtain rfl : k = ps.length := by omega
      have hT : ps.take ps.length = ps := List.take_length
      have HW2 := HW.out
      rw [hT, HN.out] at HW2
      obtain ⟨D, cc, rfl, hD⟩ := own_arrN (w := ((w.alloc (Obj.cells #[.int .i64 (R : Int), .int .i64 (C : Int), .slice (A) n cap] 30)).alloc (Obj.cells #[.int .i64 0, .int .i64 0, .slice none 0 0] 30))) (X := ((w.alloc (Obj.cells #[.int .i64 (R : Int), .int .i64 (C : Int), .slice (A) n cap] 30)).alloc (Obj.cells #[.int .i64 0, .int .i64 0, .slice none 0 0] 30))) HW2 (Nat.le_refl _) (by omega) HO.out
      clear HW HW2 hT
      go_wp2_with (go_at_call 58; (with_reducible refine (made_any _ _ _ _ _ _).mono ?_); rintro e w' ⟨rfl, hb⟩; have hDr := Rd.ext hD.rd hb; obtain ⟨os6, d6, rfl⟩ := hb.more; clear hb)
      exact bodyPost_ret (v := AV ps.length C (.slice D N cc)) (by simp [results, Tryz.results96, go_sem]) rfl ⟨D, N, cc, rfl, ⟨(by (try simp only [more_more] at hDr); (try simp only [drew_more] at hDr); (try simp only [more_drew] at hDr); (try simp only [Array.append_assoc] at hDr); exact Rd.swap hDr (by first | (simp; done) | (simp; omega) | omega) (by first | (simp; done) | (simp; omega) | omega) (by first | (simp; done) | (simp; omega) | omega)), hD.len, hD.cap, hD.small, hD.ok⟩, by with_reducible repeat (first | exact Ext.refl _ | apply Ext.drew | apply Ext.alloc | apply Ext.more_)⟩
set_option maxHeartbeats 4000000 in
theorem colsOf_any (R C : Nat) (l : List Val) (A : Option Addr) (n cap : Nat) (ps : List Nat) (B : Option Addr) (cb : Nat) (w : World) (h : ArrIn w A n cap l) (hr : NA.right ⟨R, C, l⟩) (hps : Rd 0 w B (i6 ps)) (hcb : ps.length ≤ cb) (hp : ∀ r ∈ ps, r < C) (hm : R * ps.length ≤ 4096) (hm2 : ps.length ≤ 4096) :
    Calls Tryz.prog 95 #[AV R C (.slice A n cap), .slice B ps.length cb] w fun e w' => ResA w (colsN ⟨R, C, l⟩ ps) e w' := by
  obtain ⟨r1, r2, r3, r4, r5⟩ := rightA_nat.1 hr
  simp only at r1 r2 r3 r4 r5
  have hln := h.len
  obtain ⟨i0, hi0, hz0, hz1, hz2⟩ := info_parts info_val
  have hmk := make_vals (R * ps.length) hm
  have hw0 : IntKind.i64.wrap ((ps.length : Int) * (R : Int)) = ((R * ps.length : Nat) : Int) := by rw [IntKind.wrap_i64, ← Int.natCast_mul, Nat.mul_comm]; omega
  have hres : colsN ⟨R, C, l⟩ ps = ⟨R, ps.length, vals (fun i j => getV l (i * C + plc ps j)) ps.length (R * ps.length)⟩ := by
    have := colsN_l ⟨R, C, l⟩ ps
    show (⟨R, ps.length, (colsN ⟨R, C, l⟩ ps).l⟩ : NA) = _
    rw [this]
  have hok : ∀ x ∈ (colsN ⟨R, C, l⟩ ps).l, x.ok := colsN_all (a := ⟨R, C, l⟩) r4 hp h.ok
  rw [hres] at hok ⊢
  have HO := Lib.hid hok
  have hmo := made_own ((w.alloc (Obj.cells #[.int .i64 (R : Int), .int .i64 (C : Int), .slice (A) n cap] 30)).alloc (Obj.cells #[.int .i64 0, .int .i64 0, .slice none 0 0] 30)) ((w.alloc (Obj.cells #[.int .i64 (R : Int), .int .i64 (C : Int), .slice (A) n cap] 30)).alloc (Obj.cells #[.int .i64 0, .int .i64 0, .slice none 0 0] 30)).heap.size (R * ps.length) hm (Nat.le_refl _)
  have hC4 : C ≤ 4096 := Nat.le_trans (Nat.le_mul_of_pos_left C r1) r3
  have hR4 : R ≤ 4096 := Nat.le_trans (Nat.le_mul_of_pos_right R r2) r3
  generalize hM : ps.length = M at *
  generalize hN : R * M = N at *
  have HN := Lib.hid hN
  have HM := Lib.hid hM
  clear hN hres hok hM
  go_enter Tryz.func95, Tryz.ntmps95
  go_wp2_with fail
  go_loopw [5, 17] (fun v i wr => ∃ k : Nat, k ≤ R ∧ i = .int .i64 (k : Int) ∧ Hid (wr.ownsRow ((w.alloc (Obj.cells #[.int .i64 (R : Int), .int .i64 (C : Int), .slice (A) n cap] 30)).alloc (Obj.cells #[.int .i64 0, .int .i64 0, .slice none 0 0] 30)).heap.size 39 6 v (k * M) (vcells (vals (fun i j => getV l (i * C + plc ps j)) M (k * M)))) ∧ Ext ((w.alloc (Obj.cells #[.int .i64 (R : Int), .int .i64 (C : Int), .slice (A) n cap] 30)).alloc (Obj.cells #[.int .i64 0, .int .i64 0, .slice none 0 0] 30)) wr) (fun _ i _ => R - (intOf i).toNat)
  case atStart =>
    refine ⟨0, Nat.zero_le _, rfl, ?_, (Ext.refl _).alloc _⟩
    show World.ownsRow _ _ _ _ _ _ _
    rw [Nat.zero_mul]
    simp only [World.size_alloc] at hmo ⊢
    exact hmo
  case round =>
    obtain ⟨r, hk, rfl, HW, hxr⟩ := hrel
    clear hmo
    by_cases hlt : r < R
    · obtain ⟨m1, m2⟩ := lt_mul hlt r3
      have hrM : r * M + M ≤ N := by rw [← HN.out]; have := Nat.mul_le_mul_right M (show r + 1 ≤ R by omega); rw [Nat.add_mul, Nat.one_mul] at this; exact this
      go_wp2_with fail
      obtain ⟨wo, rfl⟩ : ∃ wo : World, wo = wr := ⟨_, rfl⟩
      go_loopw [5, 22] (fun v i wr => ∃ j : Nat, j ≤ M ∧ i = .int .i64 (j : Int) ∧ Hid (wr.ownsRow ((w.alloc (Obj.cells #[.int .i64 (R : Int), .int .i64 (C : Int), .slice (A) n cap] 30)).alloc (Obj.cells #[.int .i64 0, .int .i64 0, .slice none 0 0] 30)).heap.size 39 6 v (r * M + j) (vcells (vals (fun i j => getV l (i * C + plc ps j)) M (r * M + j)))) ∧ Ext ((w.alloc (Obj.cells #[.int .i64 (R : Int), .int .i64 (C : Int), .slice (A) n cap] 30)).alloc (Obj.cells #[.int .i64 0, .int .i64 0, .slice none 0 0] 30)) wr) (fun _ i _ => M - (intOf i).toNat)
      case atStart => exact ⟨0, Nat.zero_le _, rfl, HW, hxr⟩
      case round =>
        obtain ⟨j, hj, rfl, HV, hxv⟩ := hrel
        clear HW hxr
        have hsz := hxv.size
        have hx0 := hxv
        obtain ⟨os, d, rfl⟩ := hxv.more
        clear hxv
        by_cases hjM : j < M
        · obtain ⟨c, hck⟩ : ∃ c, ps[j]? = some c := ⟨_, List.getElem?_eq_getElem (by rw [HM.out]; exact hjM)⟩
          have hcC : c < C := hp c (List.mem_of_getElem? hck)
          have hpj : plc ps j = c := by unfold plc; rw [hck]; rfl
          obtain ⟨bp, op, rfl, _, hcp⟩ := hps j (.int .i64 c) (by rw [List.getElem?_map, hck]; rfl)
          have hbp := lt_of_cell hcp
          obtain ⟨x, b, off, hx, hxo, rfl, ⟨y0, y1, y2, y3, y4, y5⟩⟩ := h.at (k := r * C + c) (by omega)
          have hbl := lt_of_cell y0
          have hcap := h.cap
          have hgx : getV l (r * C + plc ps j) = x := by rw [hpj]; unfold getV; rw [hx]; rfl
          have hstep := vals_succ (fun i j => getV l (i * C + plc ps j)) M r j hjM
          simp only [hgx] at hstep
          have e1 : IntKind.i64.wrap ((r : Int) * (C : Int)) = ((r * C : Nat) : Int) := by rw [IntKind.wrap_i64, ← Int.natCast_mul]; omega
          have e2 : IntKind.i64.wrap (((r * C : Nat) : Int) + (c : Int)) = ((r * C + c : Nat) : Int) := by rw [IntKind.wrap_i64]; generalize r * C = z at *; omega
          have hKn : r * C + c < n := by omega
          have HS := Lib.hid hstep
          generalize hP : r * C = P at *
          generalize hK : P + c = K at *
          have HR := Lib.hid hrM
          clear hstep hck hr hp hx hgx hP hK hpj hrM
          go_wp2_with (at_builtin; refine wpList_append_own _ rfl _ _ _ rfl ((w.alloc (Obj.cells #[.int .i64 (R : Int), .int .i64 (C : Int), .slice (some ⟨b, off, none⟩) n cap] 30)).alloc (Obj.cells #[.int .i64 0, .int .i64 0, .slice none 0 0] 30)).heap.size 39 i0 (VV 0 0 0 ⟨#[]⟩ false 0) 6 56 Tryz.underlying28 hi0 hz0 hz1 hz2 rfl (by decide) _ (r * M + j) _ rfl (own_ext HV.out ((Ext.refl _).alloc _)) _ 1 1 x.cells rfl rfl (new_cells_at _ _ x.cells (by simp) rfl _) (fun u hu => vcells_one (l := [x]) u (by simpa [vcells] using hu)) (by have := HR.out; simp only [maxLen]; omega) (by have := HR.out; omega) (by simp; omega) ?_; intro v4 w4 ho4 hg4 _)
          have hx4 := ext_grownN (hx0.alloc _) (own_ext HV.out ((Ext.refl _).alloc _)) hg4
          refine ⟨⟨j + 1, by omega, by go_num, ?_, hx4⟩, by simp [intOf]; omega⟩
          show World.ownsRow _ _ _ _ _ _ _
          rw [← Nat.add_assoc, HS.out, vcells_append]
          simpa [vcells] using ho4
        · obtain rfl : j = M := by omega
          go_wp2_with fail
          refine ⟨⟨r + 1, by omega, by go_num, ?_, hx0⟩, by simp [intOf]; omega⟩
          show World.ownsRow _ _ _ _ _ _ _
          rw [show (r + 1) * j = r * j + j by rw [Nat.add_mul, Nat.one_mul]]
          exact HV.out
    · obtain rfl : R = r := by omega
      obtain ⟨os, d, rfl⟩ := hxr.more
      clear hxr
      have HW2 := HW.out
      rw [HN.out] at HW2
      obtain ⟨D, cc, rfl, hD⟩ := own_arrN (n := N) (w := ((w.alloc (Obj.cells #[.int .i64 (R : Int), .int .i64 (C : Int), .slice (A) n cap] 30)).alloc (Obj.cells #[.int .i64 0, .int .i64 0, .slice none 0 0] 30))) (X := ((w.alloc (Obj.cells #[.int .i64 (R : Int), .int .i64 (C : Int), .slice (A) n cap] 30)).alloc (Obj.cells #[.int .i64 0, .int .i64 0, .slice none 0 0] 30))) HW2 (Nat.le_refl _) (by omega) HO.out
      clear HW HW2
      go_wp2_with (go_at_call 58; (with_reducible refine (made_any _ _ _ _ _ _).mono ?_); rintro e w' ⟨rfl, hb⟩; have hDr := Rd.ext hD.rd hb; obtain ⟨os6, d6, rfl⟩ := hb.more; clear hb)
      exact bodyPost_ret (v := AV R M (.slice D N cc)) (by simp [results, Tryz.results95, go_sem]) rfl ⟨D, N, cc, rfl, ⟨(by (try simp only [more_more] at hDr); (try simp only [drew_more] at hDr); (try simp only [more_drew] at hDr); (try simp only [Array.append_assoc] at hDr); exact Rd.swap hDr (by first | (simp; done) | (simp; omega) | omega) (by first | (simp; done) | (simp; omega) | omega) (by first | (simp; done) | (simp; omega) | omega)), hD.len, hD.cap, hD.small, hD.ok⟩, by with_reducible repeat (first | exact Ext.refl _ | apply Ext.drew | apply Ext.alloc | apply Ext.more_)⟩
end Go.Proofs.YtlfbdodokldkhaaGreatDoor
namespace Go.Proofs.YtlfbdodokldkhaaGreatDoor
open Go.RowKit NM
theorem rcount_drop (w : World) : Calls Tryz.prog 32 #[.string ⟨#[68, 82, 79, 80]⟩] w fun e w' => e = .returned (.tuple #[.int .i64 1, .int .i64 3]) ∧ Ext w w' := by
  go_enter Tryz.func32, Tryz.ntmps32
  go_wp2
  exact bodyPost_ret (v := .tuple #[.int .i64 1, .int .i64 3]) (by simp [results, Tryz.results32, go_sem]) rfl ⟨rfl, by with_reducible repeat (first | exact Ext.refl _ | apply Ext.drew | apply Ext.alloc | apply Ext.more_)⟩
theorem rcount_filter (w : World) : Calls Tryz.prog 32 #[.string ⟨#[70, 73, 76, 84, 69, 82]⟩] w fun e w' => e = .returned (.tuple #[.int .i64 2, .int .i64 3]) ∧ Ext w w' := by
  go_enter Tryz.func32, Tryz.ntmps32
  go_wp2
  exact bodyPost_ret (v := .tuple #[.int .i64 2, .int .i64 3]) (by simp [results, Tryz.results32, go_sem]) rfl ⟨rfl, by with_reducible repeat (first | exact Ext.refl _ | apply Ext.drew | apply Ext.alloc | apply Ext.more_)⟩
theorem rcount_sequence (w : World) : Calls Tryz.prog 32 #[.string ⟨#[83, 69, 81, 85, 69, 78, 67, 69]⟩] w fun e w' => e = .returned (.tuple #[.int .i64 1, .int .i64 4]) ∧ Ext w w' := by
  go_enter Tryz.func32, Tryz.ntmps32
  go_wp2
  exact bodyPost_ret (v := .tuple #[.int .i64 1, .int .i64 4]) (by simp [results, Tryz.results32, go_sem]) rfl ⟨rfl, by with_reducible repeat (first | exact Ext.refl _ | apply Ext.drew | apply Ext.alloc | apply Ext.more_)⟩
theorem rcount_take (w : World) : Calls Tryz.prog 32 #[.string ⟨#[84, 65, 75, 69]⟩] w fun e w' => e = .returned (.tuple #[.int .i64 1, .int .i64 3]) ∧ Ext w w' := by
  go_enter Tryz.func32, Tryz.ntmps32
  go_wp2
  exact bodyPost_ret (v := .tuple #[.int .i64 1, .int .i64 3]) (by simp [results, Tryz.results32, go_sem]) rfl ⟨rfl, by with_reducible repeat (first | exact Ext.refl _ | apply Ext.drew | apply Ext.alloc | apply Ext.more_)⟩
end Go.Proofs.YtlfbdodokldkhaaGreatDoor
