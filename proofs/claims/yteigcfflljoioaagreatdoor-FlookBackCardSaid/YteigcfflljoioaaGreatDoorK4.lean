/- What the rows' proofs lean on: the contracts of the functions that they reach, and plain facts (part K4). -/
import Derived.WalkKit
import Derived.WalkLawsBesides
import Derived.WalkSpells
import Derived.Outline
import Derived.Below
import Derived.Deep.RegionHeld3
import Derived.Deep.DeepCutAuto
import Derived.Deep.AppendLies
import Derived.Maps.AppendAt
import Derived.Lib.Hide
import Derived.OrdersHeld
import Derived.Test.YteigcfflljoioaaGreatDoorProg
import Derived.Shelf.Strings.Builder1
import Derived.Shelf.Strings.Builder2
import Derived.Shelf.Small.Bits
import Derived.Shelf.Small.Strs
import Derived.Shelf.Strings.BuilderF
import Derived.Shelf.Strconv.Itoa0
import Derived.Shelf.Strconv.Itoa1
import Derived.Shelf.LaysM
import Derived.Shelf.Strconv.Itoa2
import Derived.Shelf.Strings.Prefix
import Derived.Shelf.Bits.Mul64
import Derived.Shelf.Strings.Repeat
import Derived.Lib.ItoaMem
import Derived.Lib.OthersKept
import Derived.Deep.CutBlock
import Derived.Laws.Bits64b
import Derived.Lib.AppendZeros
import Derived.Lib.Bytealg
import Derived.Laws.RangeAny
import Derived.Maps.OwnSet
import Derived.Maps.Own
import Derived.Laws.EntriesVeiled
import Derived.Lib.ConvBytes
import Derived.Lib.SlBytesRow
import Derived.Lib.SmallJoins
import Derived.RegionTactic
import Derived.Test.YteigcfflljoioaaGreatDoorRows
import Derived.Test.YteigcfflljoioaaGreatDoorCards
import Derived.Test.YteigcfflljoioaaGreatDoorTie
import Derived.ProofKit
import Derived.LaidMore
import Derived.OpenShut
import Derived.ShutString
import Derived.ChangeOld
import Derived.Stop.Joined
import Derived.Deep.Slices
import Derived.SevenTiedAt
import Derived.Test.YteigcfflljoioaaGreatDoorK3
set_option linter.unusedSimpArgs false
set_option linter.unusedVariables false
set_option maxRecDepth 100000
namespace Go.Proofs.YteigcfflljoioaaGreatDoor
open Go.RowKit NM
theorem cmp_cnt {a b : Int} (ha : a.natAbs < T 15) (hb : b.natAbs < T 15) : cmpV (cntV a) (cntV b) = (a - b).sign := by
  obtain ⟨_, a1, a2, _⟩ := wholex ha
  obtain ⟨_, b1, b2, _⟩ := wholex hb
  have hk : (cntV a).kind = (cntV b).kind := rfl
  rw [cmpV_same hk, cmpK_same hk, if_pos (show (cntV a).kind = 1 from rfl)]
  show cmpS (wholeN a).1 (wholeN a).2 (wholeN b).1 (wholeN b).2 = _
  rw [cmp_sc a1 b1, a2, b2, sc_whole0, sc_whole0, ← Int.sub_mul, Int.sign_mul]
  have : ((T 100 : Nat) : Int).sign = 1 := Int.sign_eq_one_of_pos (by have := T_pos 100; omega)
  rw [this, Int.mul_one]
set_option maxHeartbeats 1000000 in
theorem number14_any (n : Int) (w : World) (hn : n.natAbs < T 15) :
    Calls Tryz.prog 19 #[.int .i64 n] w fun e w' => e = .returned (VV (cntV n).kind (cntV n).mant (cntV n).exp (cntV n).text (cntV n).truth (cntV n).fault) ∧ Ext w w' := by
  have hi : I64 n := by have : T 15 = 1000000000000000 := (by decide); unfold I64; omega
  have hm := fun W => rmake_any n 0 W hi
  rw [show rnd (decide (n < 0)) n.natAbs false 0 = some (wholeN n) from (wholex hn).1] at hm
  simp only [rnV, rm, re, Option.getD_some, Option.isSome_some] at hm
  have hn1 := fun W => rnumber_any (wholeN n).1 (wholeN n).2 W
  unfold cntV
  clear hn hi
  generalize (wholeN n).1 = m1 at *
  generalize (wholeN n).2 = m2 at *
  go_enter Tryz.func19, Tryz.ntmps19
  go_wp2_with (first | (go_at_call 35; (with_reducible refine (hm _).mono ?_); rintro e w' ⟨rfl, hb⟩; obtain ⟨os, d, rfl⟩ := hb.more; clear hb) | (go_at_call 36; (with_reducible refine (hn1 _).mono ?_); rintro e w' ⟨rfl, hb⟩; obtain ⟨os, d, rfl⟩ := hb.more; clear hb))
  exact bodyPost_ret (v := VV 1 m1 m2 ⟨#[]⟩ false 0) (by simp [results, Tryz.results19, go_sem]) rfl ⟨rfl, by repeat (first | (with_reducible (first | exact Ext.refl _ | exact ext_d _ _ _ _ | exact ext_app _ _ _ _ _ | exact ext_app2 _ _ _ _ _ _ | exact ext_app3 _ _ _ _ _ _ _)) | ((with_reducible refine ext_suffix ⟨_, ?_⟩); (try simp only [Array.append_assoc]); rfl) | (with_reducible (first | apply Ext.drew | apply Ext.alloc | apply Ext.more_)))⟩
theorem row14_any (A : Option Addr) (n cap : Nat) (w : World) :
    Calls Tryz.prog 18 #[.slice A n cap] w fun e w' => e = .returned (AV 1 n (.slice A n cap)) ∧ Ext w w' := by
  go_enter Tryz.func18, Tryz.ntmps18
  go_wp2
  exact bodyPost_ret (v := AV 1 n (.slice A n cap)) (by simp [results, Tryz.results18, go_sem]) rfl ⟨rfl, by repeat (first | (with_reducible (first | exact Ext.refl _ | exact ext_d _ _ _ _ | exact ext_app _ _ _ _ _ | exact ext_app2 _ _ _ _ _ _ | exact ext_app3 _ _ _ _ _ _ _)) | ((with_reducible refine ext_suffix ⟨_, ?_⟩); (try simp only [Array.append_assoc]); rfl) | (with_reducible (first | apply Ext.drew | apply Ext.alloc | apply Ext.more_)))⟩
/-- A new block with arguments, with values. -/
theorem argsIn_new {w : World} {t : TypeId} {p : Nat} {cs : Array Value} (xs : List Ar) (hp : p = w.heap.size) (hc : cs = (acells xs).toArray) {n : Nat} (hn : xs.length = n) (hs : n ≤ 9223372036854775807) (h : ∀ a ∈ xs, ArOk w a) :
    ArgsIn (w.alloc (.cells cs t)) (some ⟨p, 0, none⟩) n n xs :=
  ⟨by subst hp hc; exact Rd.of_row (heap_alloc_new _ _) 0 (Nat.zero_le _), hn, Nat.le_refl _, hs, fun a ha => (h a ha).ext ((Ext.refl _).alloc _)⟩
theorem arrIn_block {w : World} {t : TypeId} {p : Nat} {cs : Array Value} (l : List Val) (h : w.heap[p]? = some (.cells cs t)) (hc : cs = (vcells l).toArray) {n : Nat} (hn : l.length = n) (hs : n ≤ 9223372036854775807) (hok : ∀ x ∈ l, x.ok) :
    ArrIn w (some ⟨p, 0, none⟩) n n l :=
  ⟨by subst hc; exact Rd.of_row h 0 (Nat.zero_le _), hn, Nat.le_refl _, hs, hok⟩
theorem arrIn_new {w : World} {t : TypeId} {p : Nat} {cs : Array Value} (l : List Val) (hp : p = w.heap.size) (hc : cs = (vcells l).toArray) {n : Nat} (hn : l.length = n) (hs : n ≤ 9223372036854775807) (hok : ∀ x ∈ l, x.ok) :
    ArrIn (w.alloc (.cells cs t)) (some ⟨p, 0, none⟩) n n l := by
  subst hp; exact arrIn_block l (heap_alloc_new _ _) hc hn hs hok
/-- An array of one value; one row. -/
def arOne (y : Val) (p : Nat) : Ar := ⟨⟨1, 1, [y]⟩, some ⟨p, 0, none⟩, 1, 1⟩
def arRow (l : List Val) (A : Option Addr) (n cap : Nat) : Ar := ⟨⟨1, l.length, l⟩, A, n, cap⟩
theorem right_row {l : List Val} (h1 : 1 ≤ l.length) (h2 : l.length ≤ 4096) (hr : ∀ x ∈ l, x.right) : NA.right ⟨1, l.length, l⟩ :=
  rightA_nat.2 ⟨Nat.le_refl _, h1, by show 1 * l.length ≤ 4096; omega, by show l.length = 1 * l.length; omega, hr⟩
theorem arOne_ok {w : World} {y : Val} {p : Nat} (h : ArrIn w (some ⟨p, 0, none⟩) 1 1 [y]) (hr : y.right) : ArOk w (arOne y p) :=
  ⟨h, right_row (l := [y]) (by simp) (by simp) (by simpa using hr)⟩
theorem arRow_ok {w : World} {l : List Val} {A : Option Addr} {n cap : Nat} (h : ArrIn w A n cap l) (h1 : 1 ≤ l.length) (h2 : l.length ≤ 4096) (hr : ∀ x ∈ l, x.right) : ArOk w (arRow l A n cap) :=
  ⟨h, right_row h1 h2 hr⟩
abbrev CallPost (w : World) (X : NA) : Ending → World → Prop := fun e w' => ∃ D m cc, e = .returned (.tuple #[AV X.R X.C (.slice D m cc), .bool true]) ∧ ArrN w.heap.size w' D m cc X.l ∧ Ext w w'
theorem call_match2 (A : Option Addr) (cap : Nat) (a p : Ar) (v : Val) (w : World) (htab : Tab w) (h : ArgsIn w A 2 cap [a, p]) (hv : a.x.l[0]? = some v) (hvr : v.right) (h0 : v.kind ≠ 0) (h4 : v.kind ≠ 4)
    (hl : p.x.R ≤ 1 ∨ p.x.C ≤ 1) (X : NA) (hX : placeO (upToN p.x.l v) = X) :
    Calls Tryz.prog 17 #[.string ⟨#[77, 65, 84, 67, 72]⟩, .slice A 2 cap] w (CallPost w X) := by
  subst hX
  exact call_yes ⟨#[77, 65, 84, 67, 72]⟩ 69 2 3 (by decide) rfl (fun args W => by go_simp) A 2 cap [a, p] w h (by decide) (by decide) _ (fun W hW => match2_upTo A cap a p v W (htab.ext hW) (h.ext hW) hv hvr h0 h4 hl)
theorem call_match3 (A : Option Addr) (cap : Nat) (a p q : Ar) (v u : Val) (k : Int) (w : World) (htab : Tab w) (h : ArgsIn w A 3 cap [a, p, q]) (hv : a.x.l[0]? = some v) (hvr : v.right) (h0 : v.kind ≠ 0) (h4 : v.kind ≠ 4)
    (hu : q.x.l[0]? = some u) (hur : u.right) (hk : wholeO u = (k, 0)) (hl : p.x.R ≤ 1 ∨ p.x.C ≤ 1) (X : NA) (hX : k = 0 ∧ placeO (justN p.x.l v) = X ∨ k = 1 ∧ placeO (upToN p.x.l v) = X) :
    Calls Tryz.prog 17 #[.string ⟨#[77, 65, 84, 67, 72]⟩, .slice A 3 cap] w (CallPost w X) := by
  rcases hX with ⟨rfl, rfl⟩ | ⟨rfl, rfl⟩
  · exact call_yes ⟨#[77, 65, 84, 67, 72]⟩ 69 2 3 (by decide) rfl (fun args W => by go_simp) A 3 cap [a, p, q] w h (by decide) (by decide) _ (fun W hW => match3_just A cap a p q v u W (htab.ext hW) (h.ext hW) hv hvr h0 h4 hu hur hk hl)
  · exact call_yes ⟨#[77, 65, 84, 67, 72]⟩ 69 2 3 (by decide) rfl (fun args W => by go_simp) A 3 cap [a, p, q] w h (by decide) (by decide) _ (fun W hW => match3_upTo A cap a p q v u W (htab.ext hW) (h.ext hW) hv hvr h0 h4 hu hur hk hl)
def lA14 : List Val := [cntV 1, cntV 3, cntV 5, cntV 7]
theorem cmp_awake : cmpV (cntV 1) (cntV 4) = -1 ∧ cmpV (cntV 3) (cntV 4) = -1 ∧ cmpV (cntV 5) (cntV 4) = 1 ∧ cmpV (cntV 7) (cntV 4) = 1 :=
  ⟨by rw [cmp_cnt (by decide) (by decide)]; rfl, by rw [cmp_cnt (by decide) (by decide)]; rfl, by rw [cmp_cnt (by decide) (by decide)]; rfl, by rw [cmp_cnt (by decide) (by decide)]; rfl⟩
theorem upTo_awake : placeO (upToN lA14 (cntV 4)) = oneA (cntV 2) := by
  obtain ⟨c1, c3, c5, c7⟩ := cmp_awake
  have hk : ∀ n, (cntV n).kind = 1 := fun _ => rfl
  have : upToN lA14 (cntV 4) = 1 := by simp [upToN, lA14, lastN, stP, hk, c1, c3, c5, c7]
  rw [this]; rfl
theorem just_awake : placeO (justN lA14 (cntV 4)) = oneA (badV 6) := by
  obtain ⟨c1, c3, c5, c7⟩ := cmp_awake
  have hk : ∀ n, (cntV n).kind = 1 := fun _ => rfl
  have : justN lA14 (cntV 4) = -1 := by simp [justN, lA14, firstN, stP, hk, c1, c3, c5, c7]
  rw [this]; rfl
theorem lA14_right : ∀ x ∈ lA14, x.right := by
  intro x hx
  simp only [lA14, List.mem_cons, List.not_mem_nil, or_false] at hx
  rcases hx with rfl | rfl | rfl | rfl <;> exact cnt_right (by decide)
theorem row_at (w : World) (o1 o2 : Obj) (osa osb : Array Obj) (da db : Nat) {W : World} (hW : W = (more ((more w osa da).alloc o1) osb db).alloc o2) : W.heap[w.heap.size + osa.size]? = some o1 ∧ W.heap[w.heap.size + osa.size + 1 + osb.size]? = some o2 ∧ Ext w W := by
  subst hW
  have x0 : Ext ((more w osa da).alloc o1) ((more ((more w osa da).alloc o1) osb db).alloc o2) := by repeat (first | (with_reducible (first | exact Ext.refl _ | exact ext_d _ _ _ _ | exact ext_app _ _ _ _ _ | exact ext_app2 _ _ _ _ _ _ | exact ext_app3 _ _ _ _ _ _ _)) | ((with_reducible refine ext_suffix ⟨_, ?_⟩); (try simp only [Array.append_assoc]); rfl) | (with_reducible (first | apply Ext.drew | apply Ext.alloc | apply Ext.more_)))
  refine ⟨?_, ?_, by repeat (first | (with_reducible (first | exact Ext.refl _ | exact ext_d _ _ _ _ | exact ext_app _ _ _ _ _ | exact ext_app2 _ _ _ _ _ _ | exact ext_app3 _ _ _ _ _ _ _)) | ((with_reducible refine ext_suffix ⟨_, ?_⟩); (try simp only [Array.append_assoc]); rfl) | (with_reducible (first | apply Ext.drew | apply Ext.alloc | apply Ext.more_)))⟩
  · have h := heap_alloc_new (more w osa da) o1
    rw [show (more w osa da).heap.size = w.heap.size + osa.size by simp] at h
    rw [x0.block (b := w.heap.size + osa.size) (by simp)]
    exact h
  · have h := heap_alloc_new (more ((more w osa da).alloc o1) osb db) o2
    rw [show (more ((more w osa da).alloc o1) osb db).heap.size = w.heap.size + osa.size + 1 + osb.size by simp] at h
    exact h
theorem var_at (w : World) (o : Obj) (osa osb : Array Obj) (da db : Nat) {W : World} (hW : W = more ((more w osa da).alloc o) osb db) : W.heap[w.heap.size + osa.size]? = some o ∧ Ext w W := by
  subst hW
  have x0 : Ext ((more w osa da).alloc o) (more ((more w osa da).alloc o) osb db) := by repeat (first | (with_reducible (first | exact Ext.refl _ | exact ext_d _ _ _ _ | exact ext_app _ _ _ _ _ | exact ext_app2 _ _ _ _ _ _ | exact ext_app3 _ _ _ _ _ _ _)) | ((with_reducible refine ext_suffix ⟨_, ?_⟩); (try simp only [Array.append_assoc]); rfl) | (with_reducible (first | apply Ext.drew | apply Ext.alloc | apply Ext.more_)))
  refine ⟨?_, by repeat (first | (with_reducible (first | exact Ext.refl _ | exact ext_d _ _ _ _ | exact ext_app _ _ _ _ _ | exact ext_app2 _ _ _ _ _ _ | exact ext_app3 _ _ _ _ _ _ _)) | ((with_reducible refine ext_suffix ⟨_, ?_⟩); (try simp only [Array.append_assoc]); rfl) | (with_reducible (first | apply Ext.drew | apply Ext.alloc | apply Ext.more_)))⟩
  have h := heap_alloc_new (more w osa da) o
  rw [show (more w osa da).heap.size = w.heap.size + osa.size by simp] at h
  rw [x0.block (b := w.heap.size + osa.size) (by simp)]
  exact h
theorem heap_var (w : World) (o o' : Obj) (osa osb : Array Obj) (da db : Nat) {b : Nat} (hb : b ≠ w.heap.size + osa.size) :
    (more ((more w osa da).alloc o') osb db).heap[b]? = (more ((more w osa da).alloc o) osb db).heap[b]? := by
  simp only [more, World.alloc, Array.getElem?_append, Array.getElem?_push, Array.size_push, Array.size_append]
  by_cases h : b < w.heap.size + osa.size + 1
  · rw [if_pos h, if_pos h, if_neg hb, if_neg hb]
  · rw [if_neg h, if_neg h]
theorem ArrIn.var3 {w : World} {osa osb : Array Obj} {da db : Nat} {p q r u v x : Value} {t : TypeId} {A : Option Addr} {n cap : Nat} {l : List Val}
    (h : ArrIn (more ((more w osa da).alloc (.cells #[p, q, r] t)) osb db) A n cap l) : ArrIn (more ((more w osa da).alloc (.cells #[u, v, x] t)) osb db) A n cap l := by
  refine ⟨fun j y hu => ?_, h.len, h.cap, h.small, h.ok⟩
  obtain ⟨b', off, hA, hl, hc⟩ := h.rd j y hu
  refine ⟨b', off, hA, hl, ?_⟩
  have hne : b' ≠ w.heap.size + osa.size := by
    intro e
    cases l with
    | nil => simp [vcells] at hu
    | cons z l =>
      obtain ⟨b2, off2, hA', _, hc3⟩ := h.rd 3 (.string z.text) (by simp [vcells, Val.cells])
      rw [hA] at hA'
      simp only [Option.some.injEq, Addr.mk.injEq, and_true] at hA'
      obtain ⟨rfl, rfl⟩ := hA'
      subst e
      have hv := (var_at w (.cells #[p, q, r] t) osa osb da db rfl).1
      simp [World.cell?, hv] at hc3
  rw [← hc]
  exact World.cell?_of_block (a := ⟨b', off + j, none⟩) (heap_var w _ _ osa osb da db hne)
set_option maxHeartbeats 4000000 in
theorem awake14_any (w : World) (htab : Tab w) :
    Calls Tryz.prog 11 #[] w fun e w' => e = .returned (.bool true) ∧ Ext w w' := by
  have h1 := fun W => number14_any 1 W (by decide)
  have h3 := fun W => number14_any 3 W (by decide)
  have h5 := fun W => number14_any 5 W (by decide)
  have h7 := fun W => number14_any 7 W (by decide)
  have h4 := fun W => number14_any 4 W (by decide)
  have h0 := fun W => number14_any 0 W (by decide)
  have h2 := fun W => number14_any 2 W (by decide)
  have r4 := cnt_right (n := 4) (by decide)
  have r0 := cnt_right (n := 0) (by decide)
  have r2 := cnt_right (n := 2) (by decide)
  have k0 := whole_cnt (n := 0) (by decide)
  have hu := upTo_awake
  have hj := just_awake
  have hl := lA14_right
  have q4 : (cntV 4).kind ≠ 0 ∧ (cntV 4).kind ≠ 4 := ⟨by decide, by decide⟩
  generalize hy1 : cntV 1 = y1 at *
  generalize hy3 : cntV 3 = y3 at *
  generalize hy5 : cntV 5 = y5 at *
  generalize hy7 : cntV 7 = y7 at *
  have hL : lA14 = [y1, y3, y5, y7] := by unfold lA14; rw [hy1, hy3, hy5, hy7]
  clear hy1 hy3 hy5 hy7
  generalize cntV 4 = y4 at *
  generalize cntV 0 = y0 at *
  generalize cntV 2 = y2 at *
  rw [hL] at hu hj hl
  clear hL
  have HU := Lib.hid hu
  have HJ := Lib.hid hj
  have HK := Lib.hid k0
  have HT := Lib.hid htab
  clear hu hj htab k0
  go_enter Tryz.func11, Tryz.ntmps11
  go_upto_region 2 with (first | (go_at_call 19; (with_reducible refine (h1 _).mono ?_); rintro e w' ⟨rfl, hb⟩; obtain ⟨os1, d1, rfl⟩ := hb.more; clear hb) | (go_at_call 19; (with_reducible refine (h3 _).mono ?_); rintro e w' ⟨rfl, hb⟩; obtain ⟨os3, d3, rfl⟩ := hb.more; clear hb) | (go_at_call 19; (with_reducible refine (h5 _).mono ?_); rintro e w' ⟨rfl, hb⟩; obtain ⟨os5, d5, rfl⟩ := hb.more; clear hb) | (go_at_call 19; (with_reducible refine (h7 _).mono ?_); rintro e w' ⟨rfl, hb⟩; obtain ⟨os7, d7, rfl⟩ := hb.more; clear hb) | (go_at_call 18; (with_reducible refine (row14_any _ _ _ _).mono ?_); rintro e w' ⟨rfl, hb⟩; obtain ⟨os, d, rfl⟩ := hb.more; clear hb))
  refine wp_world fun W0 hW0 => ?_
  obtain ⟨r1, r2, hwW⟩ := row_at _ _ _ _ _ _ _ hW0
  clear hW0
  simp only [Array.size_append] at r1 r2
  generalize hp0 : w.heap.size + (os1.size + (os3.size + (os5.size + os7.size))) = p0 at *
  generalize hpa : p0 + 1 + os.size = pa at *
  have b1 := lt_of_block r1
  have b2 := lt_of_block r2
  have aL := arrIn_block (n := 4) [y1, y3, y5, y7] r1 rfl rfl (by decide) (fun x hx => (hl x hx).ok)
  have a0 : W0.cell? ⟨pa, 0, none⟩ = some (.int .i64 1) := cell_of_row _ _ 0 _ _ _ r2
  have a1 : W0.cell? ⟨pa, 1, none⟩ = some (.int .i64 4) := cell_of_row _ _ 1 _ _ _ r2
  have a2 : W0.cell? ⟨pa, 2, none⟩ = some (.slice (some ⟨p0, 0, none⟩) 4 4) := cell_of_row _ _ 2 _ _ _ r2
  clear r1 r2 hp0 hpa
  refine wp_float [(9, 2, (.cells #[.int .i64 0, .int .i64 0, .slice none 0 0] 34))] [(3, 0), (0, 1), (1, 1), (2, 1), (4, 1), (5, 1), (6, 0), (7, 0), (8, 2)] [10, 11] [10, 11] [8] (by kernel_rfl) (by kernel_rfl) (by kernel_rfl) (fun _ _ d _ _ h => by cases d <;> exact h) (fun _ _ d _ _ h => by cases d <;> exact h) (fun x hx o ho a w => by (obtain rfl := List.mem_singleton.1 hx); (obtain rfl := Option.some.inj ho); (first | rfl | (simp [go_sem, ptrB]; done) | (go_simp; rfl))) ?_
  (refine wpFp_read (v := ?_) rfl ?_ (fun w1 h1 => ?_) ?_; rotate_left 1; rfl; (obtain ⟨os1, d1, rfl⟩ := h1.more; go_simp; first | done | rfl))
  try simp only [Act.put, zqA, zqB, zqC]
  (refine wpFp_eff rfl ?_ (fun wf hXf hE K hK => ?_); rfl; obtain ⟨osf, df, rfl⟩ := hXf.more; go_simp; refine (h4 _).mono ?_; rintro e w' ⟨rfl, hb⟩; refine hK _ _ (fun _ => True) (by (try simp only [more_drew, more_more, Array.append_assoc]); exact hb) (fun _ _ _ _ => trivial) trivial ?_)
  try simp only [Act.put, zqA, zqB, zqC]
  (refine wpFp_eff rfl ?_ (fun wf hXf hE K hK => ?_); rfl; obtain ⟨osf, df, rfl⟩ := hXf.more; go_simp; generalize hp1 : W0.heap.size + osf.size = p1; refine hK _ _ (fun W => ArrIn W (some ⟨p1, 0, none⟩) 1 1 [y4]) (by (try simp only [drew_more]); exact (Ext.refl _).alloc _) (fun _ _ hx h => h.ext hx) (arrIn_new [y4] (by rw [← hp1]; simp) rfl rfl (by decide) (by simpa using r4.ok)) ?_)
  try simp only [Act.put, zqA, zqB, zqC]
  (refine wpFp_eff rfl ?_ (fun wf hXf hE K hK => ?_); rfl; obtain ⟨osf, df, rfl⟩ := hXf.more; go_simp; refine (row14_any _ _ _ _).mono ?_; rintro e w' ⟨rfl, hb⟩; refine hK _ _ (fun W => ArrIn W (some ⟨p1, 0, none⟩) 1 1 [y4]) (by (try simp only [more_drew, more_more, Array.append_assoc]); exact hb) (fun _ _ hx h => h.ext hx) (hE.ext (by (try simp only [more_drew, more_more, Array.append_assoc]); exact hb)) ?_)
  try simp only [Act.put, zqA, zqB, zqC]
  (refine wpFp_eff rfl ?_ (fun wf hXf hE K hK => ?_); rfl; obtain ⟨osf, df, rfl⟩ := hXf.more; go_simp; generalize hp2 : W0.heap.size + osf.size = p2; refine hK _ _ (fun W => ArgsIn W (some ⟨p2, 0, none⟩) 2 2 [arOne y4 p1, arRow [y1, y3, y5, y7] (some ⟨p0, 0, none⟩) 4 4]) (by (try simp only [drew_more]); exact (Ext.refl _).alloc _) (fun _ _ hx h => h.ext hx) (argsIn_new [arOne y4 p1, arRow [y1, y3, y5, y7] (some ⟨p0, 0, none⟩) 4 4] (by rw [← hp2]; simp) rfl rfl (by decide) (by intro a ha; rcases List.mem_cons.1 ha with rfl | ha; exact arOne_ok hE r4; obtain rfl := List.mem_singleton.1 ha; exact arRow_ok (aL.ext (by repeat (first | (with_reducible (first | exact Ext.refl _ | exact ext_d _ _ _ _ | exact ext_app _ _ _ _ _ | exact ext_app2 _ _ _ _ _ _ | exact ext_app3 _ _ _ _ _ _ _)) | ((with_reducible refine ext_suffix ⟨_, ?_⟩); (try simp only [Array.append_assoc]); rfl) | (with_reducible (first | apply Ext.drew | apply Ext.alloc | apply Ext.more_))))) (by simp) (by simp) hl)) ?_)
  try simp only [Act.put, zqA, zqB, zqC]
  (refine wpFp_eff rfl ?_ (fun wf hXf hE K hK => ?_); rfl; obtain ⟨osf, df, rfl⟩ := hXf.more; go_simp; refine (call_match2 _ _ (arOne y4 p1) (arRow [y1, y3, y5, y7] (some ⟨p0, 0, none⟩) 4 4) y4 _ (HT.out.ext (by with_reducible repeat (first | exact Ext.refl _ | exact hwW | apply Ext.drew | apply Ext.alloc | apply Ext.more_))) hE rfl r4 q4.1 q4.2 (Or.inl (Nat.le_refl 1)) _ HU.out).mono ?_; rintro e w' ⟨D2, m2, c2, rfl, hN, hb⟩; refine hK _ _ (fun W => ArrIn W D2 m2 c2 [y2]) (by (try simp only [more_drew, more_more, Array.append_assoc]); exact hb) (fun _ _ hx h => h.ext hx) hN.arr ?_)
  try simp only [Act.put, zqA, zqB, zqC]
  iterate 2 ((refine wpFp_read (v := ?_) rfl ?_ (fun w1 h1 => ?_) ?_; rotate_left 1; rfl; (obtain ⟨os1, d1, rfl⟩ := h1.more; go_simp; first | done | rfl)); try simp only [Act.put, zqA, zqB, zqC])
  (refine wpFp_pure (v := ?_) rfl ?_ (fun w1 => ?_) ?_; rotate_left 1; rfl; (go_simp; first | done | rfl))
  try simp only [Act.put, zqA, zqB, zqC]
  refine wpFp_one fun osa da osb db hE => ?_
  try simp only [Act.put, zqA, zqB, zqC]
  iterate 2 ((refine wpTl_op rfl ?_ (fun K hK => ?_); rfl; go_simp; refine hK _ _ ?_); try simp only [Act.put, zqA, zqB, zqC])
  refine wpTl_nil ?_
  go_upto_region 3 with fail
  refine wp_world fun W1 hW1 => ?_
  obtain ⟨r1, hx01⟩ := var_at _ _ _ _ _ _ hW1
  have aY : ArrIn W1 D2 m2 c2 [y2] := by rw [hW1]; exact hE.var3
  clear hW1 hE
  have hwW1 := hwW.trans hx01
  have c0 := hx01.cell_some a0
  have c1 := hx01.cell_some a1
  have c2 := hx01.cell_some a2
  have aL1 := aL.ext hx01
  have b3 := lt_of_block r1
  have b4 : pa < W1.heap.size := Nat.lt_of_lt_of_le b2 hx01.size
  generalize hpb : W0.heap.size + osa.size = pb at *
  clear a0 a1 a2 aL b1 b2 hpb hwW hx01
  refine wp_float [(12, 4, (.cells #[.int .i64 0, .int .i64 0, .slice none 0 0] 34))] [(3, 0), (0, 1), (1, 1), (2, 1), (4, 1), (5, 1), (6, 1), (7, 1), (8, 1), (9, 0), (10, 0), (11, 2)] [13, 14] [13, 14] [11] (by kernel_rfl) (by kernel_rfl) (by kernel_rfl) (fun _ _ d _ _ h => by cases d <;> exact h) (fun _ _ d _ _ h => by cases d <;> exact h) (fun x hx o ho a w => by (obtain rfl := List.mem_singleton.1 hx); (obtain rfl := Option.some.inj ho); (first | rfl | (simp [go_sem, ptrB]; done) | (go_simp; rfl))) ?_
  (refine wpFp_read (v := ?_) rfl ?_ (fun w1 h1 => ?_) ?_; rotate_left 1; rfl; (obtain ⟨os1, d1, rfl⟩ := h1.more; go_simp; first | done | rfl))
  try simp only [Act.put, zqA, zqB, zqC]
  (refine wpFp_eff rfl ?_ (fun wf hXf hE K hK => ?_); rfl; obtain ⟨osf, df, rfl⟩ := hXf.more; go_simp; refine (h4 _).mono ?_; rintro e w' ⟨rfl, hb⟩; refine hK _ _ (fun _ => True) (by (try simp only [more_drew, more_more, Array.append_assoc]); exact hb) (fun _ _ _ _ => trivial) trivial ?_)
  try simp only [Act.put, zqA, zqB, zqC]
  (refine wpFp_eff rfl ?_ (fun wf hXf hE K hK => ?_); rfl; obtain ⟨osf, df, rfl⟩ := hXf.more; go_simp; generalize hq1 : W1.heap.size + osf.size = q1; refine hK _ _ (fun W => ArrIn W (some ⟨q1, 0, none⟩) 1 1 [y4]) (by (try simp only [drew_more]); exact (Ext.refl _).alloc _) (fun _ _ hx h => h.ext hx) (arrIn_new [y4] (by rw [← hq1]; simp) rfl rfl (by decide) (by simpa using r4.ok)) ?_)
  try simp only [Act.put, zqA, zqB, zqC]
  (refine wpFp_eff rfl ?_ (fun wf hXf hE K hK => ?_); rfl; obtain ⟨osf, df, rfl⟩ := hXf.more; go_simp; refine (row14_any _ _ _ _).mono ?_; rintro e w' ⟨rfl, hb⟩; refine hK _ _ (fun W => ArrIn W (some ⟨q1, 0, none⟩) 1 1 [y4]) (by (try simp only [more_drew, more_more, Array.append_assoc]); exact hb) (fun _ _ hx h => h.ext hx) (hE.ext (by (try simp only [more_drew, more_more, Array.append_assoc]); exact hb)) ?_)
  try simp only [Act.put, zqA, zqB, zqC]
  (refine wpFp_eff rfl ?_ (fun wf hXf hE K hK => ?_); rfl; obtain ⟨osf, df, rfl⟩ := hXf.more; go_simp; refine (h0 _).mono ?_; rintro e w' ⟨rfl, hb⟩; refine hK _ _ (fun W => ArrIn W (some ⟨q1, 0, none⟩) 1 1 [y4]) (by (try simp only [more_drew, more_more, Array.append_assoc]); exact hb) (fun _ _ hx h => h.ext hx) (hE.ext (by (try simp only [more_drew, more_more, Array.append_assoc]); exact hb)) ?_)
  try simp only [Act.put, zqA, zqB, zqC]
  (refine wpFp_eff rfl ?_ (fun wf hXf hE K hK => ?_); rfl; obtain ⟨osf, df, rfl⟩ := hXf.more; go_simp; generalize hq2 : W1.heap.size + osf.size = q2; refine hK _ _ (fun W => ArrIn W (some ⟨q1, 0, none⟩) 1 1 [y4] ∧ ArrIn W (some ⟨q2, 0, none⟩) 1 1 [y0]) (by (try simp only [drew_more]); exact (Ext.refl _).alloc _) (fun _ _ hx h => ⟨h.1.ext hx, h.2.ext hx⟩) ⟨hE.ext ((Ext.refl _).alloc _), arrIn_new [y0] (by rw [← hq2]; simp) rfl rfl (by decide) (by simpa using r0.ok)⟩ ?_)
  try simp only [Act.put, zqA, zqB, zqC]
  (refine wpFp_eff rfl ?_ (fun wf hXf hE K hK => ?_); rfl; obtain ⟨osf, df, rfl⟩ := hXf.more; go_simp; refine (row14_any _ _ _ _).mono ?_; rintro e w' ⟨rfl, hb⟩; refine hK _ _ (fun W => ArrIn W (some ⟨q1, 0, none⟩) 1 1 [y4] ∧ ArrIn W (some ⟨q2, 0, none⟩) 1 1 [y0]) (by (try simp only [more_drew, more_more, Array.append_assoc]); exact hb) (fun _ _ hx h => ⟨h.1.ext hx, h.2.ext hx⟩) ⟨hE.1.ext (by (try simp only [more_drew, more_more, Array.append_assoc]); exact hb), hE.2.ext (by (try simp only [more_drew, more_more, Array.append_assoc]); exact hb)⟩ ?_)
  try simp only [Act.put, zqA, zqB, zqC]
  (refine wpFp_eff rfl ?_ (fun wf hXf hE K hK => ?_); rfl; obtain ⟨osf, df, rfl⟩ := hXf.more; go_simp; generalize hq3 : W1.heap.size + osf.size = q3; refine hK _ _ (fun W => ArgsIn W (some ⟨q3, 0, none⟩) 3 3 [arOne y4 q1, arRow [y1, y3, y5, y7] (some ⟨p0, 0, none⟩) 4 4, arOne y0 q2]) (by (try simp only [drew_more]); exact (Ext.refl _).alloc _) (fun _ _ hx h => h.ext hx) (argsIn_new [arOne y4 q1, arRow [y1, y3, y5, y7] (some ⟨p0, 0, none⟩) 4 4, arOne y0 q2] (by rw [← hq3]; simp) rfl rfl (by decide) (by intro a ha; rcases List.mem_cons.1 ha with rfl | ha; exact arOne_ok hE.1 r4; rcases List.mem_cons.1 ha with rfl | ha; exact arRow_ok (aL1.ext (by repeat (first | (with_reducible (first | exact Ext.refl _ | exact ext_d _ _ _ _ | exact ext_app _ _ _ _ _ | exact ext_app2 _ _ _ _ _ _ | exact ext_app3 _ _ _ _ _ _ _)) | ((with_reducible refine ext_suffix ⟨_, ?_⟩); (try simp only [Array.append_assoc]); rfl) | (with_reducible (first | apply Ext.drew | apply Ext.alloc | apply Ext.more_))))) (by simp) (by simp) hl; obtain rfl := List.mem_singleton.1 ha; exact arOne_ok hE.2 r0)) ?_)
  try simp only [Act.put, zqA, zqB, zqC]
  (refine wpFp_eff rfl ?_ (fun wf hXf hE K hK => ?_); rfl; obtain ⟨osf, df, rfl⟩ := hXf.more; go_simp; refine (call_match3 _ _ (arOne y4 q1) (arRow [y1, y3, y5, y7] (some ⟨p0, 0, none⟩) 4 4) (arOne y0 q2) y4 y0 0 _ (HT.out.ext (hwW1.trans (by repeat (first | (with_reducible (first | exact Ext.refl _ | exact ext_d _ _ _ _ | exact ext_app _ _ _ _ _ | exact ext_app2 _ _ _ _ _ _ | exact ext_app3 _ _ _ _ _ _ _)) | ((with_reducible refine ext_suffix ⟨_, ?_⟩); (try simp only [Array.append_assoc]); rfl) | (with_reducible (first | apply Ext.drew | apply Ext.alloc | apply Ext.more_)))))) hE rfl r4 q4.1 q4.2 rfl r0 HK.out (Or.inl (Nat.le_refl 1)) _ (Or.inl ⟨rfl, HJ.out⟩)).mono ?_; rintro e w' ⟨D3, m3, c3, rfl, hN, hb⟩; refine hK _ _ (fun W => ArrIn W D3 m3 c3 [badV 6]) (by (try simp only [more_drew, more_more, Array.append_assoc]); exact hb) (fun _ _ hx h => h.ext hx) hN.arr ?_)
  try simp only [Act.put, zqA, zqB, zqC]
  iterate 2 ((refine wpFp_read (v := ?_) rfl ?_ (fun w1 h1 => ?_) ?_; rotate_left 1; rfl; (obtain ⟨os1, d1, rfl⟩ := h1.more; go_simp; first | done | rfl)); try simp only [Act.put, zqA, zqB, zqC])
  (refine wpFp_pure (v := ?_) rfl ?_ (fun w1 => ?_) ?_; rotate_left 1; rfl; (go_simp; first | done | rfl))
  try simp only [Act.put, zqA, zqB, zqC]
  refine wpFp_one fun osa da osb db hE => ?_
  try simp only [Act.put, zqA, zqB, zqC]
  iterate 2 ((refine wpTl_op rfl ?_ (fun K hK => ?_); rfl; go_simp; refine hK _ _ ?_); try simp only [Act.put, zqA, zqB, zqC])
  refine wpTl_nil ?_
  go_upto_region 4 with fail
  refine wp_world fun W2 hW2 => ?_
  obtain ⟨r3, hx12⟩ := var_at _ _ _ _ _ _ hW2
  have aZ : ArrIn W2 D3 m3 c3 [badV 6] := by rw [hW2]; exact hE.var3
  clear hW2 hE
  have aY2 := aY.ext hx12
  have hr1 := (hx12.block (lt_of_block r1)).trans r1
  generalize hpc : W1.heap.size + osa.size = pc at *
  have b5 := lt_of_block hr1
  have b6 := lt_of_block r3
  have e0 : W2.cell? ⟨pb, 0, none⟩ = some (.int .i64 (oneA y2).R) := cell_of_row _ _ 0 _ _ _ hr1
  have e1 : W2.cell? ⟨pb, 1, none⟩ = some (.int .i64 (oneA y2).C) := cell_of_row _ _ 1 _ _ _ hr1
  have e2 := cell_of_row _ _ 2 _ _ _ hr1
  have f0 : W2.cell? ⟨pc, 0, none⟩ = some (.int .i64 (oneA (badV 6)).R) := cell_of_row _ _ 0 _ _ _ r3
  have f1 : W2.cell? ⟨pc, 1, none⟩ = some (.int .i64 (oneA (badV 6)).C) := cell_of_row _ _ 1 _ _ _ r3
  have f2 := cell_of_row _ _ 2 _ _ _ r3
  have s1 : sameA (oneA y2).R (oneA y2).C [y2] 1 1 [y2] = true := by simp [sameA, oneA]
  have s2 : sameA (oneA (badV 6)).R (oneA (badV 6)).C [badV 6] 1 1 [badV 6] = true := by simp [sameA, oneA]
  have hwW2 := hwW1.trans hx12
  have ok2 := r2.ok
  clear hr1 r3 r1 hpc aY aL1 b3 b4 c0 c1 hx12
  refine wp_plan (S := Ext _) [(0, 0), (1, 0), (2, 0), (3, 0), (4, 0), (5, 0), (6, 1), (7, 1), (8, 1), (9, 1), (10, 0), (11, 0), (12, 0), (13, 1), (14, 1), (15, 0), (16, 0)] [] (by kernel_rfl) (by kernel_rfl) (by kernel_rfl) (fun _ _ d _ _ h => by cases d <;> exact h) (Ext.drew (Ext.refl _)) ?_
  iterate 2 ((refine wpPl_read (v := ?_) rfl ?_ (fun _ h => ?_) ?_; rotate_left 1; rfl; (obtain ⟨_, _, rfl⟩ := h.more; go_simp; try rfl)); try simp only [Act.put, zqA, zqB, zqC])
  first | (refine wpPl_skip rfl rfl ?_) | (refine wpPl_read (v := ?_) rfl ?_ (fun w1 h1 => ?_) ?_; rotate_left 1; rfl; (obtain ⟨os1, d1, rfl⟩ := h1.more; go_simp; first | done | rfl)) | (refine wpPl_gread (v := ?_) (c := ?_) rfl rfl rfl rfl ?_ (fun hc w1 h1 => ?_) ?_; rotate_left 2; (first | exact gc_t _ | exact gc_f _ | exact gc_gt _ _ | exact gc_gf _ _); (obtain ⟨os1, d1, rfl⟩ := h1.more; (try simp only [gv_of hc]); (try (have hc1 := and_l hc; (try simp only [gv_of hc1]); (try (have hc2 := and_l hc1; (try simp only [gv_of hc2]))))); go_simp; first | done | rfl))
  try simp only [Act.put, zqA, zqB, zqC]
  first | (refine wpPl_pick_and rfl rfl rfl rfl rfl rfl ?_) | (refine wpPl_pick_or rfl rfl rfl rfl rfl rfl ?_) | (refine wpPl_read (v := ?_) rfl ?_ (fun w1 h1 => ?_) ?_; rotate_left 1; rfl; (obtain ⟨os1, d1, rfl⟩ := h1.more; go_simp; first | done | rfl))
  try simp only [Act.put, zqA, zqB, zqC]
  (refine wpPl_read (v := ?_) rfl ?_ (fun _ h => ?_) ?_; rotate_left 1; rfl; (obtain ⟨_, _, rfl⟩ := h.more; go_simp; try rfl))
  try simp only [Act.put, zqA, zqB, zqC]
  first | (refine wpPl_skip rfl rfl ?_) | (refine wpPl_read (v := ?_) rfl ?_ (fun w1 h1 => ?_) ?_; rotate_left 1; rfl; (obtain ⟨os1, d1, rfl⟩ := h1.more; go_simp; first | done | rfl)) | (refine wpPl_gread (v := ?_) (c := ?_) rfl rfl rfl rfl ?_ (fun hc w1 h1 => ?_) ?_; rotate_left 2; (first | exact gc_t _ | exact gc_f _ | exact gc_gt _ _ | exact gc_gf _ _); (obtain ⟨os1, d1, rfl⟩ := h1.more; (try simp only [gv_of hc]); (try (have hc1 := and_l hc; (try simp only [gv_of hc1]); (try (have hc2 := and_l hc1; (try simp only [gv_of hc2]))))); go_simp; first | done | rfl))
  try simp only [Act.put, zqA, zqB, zqC]
  (refine wpPl_eff rfl ?_ (fun K hK => ?_); (first | with_reducible rfl | rfl | (go_simp; done)); go_simp; refine (h2 _).mono ?_; rintro e w' ⟨rfl, hb⟩; obtain ⟨os1, d1, rfl⟩ := hb.more; clear hb; refine hK _ _ ?_ ?_; (repeat (first | (with_reducible (first | exact Ext.refl _ | exact ext_d _ _ _ _ | exact ext_app _ _ _ _ _ | exact ext_app2 _ _ _ _ _ _ | exact ext_app3 _ _ _ _ _ _ _ | exact ext_app4 _ _ _ _ _ _ _ _ | exact ext_app5 _ _ _ _ _ _ _ _ _)) | ((with_reducible refine ext_suffix ⟨_, ?_⟩); (try simp only [Array.append_assoc]); rfl) | (with_reducible (first | apply Ext.drew | apply Ext.alloc | apply Ext.more_)) | apply Ext.drew | apply Ext.alloc | apply Ext.more_)))
  try simp only [Act.put, zqA, zqB, zqC]
  first | (refine wpPl_effskip rfl ?_ ?_ ?_; (first | with_reducible rfl | rfl | (go_simp; done)); (repeat (first | (with_reducible (first | exact Ext.refl _ | exact ext_d _ _ _ _ | exact ext_app _ _ _ _ _ | exact ext_app2 _ _ _ _ _ _ | exact ext_app3 _ _ _ _ _ _ _ | exact ext_app4 _ _ _ _ _ _ _ _ | exact ext_app5 _ _ _ _ _ _ _ _ _)) | ((with_reducible refine ext_suffix ⟨_, ?_⟩); (try simp only [Array.append_assoc]); rfl) | (with_reducible (first | apply Ext.drew | apply Ext.alloc | apply Ext.more_)) | apply Ext.drew | apply Ext.alloc | apply Ext.more_))) | (refine wpPl_eff rfl ?_ (fun K hK => ?_); (first | with_reducible rfl | rfl | (go_simp; done)); go_simp; refine hK _ _ ?_ ?_; (repeat (first | (with_reducible (first | exact Ext.refl _ | exact ext_d _ _ _ _ | exact ext_app _ _ _ _ _ | exact ext_app2 _ _ _ _ _ _ | exact ext_app3 _ _ _ _ _ _ _ | exact ext_app4 _ _ _ _ _ _ _ _ | exact ext_app5 _ _ _ _ _ _ _ _ _)) | ((with_reducible refine ext_suffix ⟨_, ?_⟩); (try simp only [Array.append_assoc]); rfl) | (with_reducible (first | apply Ext.drew | apply Ext.alloc | apply Ext.more_)) | apply Ext.drew | apply Ext.alloc | apply Ext.more_)))
  try simp only [Act.put, zqA, zqB, zqC]
  (refine wpPl_eff rfl ?_ (fun K hK => ?_); (first | with_reducible rfl | rfl | (go_simp; done)); go_simp; refine (row14_any _ _ _ _).mono ?_; rintro e w' ⟨rfl, hb⟩; obtain ⟨os2, d2, rfl⟩ := hb.more; clear hb; refine hK _ _ ?_ ?_; (repeat (first | (with_reducible (first | exact Ext.refl _ | exact ext_d _ _ _ _ | exact ext_app _ _ _ _ _ | exact ext_app2 _ _ _ _ _ _ | exact ext_app3 _ _ _ _ _ _ _ | exact ext_app4 _ _ _ _ _ _ _ _ | exact ext_app5 _ _ _ _ _ _ _ _ _)) | ((with_reducible refine ext_suffix ⟨_, ?_⟩); (try simp only [Array.append_assoc]); rfl) | (with_reducible (first | apply Ext.drew | apply Ext.alloc | apply Ext.more_)) | apply Ext.drew | apply Ext.alloc | apply Ext.more_)))
  try simp only [Act.put, zqA, zqB, zqC]
  (refine wpPl_eff rfl ?_ (fun K hK => ?_); (first | with_reducible rfl | rfl | (go_simp; done)); go_simp; refine (refSame_any _ _ _ _ _ _ _ _ _ _ [y2] [y2] _ (aY2.ext (by repeat (first | (with_reducible (first | exact Ext.refl _ | exact ext_d _ _ _ _ | exact ext_app _ _ _ _ _ | exact ext_app2 _ _ _ _ _ _ | exact ext_app3 _ _ _ _ _ _ _)) | ((with_reducible refine ext_suffix ⟨_, ?_⟩); (try simp only [Array.append_assoc]); rfl) | (with_reducible (first | apply Ext.drew | apply Ext.alloc | apply Ext.more_))))) (by exact ArrIn.ext (arrIn_new [y2] (by simp) rfl rfl (by simp) (by simpa using ok2)) (ext_more _ _ _))).mono ?_; rintro e w' ⟨rfl, hb⟩; obtain ⟨os3, d3, rfl⟩ := hb.more; clear hb; refine hK _ _ ?_ ?_; (repeat (first | (with_reducible (first | exact Ext.refl _ | exact ext_d _ _ _ _ | exact ext_app _ _ _ _ _ | exact ext_app2 _ _ _ _ _ _ | exact ext_app3 _ _ _ _ _ _ _ | exact ext_app4 _ _ _ _ _ _ _ _ | exact ext_app5 _ _ _ _ _ _ _ _ _)) | ((with_reducible refine ext_suffix ⟨_, ?_⟩); (try simp only [Array.append_assoc]); rfl) | (with_reducible (first | apply Ext.drew | apply Ext.alloc | apply Ext.more_)) | apply Ext.drew | apply Ext.alloc | apply Ext.more_)))
  try simp only [Act.put, zqA, zqB, zqC]
  first | (refine wpPl_pick_and rfl rfl rfl rfl rfl rfl ?_) | (refine wpPl_pick_or rfl rfl rfl rfl rfl rfl ?_) | (refine wpPl_read (v := ?_) rfl ?_ (fun w1 h1 => ?_) ?_; rotate_left 1; rfl; (obtain ⟨os1, d1, rfl⟩ := h1.more; go_simp; first | done | rfl))
  try simp only [Act.put, zqA, zqB, zqC]
  (refine wpPl_read (v := ?_) rfl ?_ (fun _ h => ?_) ?_; rotate_left 1; rfl; (obtain ⟨_, _, rfl⟩ := h.more; go_simp; try rfl))
  try simp only [Act.put, zqA, zqB, zqC]
  first | (refine wpPl_skip rfl rfl ?_) | (refine wpPl_read (v := ?_) rfl ?_ (fun w1 h1 => ?_) ?_; rotate_left 1; rfl; (obtain ⟨os1, d1, rfl⟩ := h1.more; go_simp; first | done | rfl)) | (refine wpPl_gread (v := ?_) (c := ?_) rfl rfl rfl rfl ?_ (fun hc w1 h1 => ?_) ?_; rotate_left 2; (first | exact gc_t _ | exact gc_f _ | exact gc_gt _ _ | exact gc_gf _ _); (obtain ⟨os1, d1, rfl⟩ := h1.more; (try simp only [gv_of hc]); (try (have hc1 := and_l hc; (try simp only [gv_of hc1]); (try (have hc2 := and_l hc1; (try simp only [gv_of hc2]))))); go_simp; first | done | rfl))
  try simp only [Act.put, zqA, zqB, zqC]
  (refine wpPl_eff rfl ?_ (fun K hK => ?_); (first | with_reducible rfl | rfl | (go_simp; done)); go_simp; refine (refBad_any _ _).mono ?_; rintro e w' ⟨⟨D4, c4, rfl, hs4, hc4⟩, hb⟩; obtain ⟨os4, d4, rfl⟩ := hb.more; clear hb; (try simp only [more_more, Array.append_assoc] at hs4); refine hK _ _ ?_ ?_; (repeat (first | (with_reducible (first | exact Ext.refl _ | exact ext_d _ _ _ _ | exact ext_app _ _ _ _ _ | exact ext_app2 _ _ _ _ _ _ | exact ext_app3 _ _ _ _ _ _ _ | exact ext_app4 _ _ _ _ _ _ _ _ | exact ext_app5 _ _ _ _ _ _ _ _ _)) | ((with_reducible refine ext_suffix ⟨_, ?_⟩); (try simp only [Array.append_assoc]); rfl) | (with_reducible (first | apply Ext.drew | apply Ext.alloc | apply Ext.more_)) | apply Ext.drew | apply Ext.alloc | apply Ext.more_)))
  try simp only [Act.put, zqA, zqB, zqC]
  (refine wpPl_eff rfl ?_ (fun K hK => ?_); (first | with_reducible rfl | rfl | (go_simp; done)); go_simp; refine (refSame_any _ _ _ _ _ _ _ _ _ _ [badV 6] [badV 6] _ (aZ.ext (by repeat (first | (with_reducible (first | exact Ext.refl _ | exact ext_d _ _ _ _ | exact ext_app _ _ _ _ _ | exact ext_app2 _ _ _ _ _ _ | exact ext_app3 _ _ _ _ _ _ _)) | ((with_reducible refine ext_suffix ⟨_, ?_⟩); (try simp only [Array.append_assoc]); rfl) | (with_reducible (first | apply Ext.drew | apply Ext.alloc | apply Ext.more_))))) (ArrIn.mk (Rd.mono hs4 (Nat.zero_le _)) rfl hc4 (by decide) (by simpa using badV_ok 6 (by unfold I64; omega)))).mono ?_; rintro e w' ⟨rfl, hb⟩; obtain ⟨os5, d5, rfl⟩ := hb.more; clear hb; refine hK _ _ ?_ ?_; (repeat (first | (with_reducible (first | exact Ext.refl _ | exact ext_d _ _ _ _ | exact ext_app _ _ _ _ _ | exact ext_app2 _ _ _ _ _ _ | exact ext_app3 _ _ _ _ _ _ _ | exact ext_app4 _ _ _ _ _ _ _ _ | exact ext_app5 _ _ _ _ _ _ _ _ _)) | ((with_reducible refine ext_suffix ⟨_, ?_⟩); (try simp only [Array.append_assoc]); rfl) | (with_reducible (first | apply Ext.drew | apply Ext.alloc | apply Ext.more_)) | apply Ext.drew | apply Ext.alloc | apply Ext.more_)))
  try simp only [Act.put, zqA, zqB, zqC]
  first | (refine wpPl_pick_and rfl rfl rfl rfl rfl rfl ?_) | (refine wpPl_pick_or rfl rfl rfl rfl rfl rfl ?_) | (refine wpPl_read (v := ?_) rfl ?_ (fun w1 h1 => ?_) ?_; rotate_left 1; rfl; (obtain ⟨os1, d1, rfl⟩ := h1.more; go_simp; first | done | rfl))
  try simp only [Act.put, zqA, zqB, zqC]
  (refine wpPl_read (v := ?_) rfl ?_ (fun _ h => ?_) ?_; rotate_left 1; rfl; (obtain ⟨_, _, rfl⟩ := h.more; go_simp; try rfl))
  try simp only [Act.put, zqA, zqB]
  refine wpPl_nil ?_
  go_wp2_with fail
  go_ret
  exact ⟨rfl, hwW2.trans (by repeat (first | (with_reducible (first | exact Ext.refl _ | exact ext_d _ _ _ _ | exact ext_app _ _ _ _ _ | exact ext_app2 _ _ _ _ _ _ | exact ext_app3 _ _ _ _ _ _ _)) | ((with_reducible refine ext_suffix ⟨_, ?_⟩); (try simp only [Array.append_assoc]); rfl) | (with_reducible (first | apply Ext.drew | apply Ext.alloc | apply Ext.more_))))⟩
end Go.Proofs.YteigcfflljoioaaGreatDoor
namespace Go.Proofs.YteigcfflljoioaaGreatDoor
open Go.RowKit NM
theorem heap_alloc_at {w : World} {o : Obj} {p : Nat} (hp : p = w.heap.size) : (w.alloc o).heap[p]? = some o := by subst hp; exact heap_alloc_new _ _
/-- row of a new block of values. -/
theorem row_new {w0 : World} {t : TypeId} {p : Nat} {cs : Array Value} (l : List Val) (hp : p = w0.heap.size) (hc : cs = (vcells l).toArray) {n : Nat} (hn : l.length = n) (hs : n ≤ 9223372036854775807) (hok : ∀ x ∈ l, x.ok) :
    Calls Tryz.prog 18 #[.slice (some ⟨p, 0, none⟩) n n] (w0.alloc (.cells cs t)) fun e w' => e = .returned (AV 1 n (.slice (some ⟨p, 0, none⟩) n n)) ∧ Ext (w0.alloc (.cells cs t)) w' ∧ ArrIn w' (some ⟨p, 0, none⟩) n n l :=
  (row14_any _ n n _).mono fun e w' ⟨h1, h2⟩ => ⟨h1, h2, (arrIn_new l hp hc hn hs hok).ext h2⟩
/-- Call of MATCH at a new block of arguments. -/
theorem match3_new {w0 : World} {t : TypeId} {b : Nat} {cs : Array Value} (a p q : Ar) (v u : Val) (k : Int) (htab : Tab w0) (hp : b = w0.heap.size) (hc : cs = (acells [a, p, q]).toArray) (ha : ArOk w0 a) (hpk : ArOk w0 p) (hq : ArOk w0 q) (hv : a.x.l[0]? = some v) (hvr : v.right) (h0 : v.kind ≠ 0) (h4 : v.kind ≠ 4)
    (hu : q.x.l[0]? = some u) (hur : u.right) (hk : wholeO u = (k, 0)) (hl : p.x.R ≤ 1 ∨ p.x.C ≤ 1) (X : NA) (hX : k = 0 ∧ placeO (justN p.x.l v) = X ∨ k = 1 ∧ placeO (upToN p.x.l v) = X) :
    Calls Tryz.prog 17 #[.string ⟨#[77, 65, 84, 67, 72]⟩, .slice (some ⟨b, 0, none⟩) 3 3] (w0.alloc (.cells cs t)) (CallPost (w0.alloc (.cells cs t)) X) :=
  call_match3 _ 3 a p q v u k _ (htab.ext ((Ext.refl _).alloc _)) (argsIn_new [a, p, q] hp hc rfl (by decide) (by intro x hx; simp only [List.mem_cons, List.not_mem_nil, or_false] at hx; rcases hx with rfl | rfl | rfl; exact ha; exact hpk; exact hq)) hv hvr h0 h4 hu hur hk hl X hX
theorem row_one {w0 : World} {t : TypeId} {p : Nat} (y : Val) (hok : y.ok) (hp : p = w0.heap.size) :
    Calls Tryz.prog 18 #[.slice (some ⟨p, 0, none⟩) 1 1] (w0.alloc (.cells #[.int .i64 y.kind, .int .i64 y.mant, .int .i64 y.exp, .string y.text, .bool y.truth, .int .i64 y.fault] t)) fun e w' => e = .returned (AV 1 1 (.slice (some ⟨p, 0, none⟩) 1 1)) ∧ Ext (w0.alloc (.cells #[.int .i64 y.kind, .int .i64 y.mant, .int .i64 y.exp, .string y.text, .bool y.truth, .int .i64 y.fault] t)) w' ∧ ArrIn w' (some ⟨p, 0, none⟩) 1 1 [y] :=
  row_new [y] hp rfl rfl (by decide) (by simpa using hok)
theorem match3_place {w0 : World} {t : TypeId} {b pv pk n cap : Nat} {A : Option Addr} (v y : Val) (l : List Val) (k : Int) (htab : Tab w0) (hp : b = w0.heap.size) (hv : ArrIn w0 (some ⟨pv, 0, none⟩) 1 1 [v]) (hl : ArrIn w0 A n cap l) (hy : ArrIn w0 (some ⟨pk, 0, none⟩) 1 1 [y])
    (rv : v.right) (rl : ∀ x ∈ l, x.right) (ry : y.right) (hl1 : 1 ≤ n) (hl2 : n ≤ 4096) (h0 : v.kind ≠ 0) (h4 : v.kind ≠ 4) (hk : wholeO y = (k, 0)) (X : NA) (hX : k = 0 ∧ placeO (justN l v) = X ∨ k = 1 ∧ placeO (upToN l v) = X) :
    Calls Tryz.prog 17 #[.string ⟨#[77, 65, 84, 67, 72]⟩, .slice (some ⟨b, 0, none⟩) 3 3] (w0.alloc (.cells #[.int .i64 1, .int .i64 1, .slice (some ⟨pv, 0, none⟩) 1 1, .int .i64 1, .int .i64 n, .slice A n cap, .int .i64 1, .int .i64 1, .slice (some ⟨pk, 0, none⟩) 1 1] t)) (CallPost (w0.alloc (.cells #[.int .i64 1, .int .i64 1, .slice (some ⟨pv, 0, none⟩) 1 1, .int .i64 1, .int .i64 n, .slice A n cap, .int .i64 1, .int .i64 1, .slice (some ⟨pk, 0, none⟩) 1 1] t)) X) := by
  have hn := hl.len
  subst hn
  exact match3_new (arOne v pv) (arRow l A l.length cap) (arOne y pk) v y k htab hp rfl (arOne_ok hv rv) (arRow_ok hl hl1 hl2 rl) (arOne_ok hy ry) rfl rv h0 h4 rfl ry hk (Or.inl (Nat.le_refl 1)) X hX
set_option maxHeartbeats 4000000 in
theorem place_any (v : Val) (A : Option Addr) (n cap : Nat) (l : List Val) (k t : Int) (w : World) (htab : Tab w) (h : ArrIn w A n cap l) (h1 : 1 ≤ n) (h60 : n ≤ 60) (hr : ∀ x ∈ l, x.right) (hv : v.right) (h0 : v.kind ≠ 0) (h4 : v.kind ≠ 4)
    (hk : k = 0 ∧ t = justN l v ∨ k = 1 ∧ t = upToN l v) :
    Calls Tryz.prog 15 #[VV v.kind v.mant v.exp v.text v.truth v.fault, .slice A n cap, .int .i64 k] w fun e w' => e = .returned (.int .i64 (t + 1)) ∧ Ext w w' := by
  have hlen := h.len
  have hkk : k.natAbs < T 15 := by have : T 15 = 1000000000000000 := (by decide); rcases hk with ⟨rfl, _⟩ | ⟨rfl, _⟩ <;> omega
  have hnum := fun W => number14_any k W hkk
  have hu := whole_cnt hkk
  have ry := cnt_right hkk
  have hX : k = 0 ∧ placeO (justN l v) = placeO t ∨ k = 1 ∧ placeO (upToN l v) = placeO t := by
    rcases hk with ⟨h, rfl⟩ | ⟨h, rfl⟩
    · exact Or.inl ⟨h, rfl⟩
    · exact Or.inr ⟨h, rfl⟩
  have hrg : t = -1 ∨ (0 ≤ t ∧ t < n) := by
    rw [← hlen]
    rcases hk with ⟨_, rfl⟩ | ⟨_, rfl⟩
    · exact justN_range l v
    · exact upToN_range l v
  have hl1 : 1 ≤ l.length := by omega
  have hl2 : l.length ≤ 4096 := by omega
  generalize cntV k = y at *
  have hvo := hv.ok
  have hyo := ry.ok
  have HT := Lib.hid htab
  have HX := Lib.hid hX
  have HU := Lib.hid hu
  clear hk hX hu htab hkk
  go_enter Tryz.func15, Tryz.ntmps15
  clear hl1 hl2 hlen
  go_upto_region 2 with (first | (go_at_call 18; (with_reducible refine (row_one v hvo (by simp)).mono ?_); rintro e w' ⟨rfl, hb, A1⟩; obtain ⟨os1, d1, rfl⟩ := hb.more; clear hb) | (go_at_call 18; (with_reducible refine (row_one y hyo (by simp)).mono ?_); rintro e w' ⟨rfl, hb, A2⟩; obtain ⟨os2, d2, rfl⟩ := hb.more; clear hb) | (go_at_call 18; (with_reducible refine (row14_any A n cap _).mono ?_); rintro e w' ⟨rfl, hb⟩; obtain ⟨os3, d3, rfl⟩ := hb.more; clear hb) | (go_at_call 19; (with_reducible refine (hnum _).mono ?_); rintro e w' ⟨rfl, hb⟩; obtain ⟨os, d, rfl⟩ := hb.more; clear hb) | (go_at_call 17; go_loud ((with_reducible refine (match3_place v y l k (HT.out.ext (by repeat (first | (with_reducible (first | exact Ext.refl _ | exact ext_d _ _ _ _ | exact ext_app _ _ _ _ _ | exact ext_app2 _ _ _ _ _ _ | exact ext_app3 _ _ _ _ _ _ _)) | ((with_reducible refine ext_suffix ⟨_, ?_⟩); (try simp only [Array.append_assoc]); rfl) | (with_reducible (first | apply Ext.drew | apply Ext.alloc | apply Ext.more_))))) (by simp) (A1.ext (by repeat (first | (with_reducible (first | exact Ext.refl _ | exact ext_d _ _ _ _ | exact ext_app _ _ _ _ _ | exact ext_app2 _ _ _ _ _ _ | exact ext_app3 _ _ _ _ _ _ _)) | ((with_reducible refine ext_suffix ⟨_, ?_⟩); (try simp only [Array.append_assoc]); rfl) | (with_reducible (first | apply Ext.drew | apply Ext.alloc | apply Ext.more_))))) (h.ext (by repeat (first | (with_reducible (first | exact Ext.refl _ | exact ext_d _ _ _ _ | exact ext_app _ _ _ _ _ | exact ext_app2 _ _ _ _ _ _ | exact ext_app3 _ _ _ _ _ _ _)) | ((with_reducible refine ext_suffix ⟨_, ?_⟩); (try simp only [Array.append_assoc]); rfl) | (with_reducible (first | apply Ext.drew | apply Ext.alloc | apply Ext.more_))))) (A2.ext (by repeat (first | (with_reducible (first | exact Ext.refl _ | exact ext_d _ _ _ _ | exact ext_app _ _ _ _ _ | exact ext_app2 _ _ _ _ _ _ | exact ext_app3 _ _ _ _ _ _ _)) | ((with_reducible refine ext_suffix ⟨_, ?_⟩); (try simp only [Array.append_assoc]); rfl) | (with_reducible (first | apply Ext.drew | apply Ext.alloc | apply Ext.more_))))) hv hr ry h1 (by omega) h0 h4 HU.out (placeO t) HX.out).mono ?_); rintro e w' ⟨D, m, cc, rfl, hN, hb⟩; obtain ⟨os5, d5, rfl⟩ := hb.more; clear hb)))
  refine wp_world fun W0 hW0 => ?_
  have r1 : W0.heap[w.heap.size + 1 + 1 + (os1.size + (os3.size + os.size)) + 1 + os2.size + 1 + os5.size]? = some (.cells #[.int .i64 (placeO t).R, .int .i64 (placeO t).C, .slice D m cc] 34) := by
    rw [hW0]; exact heap_alloc_at (by simp)
  have hx : Ext w W0 := by rw [hW0]; exact (by repeat (first | (with_reducible (first | exact Ext.refl _ | exact ext_d _ _ _ _ | exact ext_app _ _ _ _ _ | exact ext_app2 _ _ _ _ _ _ | exact ext_app3 _ _ _ _ _ _ _)) | ((with_reducible refine ext_suffix ⟨_, ?_⟩); (try simp only [Array.append_assoc]); rfl) | (with_reducible (first | apply Ext.drew | apply Ext.alloc | apply Ext.more_))))
  have aD : ArrIn W0 D m cc (placeO t).l := by rw [hW0]; exact hN.arr.ext (by repeat (first | (with_reducible (first | exact Ext.refl _ | exact ext_d _ _ _ _ | exact ext_app _ _ _ _ _ | exact ext_app2 _ _ _ _ _ _ | exact ext_app3 _ _ _ _ _ _ _)) | ((with_reducible refine ext_suffix ⟨_, ?_⟩); (try simp only [Array.append_assoc]); rfl) | (with_reducible (first | apply Ext.drew | apply Ext.alloc | apply Ext.more_))))
  clear hW0 hN A1 A2
  generalize w.heap.size + 1 + 1 + (os1.size + (os3.size + os.size)) + 1 + os2.size + 1 + os5.size = pv at *
  have bl := lt_of_block r1
  have f0 : W0.cell? ⟨pv, 0, none⟩ = some (.int .i64 (placeO t).R) := cell_of_row _ _ 0 _ _ _ r1
  have f1 : W0.cell? ⟨pv, 1, none⟩ = some (.int .i64 (placeO t).C) := cell_of_row _ _ 1 _ _ _ r1
  have f2 : W0.cell? ⟨pv, 2, none⟩ = some (.slice D m cc) := cell_of_row _ _ 2 _ _ _ r1
  clear r1 hnum HX HU HT h hv ry hyo hvo hr h1 h0 h4
  by_cases ht : t < 0
  · obtain rfl : t = -1 := by omega
    have hpl : placeO (-1) = oneA (badV 6) := rfl
    rw [hpl] at f0 f1 aD
    have s2 : sameA (oneA (badV 6)).R (oneA (badV 6)).C [badV 6] 1 1 [badV 6] = true := by simp [sameA, oneA]
    clear hpl hrg
    refine wp_plan (S := Ext _) [(0, 0), (1, 0), (2, 0), (3, 1), (4, 1), (5, 0)] [] (by kernel_rfl) (by kernel_rfl) (by kernel_rfl) (fun _ _ d _ _ h => by cases d <;> exact h) (Ext.drew (Ext.refl _)) ?_
    iterate 2 ((refine wpPl_read (v := ?_) rfl ?_ (fun _ h => ?_) ?_; rotate_left 1; rfl; (obtain ⟨_, _, rfl⟩ := h.more; go_simp; try rfl)); try simp only [Act.put, zqA, zqB, zqC])
    first | (refine wpPl_skip rfl rfl ?_) | (refine wpPl_read (v := ?_) rfl ?_ (fun w1 h1 => ?_) ?_; rotate_left 1; rfl; (obtain ⟨os1, d1, rfl⟩ := h1.more; go_simp; first | done | rfl)) | (refine wpPl_gread (v := ?_) (c := ?_) rfl rfl rfl rfl ?_ (fun hc w1 h1 => ?_) ?_; rotate_left 2; (first | exact gc_t _ | exact gc_f _ | exact gc_gt _ _ | exact gc_gf _ _); (obtain ⟨os1, d1, rfl⟩ := h1.more; (try simp only [gv_of hc]); (try (have hc1 := and_l hc; (try simp only [gv_of hc1]); (try (have hc2 := and_l hc1; (try simp only [gv_of hc2]))))); go_simp; first | done | rfl))
    try simp only [Act.put, zqA, zqB, zqC]
    (refine wpPl_eff rfl ?_ (fun K hK => ?_); (first | with_reducible rfl | rfl | (go_simp; done)); go_simp; refine (refBad_any _ _).mono ?_; rintro e w' ⟨⟨D4, c4, rfl, hs4, hc4⟩, hb⟩; obtain ⟨os4, d4, rfl⟩ := hb.more; clear hb; (try simp only [more_more, Array.append_assoc] at hs4); refine hK _ _ ?_ ?_; (repeat (first | (with_reducible (first | exact Ext.refl _ | exact ext_d _ _ _ _ | exact ext_app _ _ _ _ _ | exact ext_app2 _ _ _ _ _ _ | exact ext_app3 _ _ _ _ _ _ _ | exact ext_app4 _ _ _ _ _ _ _ _ | exact ext_app5 _ _ _ _ _ _ _ _ _)) | ((with_reducible refine ext_suffix ⟨_, ?_⟩); (try simp only [Array.append_assoc]); rfl) | (with_reducible (first | apply Ext.drew | apply Ext.alloc | apply Ext.more_)) | apply Ext.drew | apply Ext.alloc | apply Ext.more_)))
    try simp only [Act.put, zqA, zqB, zqC]
    (refine wpPl_eff rfl ?_ (fun K hK => ?_); (first | with_reducible rfl | rfl | (go_simp; done)); go_simp; refine (refSame_any _ _ _ _ _ _ _ _ _ _ [badV 6] [badV 6] _ (aD.ext (by repeat (first | (with_reducible (first | exact Ext.refl _ | exact ext_d _ _ _ _ | exact ext_app _ _ _ _ _ | exact ext_app2 _ _ _ _ _ _ | exact ext_app3 _ _ _ _ _ _ _)) | ((with_reducible refine ext_suffix ⟨_, ?_⟩); (try simp only [Array.append_assoc]); rfl) | (with_reducible (first | apply Ext.drew | apply Ext.alloc | apply Ext.more_))))) (ArrIn.mk (Rd.mono hs4 (Nat.zero_le _)) rfl hc4 (by decide) (by simpa using badV_ok 6 (by unfold I64; omega)))).mono ?_; rintro e w' ⟨rfl, hb⟩; obtain ⟨os6, d6, rfl⟩ := hb.more; clear hb; refine hK _ _ ?_ ?_; (repeat (first | (with_reducible (first | exact Ext.refl _ | exact ext_d _ _ _ _ | exact ext_app _ _ _ _ _ | exact ext_app2 _ _ _ _ _ _ | exact ext_app3 _ _ _ _ _ _ _ | exact ext_app4 _ _ _ _ _ _ _ _ | exact ext_app5 _ _ _ _ _ _ _ _ _)) | ((with_reducible refine ext_suffix ⟨_, ?_⟩); (try simp only [Array.append_assoc]); rfl) | (with_reducible (first | apply Ext.drew | apply Ext.alloc | apply Ext.more_)) | apply Ext.drew | apply Ext.alloc | apply Ext.more_)))
    try simp only [Act.put, zqA, zqB, zqC]
    first | (refine wpPl_pick_and rfl rfl rfl rfl rfl rfl ?_) | (refine wpPl_pick_or rfl rfl rfl rfl rfl rfl ?_) | (refine wpPl_read (v := ?_) rfl ?_ (fun w1 h1 => ?_) ?_; rotate_left 1; rfl; (obtain ⟨os1, d1, rfl⟩ := h1.more; go_simp; first | done | rfl))
    try simp only [Act.put, zqA, zqB, zqC]
    refine wpPl_nil ?_
    go_wp2_with fail
    exact bodyPost_ret (v := .int .i64 0) (by simp [results, Tryz.results15, go_sem]) rfl ⟨rfl, hx.trans (by repeat (first | (with_reducible (first | exact Ext.refl _ | exact ext_d _ _ _ _ | exact ext_app _ _ _ _ _ | exact ext_app2 _ _ _ _ _ _ | exact ext_app3 _ _ _ _ _ _ _)) | ((with_reducible refine ext_suffix ⟨_, ?_⟩); (try simp only [Array.append_assoc]); rfl) | (with_reducible (first | apply Ext.drew | apply Ext.alloc | apply Ext.more_))))⟩
  · have htb : (t + 1).natAbs < T 15 := by have : T 15 = 1000000000000000 := (by decide); omega
    have hpl : placeO t = oneA (cntV (t + 1)) := by unfold placeO; rw [if_neg ht]
    rw [hpl] at f0 f1 aD
    have rc := cnt_right htb
    have hin := fun W => rint_any (wholeN (t + 1)).1 (wholeN (t + 1)).2 W (rt_i64 (wholex htb).2.1)
    rw [int_whole htb] at hin
    simp only [inV, Option.getD_some, Option.isSome_some] at hin
    have s2 : sameA (oneA (cntV (t + 1))).R (oneA (cntV (t + 1))).C [cntV (t + 1)] 1 1 [badV 6] = false := by simp [sameA, oneA, cntV, badV]
    have aD : ArrIn W0 D m cc [cntV (t + 1)] := aD
    obtain ⟨x, b, off, hx0, hxo, rfl, hat⟩ := aD.at (k := 0) (by rw [← aD.len]; exact Nat.one_pos)
    obtain rfl : x = cntV (t + 1) := by simpa [oneA] using hx0.symm
    have hm1 : m = 1 := aD.len.symm
    subst hm1
    obtain ⟨v0, v1, v2, v3, v4, v5⟩ := hat
    simp only [Nat.zero_mul, Nat.add_zero] at v0 v1 v2 v3 v4 v5
    have hbl : b < W0.heap.size := lt_of_cell v0
    unfold cntV at v0 v1 v2
    simp only at v0 v1 v2
    generalize hwn : wholeN (t + 1) = p at *
    clear hpl hrg htb ht hx0 hxo rc v3 v4 v5
    refine wp_plan (S := Ext _) [(0, 0), (1, 0), (2, 0), (3, 1), (4, 1), (5, 0)] [] (by kernel_rfl) (by kernel_rfl) (by kernel_rfl) (fun _ _ d _ _ h => by cases d <;> exact h) (Ext.drew (Ext.refl _)) ?_
    iterate 2 ((refine wpPl_read (v := ?_) rfl ?_ (fun _ h => ?_) ?_; rotate_left 1; rfl; (obtain ⟨_, _, rfl⟩ := h.more; go_simp; try rfl)); try simp only [Act.put, zqA, zqB, zqC])
    first | (refine wpPl_skip rfl rfl ?_) | (refine wpPl_read (v := ?_) rfl ?_ (fun w1 h1 => ?_) ?_; rotate_left 1; rfl; (obtain ⟨os1, d1, rfl⟩ := h1.more; go_simp; first | done | rfl)) | (refine wpPl_gread (v := ?_) (c := ?_) rfl rfl rfl rfl ?_ (fun hc w1 h1 => ?_) ?_; rotate_left 2; (first | exact gc_t _ | exact gc_f _ | exact gc_gt _ _ | exact gc_gf _ _); (obtain ⟨os1, d1, rfl⟩ := h1.more; (try simp only [gv_of hc]); (try (have hc1 := and_l hc; (try simp only [gv_of hc1]); (try (have hc2 := and_l hc1; (try simp only [gv_of hc2]))))); go_simp; first | done | rfl))
    try simp only [Act.put, zqA, zqB, zqC]
    (refine wpPl_eff rfl ?_ (fun K hK => ?_); (first | with_reducible rfl | rfl | (go_simp; done)); go_simp; refine (refBad_any _ _).mono ?_; rintro e w' ⟨⟨D4, c4, rfl, hs4, hc4⟩, hb⟩; obtain ⟨os4, d4, rfl⟩ := hb.more; clear hb; (try simp only [more_more, Array.append_assoc] at hs4); refine hK _ _ ?_ ?_; (repeat (first | (with_reducible (first | exact Ext.refl _ | exact ext_d _ _ _ _ | exact ext_app _ _ _ _ _ | exact ext_app2 _ _ _ _ _ _ | exact ext_app3 _ _ _ _ _ _ _ | exact ext_app4 _ _ _ _ _ _ _ _ | exact ext_app5 _ _ _ _ _ _ _ _ _)) | ((with_reducible refine ext_suffix ⟨_, ?_⟩); (try simp only [Array.append_assoc]); rfl) | (with_reducible (first | apply Ext.drew | apply Ext.alloc | apply Ext.more_)) | apply Ext.drew | apply Ext.alloc | apply Ext.more_)))
    try simp only [Act.put, zqA, zqB, zqC]
    (refine wpPl_eff rfl ?_ (fun K hK => ?_); (first | with_reducible rfl | rfl | (go_simp; done)); go_simp; refine (refSame_any _ _ _ _ _ _ _ _ _ _ [cntV (t + 1)] [badV 6] _ (aD.ext (by repeat (first | (with_reducible (first | exact Ext.refl _ | exact ext_d _ _ _ _ | exact ext_app _ _ _ _ _ | exact ext_app2 _ _ _ _ _ _ | exact ext_app3 _ _ _ _ _ _ _)) | ((with_reducible refine ext_suffix ⟨_, ?_⟩); (try simp only [Array.append_assoc]); rfl) | (with_reducible (first | apply Ext.drew | apply Ext.alloc | apply Ext.more_))))) (ArrIn.mk (Rd.mono hs4 (Nat.zero_le _)) rfl hc4 (by decide) (by simpa using badV_ok 6 (by unfold I64; omega)))).mono ?_; rintro e w' ⟨rfl, hb⟩; obtain ⟨os6, d6, rfl⟩ := hb.more; clear hb; refine hK _ _ ?_ ?_; (repeat (first | (with_reducible (first | exact Ext.refl _ | exact ext_d _ _ _ _ | exact ext_app _ _ _ _ _ | exact ext_app2 _ _ _ _ _ _ | exact ext_app3 _ _ _ _ _ _ _ | exact ext_app4 _ _ _ _ _ _ _ _ | exact ext_app5 _ _ _ _ _ _ _ _ _)) | ((with_reducible refine ext_suffix ⟨_, ?_⟩); (try simp only [Array.append_assoc]); rfl) | (with_reducible (first | apply Ext.drew | apply Ext.alloc | apply Ext.more_)) | apply Ext.drew | apply Ext.alloc | apply Ext.more_)))
    try simp only [Act.put, zqA, zqB, zqC]
    first | (refine wpPl_pick_and rfl rfl rfl rfl rfl rfl ?_) | (refine wpPl_pick_or rfl rfl rfl rfl rfl rfl ?_) | (refine wpPl_read (v := ?_) rfl ?_ (fun w1 h1 => ?_) ?_; rotate_left 1; rfl; (obtain ⟨os1, d1, rfl⟩ := h1.more; go_simp; first | done | rfl))
    try simp only [Act.put, zqA, zqB, zqC]
    refine wpPl_nil ?_
    go_wp2_with (go_at_call 40; (with_reducible refine (hin _).mono ?_); rintro e w' ⟨rfl, hb⟩; obtain ⟨os, d, rfl⟩ := hb.more; clear hb)
    · rename_i hbad; exact absurd (hbad.2.symm.trans s2) (by decide)
    exact bodyPost_ret (v := .int .i64 (t + 1)) (by simp [results, Tryz.results15, go_sem]) rfl ⟨rfl, hx.trans (by repeat (first | (with_reducible (first | exact Ext.refl _ | exact ext_d _ _ _ _ | exact ext_app _ _ _ _ _ | exact ext_app2 _ _ _ _ _ _ | exact ext_app3 _ _ _ _ _ _ _)) | ((with_reducible refine ext_suffix ⟨_, ?_⟩); (try simp only [Array.append_assoc]); rfl) | (with_reducible (first | apply Ext.drew | apply Ext.alloc | apply Ext.more_))))⟩
end Go.Proofs.YteigcfflljoioaaGreatDoor
namespace Go.Proofs.YteigcfflljoioaaGreatDoor
open Go.RowKit NM
set_option maxHeartbeats 1000000 in
theorem rcompare_nz (a b : Val) (w : World) (ha : a.ok) (hb : b.ok) (h1 : a.kind ≠ 0) (h2 : b.kind ≠ 0) :
    Calls Tryz.prog 16 #[VV a.kind a.mant a.exp a.text a.truth a.fault, VV b.kind b.mant b.exp b.text b.truth b.fault] w fun e w' => e = .returned (.int .i64 (rcmpK a b)) ∧ Ext w w' := by
  obtain ⟨_, am1, _, at1, _⟩ := ha
  obtain ⟨_, bm1, _, bt1, _⟩ := hb
  obtain ⟨ak, am, ae, at_, ab, af⟩ := a
  obtain ⟨bk, bm, be, bt, bb, bf⟩ := b
  simp only at *
  have q1 : (ak == 0) = false := by simpa using h1
  have q2 : (bk == 0) = false := by simpa using h2
  by_cases hk : ak = bk
  · subst hk
    by_cases k1 : ak = 1
    · subst k1
      have hc := fun W => rcmp_any am ae bm be W am1 bm1
      have hz : rcmpK ⟨1, am, ae, at_, ab, af⟩ ⟨1, bm, be, bt, bb, bf⟩ = cmpS am ae bm be := by unfold rcmpK; simp
      rw [hz]
      clear hz q1 q2 h1 h2 at1 bt1 am1 bm1
      generalize cmpS am ae bm be = z at *
      go_enter Tryz.func16, Tryz.ntmps16
      go_wp2_with ((go_at_call 41; (with_reducible refine (hc _).mono ?_); rintro e w' ⟨rfl, hb⟩; obtain ⟨os, d, rfl⟩ := hb.more; clear hb))
      go_ret
      exact ⟨rfl, by with_reducible repeat (first | exact Ext.refl _ | apply Ext.drew | apply Ext.alloc | apply Ext.more_)⟩
    · by_cases k2 : ak = 2
      · subst k2
        have hz : rcmpK ⟨2, am, ae, at_, ab, af⟩ ⟨2, bm, be, bt, bb, bf⟩ = Lib.compareBytes (tl (foldB at_)) (tl (foldB bt)) := by
          unfold rcmpK; simp only [ne_eq, not_true_eq_false, if_false, if_true]
          rw [if_neg (by decide)]; exact sgn2_cb _ _
        rw [hz]
        have g1 := fun W => rfold_any at_ W (by omega)
        have g2 := fun W => rfold_any bt W (by omega)
        generalize foldB at_ = X at *
        generalize foldB bt = Y at *
        have hs := fun W => rsign_any (Op.bytesLess X.toList Y.toList) (!Op.bytesLess X.toList Y.toList && !X.toList == Y.toList) W
        have he : sgn2 (Op.bytesLess X.toList Y.toList) (!Op.bytesLess X.toList Y.toList && !X.toList == Y.toList) = Lib.compareBytes (tl X) (tl Y) := by rw [ByteArray.toList_eq, ByteArray.toList_eq, ← Bool.not_or]; exact sgn2_cb _ _
        rw [he] at hs
        clear he hz q1 q2 h1 h2 at1 bt1 am1 bm1 k1
        generalize Lib.compareBytes (tl X) (tl Y) = z at *
        go_enter Tryz.func16, Tryz.ntmps16
        go_upto_region 10 with fail
        refine wp_plan (S := Ext _) [(0, 0), (1, 0), (3, 0), (4, 0), (2, 1), (5, 1), (6, 0), (7, 0)] [] (by kernel_rfl) (by kernel_rfl) (by kernel_rfl) (fun _ _ d _ _ h => by cases d <;> exact h) (Ext.drew (Ext.refl _)) ?_
        iterate 4 ((refine wpPl_read (v := ?_) rfl ?_ (fun _ h => ?_) ?_; rotate_left 1; rfl; (obtain ⟨_, _, rfl⟩ := h.more; go_simp; try rfl)); try simp only [Act.put, zqA, zqB, zqC])
        (refine wpPl_eff rfl ?_ (fun K hK => ?_); rfl; go_simp; refine (g1 _).mono ?_; rintro e w' ⟨rfl, hb⟩; obtain ⟨os1, d1, rfl⟩ := hb.more; clear hb; refine hK _ _ ?_ ?_; (repeat (first | (with_reducible (first | exact Ext.refl _ | exact ext_d _ _ _ _ | exact ext_app _ _ _ _ _ | exact ext_app2 _ _ _ _ _ _ | exact ext_app3 _ _ _ _ _ _ _ | exact ext_app4 _ _ _ _ _ _ _ _ | exact ext_app5 _ _ _ _ _ _ _ _ _)) | ((with_reducible refine ext_suffix ⟨_, ?_⟩); (try simp only [Array.append_assoc]); rfl) | (with_reducible (first | apply Ext.drew | apply Ext.alloc | apply Ext.more_)) | apply Ext.drew | apply Ext.alloc | apply Ext.more_)))
        try simp only [Act.put, zqA, zqB, zqC]
        (refine wpPl_eff rfl ?_ (fun K hK => ?_); rfl; go_simp; refine (g2 _).mono ?_; rintro e w' ⟨rfl, hb⟩; obtain ⟨os2, d2, rfl⟩ := hb.more; clear hb; refine hK _ _ ?_ ?_; (repeat (first | (with_reducible (first | exact Ext.refl _ | exact ext_d _ _ _ _ | exact ext_app _ _ _ _ _ | exact ext_app2 _ _ _ _ _ _ | exact ext_app3 _ _ _ _ _ _ _ | exact ext_app4 _ _ _ _ _ _ _ _ | exact ext_app5 _ _ _ _ _ _ _ _ _)) | ((with_reducible refine ext_suffix ⟨_, ?_⟩); (try simp only [Array.append_assoc]); rfl) | (with_reducible (first | apply Ext.drew | apply Ext.alloc | apply Ext.more_)) | apply Ext.drew | apply Ext.alloc | apply Ext.more_)))
        try simp only [Act.put, zqA, zqB, zqC]
        iterate 2 ((refine wpPl_read (v := ?_) rfl ?_ (fun _ h => ?_) ?_; rotate_left 1; rfl; (obtain ⟨_, _, rfl⟩ := h.more; go_simp; try rfl)); try simp only [Act.put, zqA, zqB, zqC])
        refine wpPl_nil ?_
        go_wp2_with (go_at_call 39; refine (hs _).mono ?_; rintro e w' ⟨rfl, hb⟩; obtain ⟨os, d, rfl⟩ := hb.more; clear hb)
        go_ret
        exact ⟨rfl, by with_reducible repeat (first | exact Ext.refl _ | apply Ext.drew | apply Ext.alloc | apply Ext.more_)⟩
      · by_cases k3 : ak = 3
        · subst k3
          have hz : rcmpK ⟨3, am, ae, at_, ab, af⟩ ⟨3, bm, be, bt, bb, bf⟩ = sgB ab bb := by unfold rcmpK; simp only [ne_eq, not_true_eq_false, if_false, if_true]; rw [if_neg (by decide), if_neg (by decide)]; exact sgn2_bool _ _
          rw [hz]
          have hs := fun W => rsign_any (!ab && bb) (ab && !bb) W
          rw [sgn2_bool] at hs
          clear hz q1 q2 h1 h2 at1 bt1 am1 bm1 k1 k2
          cases ab <;> cases bb
          all_goals
            go_enter Tryz.func16, Tryz.ntmps16
            go_wp2_with (go_at_call 39; refine (hs _).mono ?_; rintro e w' ⟨rfl, hb⟩; obtain ⟨os, d, rfl⟩ := hb.more; clear hb)
            go_ret
            exact ⟨rfl, by with_reducible repeat (first | exact Ext.refl _ | apply Ext.drew | apply Ext.alloc | apply Ext.more_)⟩
        · have hz : rcmpK ⟨ak, am, ae, at_, ab, af⟩ ⟨ak, bm, be, bt, bb, bf⟩ = sgI af bf := by unfold rcmpK; simp only [ne_eq, not_true_eq_false, if_false, k1, k2, k3]; exact sgn2_int _ _
          rw [hz]
          have hs := fun W => rsign_any (decide (af < bf)) (decide (bf < af)) W
          rw [sgn2_int] at hs
          have q3 : (ak == 1) = false := by simpa using k1
          have q4 : (ak == 2) = false := by simpa using k2
          have q5 : (ak == 3) = false := by simpa using k3
          clear hz h1 h2 at1 bt1 am1 bm1 k1 k2 k3
          generalize sgI af bf = z at *
          go_enter Tryz.func16, Tryz.ntmps16
          go_wp2_with (go_at_call 39; refine (hs _).mono ?_; rintro e w' ⟨rfl, hb⟩; obtain ⟨os, d, rfl⟩ := hb.more; clear hb)
          go_ret
          exact ⟨rfl, by with_reducible repeat (first | exact Ext.refl _ | apply Ext.drew | apply Ext.alloc | apply Ext.more_)⟩
  · have hz : rcmpK ⟨ak, am, ae, at_, ab, af⟩ ⟨bk, bm, be, bt, bb, bf⟩ = sgn2 (decide (ak < bk)) true := by unfold rcmpK; simp only [ne_eq, hk, not_false_eq_true, if_true]
    rw [hz]
    have hs := fun W => rsign_any (decide (ak < bk)) true W
    have q3 : (ak != bk) = true := by simpa using hk
    clear hz h1 h2 at1 bt1 am1 bm1 hk
    generalize sgn2 (decide (ak < bk)) true = z at *
    go_enter Tryz.func16, Tryz.ntmps16
    go_wp2_with (go_at_call 39; refine (hs _).mono ?_; rintro e w' ⟨rfl, hb⟩; obtain ⟨os, d, rfl⟩ := hb.more; clear hb)
    go_ret
    exact ⟨rfl, by with_reducible repeat (first | exact Ext.refl _ | apply Ext.drew | apply Ext.alloc | apply Ext.more_)⟩
theorem rordV_nz {a b : Val} (h1 : a.kind ≠ 0) (h2 : b.kind ≠ 0) : rordV a b = rcmpK a b := by
  unfold rordV rcmpV rbesA
  rw [if_neg (by simp [h1, h2]), if_neg (by simp [h1]), if_neg (by simp [h2])]
set_option maxHeartbeats 1000000 in
theorem rorder_all (a b : Val) (w : World) (ha : a.ok) (hb : b.ok) :
    Calls Tryz.prog 14 #[VV a.kind a.mant a.exp a.text a.truth a.fault, VV b.kind b.mant b.exp b.text b.truth b.fault] w fun e w' => e = .returned (.int .i64 (rordV a b)) ∧ Ext w w' := by
  by_cases h1 : a.kind = 0
  · have q1 : (a.kind == 0) = true := by simpa using h1
    have q3 : (a.kind != 0) = false := by simp [h1]
    by_cases h2 : b.kind = 0
    · have q2 : (b.kind == 0) = true := by simpa using h2
      have q4 : (b.kind != 0) = false := by simp [h2]
      have hs := fun W => rsign_any false false W
      have hc := hs
      have ho : rordV a b = sgn2 false false := by unfold rordV; simp [h1, h2]
      rw [ho]
      clear ho h1 h2 ha hb; generalize a.kind = xk at *; generalize a.mant = xm at *; generalize a.exp = xe at *; generalize a.text = xt at *; generalize a.truth = xb at *; generalize a.fault = xf at *; generalize b.kind = yk at *; generalize b.mant = ym at *; generalize b.exp = ye at *; generalize b.text = yt at *; generalize b.truth = yb at *; generalize b.fault = yf at *; go_enter Tryz.func14, Tryz.ntmps14; go_wp2_with (first | (go_at_call 39; (with_reducible refine (hs _).mono ?_); rintro e w' ⟨rfl, hb⟩; obtain ⟨os, d, rfl⟩ := hb.more; clear hb) | (go_at_call 16; (with_reducible refine (hc _).mono ?_); rintro e w' ⟨rfl, hb⟩; obtain ⟨os, d, rfl⟩ := hb.more; clear hb)); go_ret; exact ⟨rfl, by with_reducible repeat (first | exact Ext.refl _ | apply Ext.drew | apply Ext.alloc | apply Ext.more_)⟩
    · have q2 : (b.kind == 0) = false := by simpa using h2
      have q4 : (b.kind != 0) = true := by simpa using h2
      have hs := fun W => rsign_any false true W
      have hc := hs
      have ho : rordV a b = sgn2 false true := by unfold rordV; simp [h1, h2]
      rw [ho]
      clear ho h1 h2 ha hb; generalize a.kind = xk at *; generalize a.mant = xm at *; generalize a.exp = xe at *; generalize a.text = xt at *; generalize a.truth = xb at *; generalize a.fault = xf at *; generalize b.kind = yk at *; generalize b.mant = ym at *; generalize b.exp = ye at *; generalize b.text = yt at *; generalize b.truth = yb at *; generalize b.fault = yf at *; go_enter Tryz.func14, Tryz.ntmps14; go_wp2_with (first | (go_at_call 39; (with_reducible refine (hs _).mono ?_); rintro e w' ⟨rfl, hb⟩; obtain ⟨os, d, rfl⟩ := hb.more; clear hb) | (go_at_call 16; (with_reducible refine (hc _).mono ?_); rintro e w' ⟨rfl, hb⟩; obtain ⟨os, d, rfl⟩ := hb.more; clear hb)); go_ret; exact ⟨rfl, by with_reducible repeat (first | exact Ext.refl _ | apply Ext.drew | apply Ext.alloc | apply Ext.more_)⟩
  · have q1 : (a.kind == 0) = false := by simpa using h1
    have q3 : (a.kind != 0) = true := by simpa using h1
    by_cases h2 : b.kind = 0
    · have q2 : (b.kind == 0) = true := by simpa using h2
      have q4 : (b.kind != 0) = false := by simp [h2]
      have hs := fun W => rsign_any true false W
      have hc := hs
      have ho : rordV a b = sgn2 true false := by unfold rordV; simp [h1, h2]
      rw [ho]
      clear ho h1 h2 ha hb; generalize a.kind = xk at *; generalize a.mant = xm at *; generalize a.exp = xe at *; generalize a.text = xt at *; generalize a.truth = xb at *; generalize a.fault = xf at *; generalize b.kind = yk at *; generalize b.mant = ym at *; generalize b.exp = ye at *; generalize b.text = yt at *; generalize b.truth = yb at *; generalize b.fault = yf at *; go_enter Tryz.func14, Tryz.ntmps14; go_wp2_with (first | (go_at_call 39; (with_reducible refine (hs _).mono ?_); rintro e w' ⟨rfl, hb⟩; obtain ⟨os, d, rfl⟩ := hb.more; clear hb) | (go_at_call 16; (with_reducible refine (hc _).mono ?_); rintro e w' ⟨rfl, hb⟩; obtain ⟨os, d, rfl⟩ := hb.more; clear hb)); go_ret; exact ⟨rfl, by with_reducible repeat (first | exact Ext.refl _ | apply Ext.drew | apply Ext.alloc | apply Ext.more_)⟩
    · have hc := fun W => rcompare_nz a b W ha hb h1 h2
      have q2 : (b.kind == 0) = false := by simpa using h2
      have q4 : (b.kind != 0) = true := by simpa using h2
      have hs := fun W => rsign_any true false W
      have ho := rordV_nz h1 h2
      rw [ho]
      generalize rcmpK a b = n at *
      clear ho h1 h2 ha hb; generalize a.kind = xk at *; generalize a.mant = xm at *; generalize a.exp = xe at *; generalize a.text = xt at *; generalize a.truth = xb at *; generalize a.fault = xf at *; generalize b.kind = yk at *; generalize b.mant = ym at *; generalize b.exp = ye at *; generalize b.text = yt at *; generalize b.truth = yb at *; generalize b.fault = yf at *; go_enter Tryz.func14, Tryz.ntmps14; go_wp2_with (first | (go_at_call 39; (with_reducible refine (hs _).mono ?_); rintro e w' ⟨rfl, hb⟩; obtain ⟨os, d, rfl⟩ := hb.more; clear hb) | (go_at_call 16; (with_reducible refine (hc _).mono ?_); rintro e w' ⟨rfl, hb⟩; obtain ⟨os, d, rfl⟩ := hb.more; clear hb)); go_ret; exact ⟨rfl, by with_reducible repeat (first | exact Ext.refl _ | apply Ext.drew | apply Ext.alloc | apply Ext.more_)⟩
/-- What the law's rise tells. -/
def riseG (z : Val) : List Val → Bool
  | x :: y :: l => if y.kind ≠ z.kind then false else if 0 < rordV x y then false else riseG z (y :: l)
  | _ => true
def riseB (l : List Val) : Bool := match l with
  | [] => false
  | z :: l => riseG z (z :: l)
theorem riseG_at {z : Val} {l : List Val} {k : Nat} {x y : Val} (hx : l[k]? = some x) (hy : l[k + 1]? = some y) : riseG z (l.drop k) = if y.kind ≠ z.kind then false else if 0 < rordV x y then false else riseG z (l.drop (k + 1)) := by
  obtain ⟨h1, rfl⟩ := List.getElem?_eq_some_iff.1 hx
  obtain ⟨h2, rfl⟩ := List.getElem?_eq_some_iff.1 hy
  rw [List.drop_eq_getElem_cons h1, List.drop_eq_getElem_cons h2]
  rfl
theorem riseG_end {z : Val} {l : List Val} {k : Nat} (h : l.length ≤ k + 1) : riseG z (l.drop k) = true := by
  have : (l.drop k).length ≤ 1 := by rw [List.length_drop]; omega
  match hm : l.drop k, this with
  | [], _ => rfl
  | [_], _ => rfl
theorem rise_all {z : Val} : ∀ {l : List Val}, riseG z l = true → ∀ k x y, l[k]? = some x → l[k + 1]? = some y → y.kind = z.kind ∧ ¬ 0 < rordV x y
  | [], _, k, x, y, hx, _ => by simp at hx
  | [a], _, k, x, y, _, hy => by simp at hy
  | a :: b :: l, h, k, x, y, hx, hy => by
    have hu : riseG z (a :: b :: l) = if b.kind ≠ z.kind then false else if 0 < rordV a b then false else riseG z (b :: l) := rfl
    rw [hu] at h
    by_cases h1 : b.kind = z.kind
    · rw [if_neg (fun h' => h' h1)] at h
      by_cases h2 : 0 < rordV a b
      · rw [if_pos h2] at h; cases h
      · rw [if_neg h2] at h
        cases k with
        | zero =>
          obtain rfl : a = x := by simpa using hx
          obtain rfl : b = y := by simpa using hy
          exact ⟨h1, h2⟩
        | succ k => exact rise_all h k x y (by simpa using hx) (by simpa using hy)
    · rw [if_pos h1] at h; cases h
/-- A list that rises, as the law asks: of one kind, in order. -/
theorem riseB_yes {l : List Val} {v : Val} (h : riseB l = true) (hr : ∀ x ∈ l, x.right) (hv : ∀ z, l[0]? = some z → z.kind = v.kind) (h0 : v.kind ≠ 0) : 1 ≤ l.length ∧ Rising l ∧ ∀ x ∈ l, x.kind = v.kind := by
  match l, h with
  | z :: l, h =>
    have hz : z.kind = v.kind := hv z rfl
    have hall := rise_all (l := z :: l) h
    have hk : ∀ x ∈ z :: l, x.kind = v.kind := by
      intro x hx
      obtain ⟨i, hi, rfl⟩ := List.mem_iff_getElem.1 hx
      cases i with
      | zero => exact hz
      | succ i =>
        rw [(hall i _ _ (List.getElem?_eq_getElem (by omega)) (List.getElem?_eq_getElem hi)).1]; exact hz
    refine ⟨by simp, fun i x y hx hy => ?_, hk⟩
    have := (hall i x y hx hy).2
    have mx := hr x (List.mem_of_getElem? hx)
    have my := hr y (List.mem_of_getElem? hy)
    rw [rordV_eq (right_cases mx).1 (right_cases my).1] at this
    have kx := hk x (List.mem_of_getElem? hx)
    have ky := hk y (List.mem_of_getElem? hy)
    unfold ordV at this
    rw [if_neg (by rw [kx]; exact fun h => h0 h.1), if_neg (by rw [kx]; exact h0), if_neg (by rw [ky]; exact h0)] at this
    omega
set_option maxHeartbeats 1000000 in
theorem rise_any (A : Option Addr) (n cap : Nat) (l : List Val) (w : World) (h : ArrIn w A n cap l) :
    Calls Tryz.prog 13 #[.slice A n cap] w fun e w' => e = .returned (.bool (riseB l)) ∧ Ext w w' := by
  have hsm := h.small
  have hlen := h.len
  generalize hR : riseB l = R
  have HR := Lib.hid hR
  clear hR
  go_enter Tryz.func13, Tryz.ntmps13
  go_wp2_with fail
  go_loopw [3] (fun i wr => ∃ k : Nat, (k ≤ n ∨ k = 0) ∧ i = .int .i64 ((k : Int) + 1) ∧ Ext w wr ∧ ∀ z, l[0]? = some z → riseG z (l.drop k) = R) (fun i _ => n - (intOf i).toNat)
  case atStart =>
    refine ⟨0, Or.inr rfl, rfl, Ext.refl _, fun z hz => ?_⟩
    rw [← HR.out]
    cases l with
    | nil => cases hz
    | cons a l => obtain rfl : a = z := by simpa using hz
                  rfl
  case round =>
    obtain ⟨k, hk, rfl, hX, H⟩ := hrel
    obtain ⟨os, d, rfl⟩ := hX.more
    clear hX
    by_cases hlt : k + 1 < n
    · obtain ⟨x, b, off, hx, hxo, rfl, ⟨x0, x1, x2, x3, x4, x5⟩⟩ := h.at (show k < n by omega)
      obtain ⟨y, b', off', hy, hyo, e', ⟨y0, y1, y2, y3, y4, y5⟩⟩ := h.at hlt
      simp only [Option.some.injEq, Addr.mk.injEq, and_true] at e'
      obtain ⟨rfl, rfl⟩ := e'
      obtain ⟨z, b', off', hz, hzo, e', ⟨z0, z1, z2, z3, z4, z5⟩⟩ := h.at (show 0 < n by omega)
      simp only [Option.some.injEq, Addr.mk.injEq, and_true] at e'
      obtain ⟨rfl, rfl⟩ := e'
      have hbl : b < w.heap.size := lt_of_cell x0
      simp only [Nat.zero_mul, Nat.add_zero] at z0
      have hw1 : IntKind.i64.wrap ((k : Int) + 1 - 1) = (k : Int) := by rw [IntKind.wrap_i64]; omega
      have hw2 : ((k : Int) + 1).toNat = k + 1 := by omega
      have hw3 : IntKind.i64.wrap (k : Int) = (k : Int) := by rw [IntKind.wrap_i64]; omega
      have hRO := fun W => rorder_all x y W hxo hyo
      have hst := (H z hz).symm.trans (riseG_at hx hy)
      have hn0 : 0 < n := by omega
      have hkn : k < n := by omega
      clear z1 z2 z3 z4 z5 H
      by_cases hkd : y.kind = z.kind
      · have g1 : (y.kind != z.kind) = false := by simp [hkd]
        rw [if_neg (fun h' => h' hkd)] at hst
        clear hkd
        generalize rordV x y = zz at *
        by_cases hp : (0 : Int) < zz
        · rw [if_pos hp] at hst
          subst hst
          go_upto_region 4 with fail
          refine wp_plan (S := Ext _) [(0, 0), (1, 0), (2, 0), (3, 0), (4, 0), (5, 0), (6, 0), (7, 0), (8, 0), (9, 0), (10, 0), (11, 0), (12, 0), (13, 0), (14, 0), (15, 0), (16, 0), (17, 0), (18, 0), (19, 0), (20, 1), (21, 0), (22, 0)] [] (by kernel_rfl) (by kernel_rfl) (by kernel_rfl) (fun _ _ d _ _ h => by cases d <;> exact h) (Ext.drew (Ext.refl _)) ?_
          iterate 11 ((refine wpPl_read (v := ?_) rfl ?_ (fun _ h => ?_) ?_; rotate_left 1; rfl; (obtain ⟨_, _, rfl⟩ := h.more; go_simp; try rfl)); try simp only [Act.put, zqA, zqB, zqC])
          iterate 9 ((first | (refine wpPl_skip rfl rfl ?_) | (refine wpPl_read (v := ?_) rfl ?_ (fun w1 h1 => ?_) ?_; rotate_left 1; rfl; (obtain ⟨os1, d1, rfl⟩ := h1.more; go_simp; first | done | rfl)) | (refine wpPl_gread (v := ?_) (c := ?_) rfl rfl rfl rfl ?_ (fun hc w1 h1 => ?_) ?_; rotate_left 2; (first | exact gc_t _ | exact gc_f _ | exact gc_gt _ _ | exact gc_gf _ _); (obtain ⟨os1, d1, rfl⟩ := h1.more; (try simp only [gv_of hc]); (try (have hc1 := and_l hc; (try simp only [gv_of hc1]); (try (have hc2 := and_l hc1; (try simp only [gv_of hc2]))))); go_simp; first | done | rfl))); try simp only [Act.put, zqA, zqB, zqC])
          (refine wpPl_eff rfl ?_ (fun K hK => ?_); (first | with_reducible rfl | rfl | (go_simp; done)); go_simp; (refine (hRO _).mono ?_); rintro e w' ⟨rfl, hb⟩; obtain ⟨os2, d2, rfl⟩ := hb.more; clear hb; refine hK _ _ ?_ ?_; (repeat (first | (with_reducible (first | exact Ext.refl _ | exact ext_d _ _ _ _ | exact ext_app _ _ _ _ _ | exact ext_app2 _ _ _ _ _ _ | exact ext_app3 _ _ _ _ _ _ _ | exact ext_app4 _ _ _ _ _ _ _ _ | exact ext_app5 _ _ _ _ _ _ _ _ _)) | ((with_reducible refine ext_suffix ⟨_, ?_⟩); (try simp only [Array.append_assoc]); rfl) | (with_reducible (first | apply Ext.drew | apply Ext.alloc | apply Ext.more_)) | apply Ext.drew | apply Ext.alloc | apply Ext.more_)))
          try simp only [Act.put, zqA, zqB, zqC]
          first | (refine wpPl_skip rfl rfl ?_) | (refine wpPl_read (v := ?_) rfl ?_ (fun w1 h1 => ?_) ?_; rotate_left 1; rfl; (obtain ⟨os1, d1, rfl⟩ := h1.more; go_simp; first | done | rfl)) | (refine wpPl_gread (v := ?_) (c := ?_) rfl rfl rfl rfl ?_ (fun hc w1 h1 => ?_) ?_; rotate_left 2; (first | exact gc_t _ | exact gc_f _ | exact gc_gt _ _ | exact gc_gf _ _); (obtain ⟨os1, d1, rfl⟩ := h1.more; (try simp only [gv_of hc]); (try (have hc1 := and_l hc; (try simp only [gv_of hc1]); (try (have hc2 := and_l hc1; (try simp only [gv_of hc2]))))); go_simp; first | done | rfl))
          try simp only [Act.put, zqA, zqB, zqC]
          first | (refine wpPl_pick_and rfl rfl rfl rfl rfl rfl ?_) | (refine wpPl_pick_or rfl rfl rfl rfl rfl rfl ?_) | (refine wpPl_read (v := ?_) rfl ?_ (fun w1 h1 => ?_) ?_; rotate_left 1; rfl; (obtain ⟨os1, d1, rfl⟩ := h1.more; go_simp; first | done | rfl))
          try simp only [Act.put, zqA, zqB, zqC]
          refine wpPl_nil ?_
          go_wp2_with fail
          all_goals first | (exfalso; omega) | (go_ret; exact ⟨rfl, by with_reducible repeat (first | exact Ext.refl _ | apply Ext.drew | apply Ext.alloc | apply Ext.more_)⟩)
        · rw [if_neg hp] at hst
          have HS := Lib.hid hst
          clear hst
          go_upto_region 4 with fail
          refine wp_plan (S := Ext _) [(0, 0), (1, 0), (2, 0), (3, 0), (4, 0), (5, 0), (6, 0), (7, 0), (8, 0), (9, 0), (10, 0), (11, 0), (12, 0), (13, 0), (14, 0), (15, 0), (16, 0), (17, 0), (18, 0), (19, 0), (20, 1), (21, 0), (22, 0)] [] (by kernel_rfl) (by kernel_rfl) (by kernel_rfl) (fun _ _ d _ _ h => by cases d <;> exact h) (Ext.drew (Ext.refl _)) ?_
          iterate 11 ((refine wpPl_read (v := ?_) rfl ?_ (fun _ h => ?_) ?_; rotate_left 1; rfl; (obtain ⟨_, _, rfl⟩ := h.more; go_simp; try rfl)); try simp only [Act.put, zqA, zqB, zqC])
          iterate 9 ((first | (refine wpPl_skip rfl rfl ?_) | (refine wpPl_read (v := ?_) rfl ?_ (fun w1 h1 => ?_) ?_; rotate_left 1; rfl; (obtain ⟨os1, d1, rfl⟩ := h1.more; go_simp; first | done | rfl)) | (refine wpPl_gread (v := ?_) (c := ?_) rfl rfl rfl rfl ?_ (fun hc w1 h1 => ?_) ?_; rotate_left 2; (first | exact gc_t _ | exact gc_f _ | exact gc_gt _ _ | exact gc_gf _ _); (obtain ⟨os1, d1, rfl⟩ := h1.more; (try simp only [gv_of hc]); (try (have hc1 := and_l hc; (try simp only [gv_of hc1]); (try (have hc2 := and_l hc1; (try simp only [gv_of hc2]))))); go_simp; first | done | rfl))); try simp only [Act.put, zqA, zqB, zqC])
          (refine wpPl_eff rfl ?_ (fun K hK => ?_); (first | with_reducible rfl | rfl | (go_simp; done)); go_simp; (refine (hRO _).mono ?_); rintro e w' ⟨rfl, hb⟩; obtain ⟨os2, d2, rfl⟩ := hb.more; clear hb; refine hK _ _ ?_ ?_; (repeat (first | (with_reducible (first | exact Ext.refl _ | exact ext_d _ _ _ _ | exact ext_app _ _ _ _ _ | exact ext_app2 _ _ _ _ _ _ | exact ext_app3 _ _ _ _ _ _ _ | exact ext_app4 _ _ _ _ _ _ _ _ | exact ext_app5 _ _ _ _ _ _ _ _ _)) | ((with_reducible refine ext_suffix ⟨_, ?_⟩); (try simp only [Array.append_assoc]); rfl) | (with_reducible (first | apply Ext.drew | apply Ext.alloc | apply Ext.more_)) | apply Ext.drew | apply Ext.alloc | apply Ext.more_)))
          try simp only [Act.put, zqA, zqB, zqC]
          first | (refine wpPl_skip rfl rfl ?_) | (refine wpPl_read (v := ?_) rfl ?_ (fun w1 h1 => ?_) ?_; rotate_left 1; rfl; (obtain ⟨os1, d1, rfl⟩ := h1.more; go_simp; first | done | rfl)) | (refine wpPl_gread (v := ?_) (c := ?_) rfl rfl rfl rfl ?_ (fun hc w1 h1 => ?_) ?_; rotate_left 2; (first | exact gc_t _ | exact gc_f _ | exact gc_gt _ _ | exact gc_gf _ _); (obtain ⟨os1, d1, rfl⟩ := h1.more; (try simp only [gv_of hc]); (try (have hc1 := and_l hc; (try simp only [gv_of hc1]); (try (have hc2 := and_l hc1; (try simp only [gv_of hc2]))))); go_simp; first | done | rfl))
          try simp only [Act.put, zqA, zqB, zqC]
          first | (refine wpPl_pick_and rfl rfl rfl rfl rfl rfl ?_) | (refine wpPl_pick_or rfl rfl rfl rfl rfl rfl ?_) | (refine wpPl_read (v := ?_) rfl ?_ (fun w1 h1 => ?_) ?_; rotate_left 1; rfl; (obtain ⟨os1, d1, rfl⟩ := h1.more; go_simp; first | done | rfl))
          try simp only [Act.put, zqA, zqB, zqC]
          refine wpPl_nil ?_
          go_wp2_with fail
          refine ⟨⟨k + 1, Or.inl (by omega), by simp, by with_reducible repeat (first | exact Ext.refl _ | apply Ext.drew | apply Ext.alloc | apply Ext.more_), ?_⟩, by simp [intOf]; omega⟩
          intro z' hz'
          rw [hz] at hz'
          obtain rfl := Option.some.inj hz'
          exact HS.out.symm
      · have g1 : (y.kind != z.kind) = true := by simpa using hkd
        rw [if_pos hkd] at hst
        clear hkd
        subst hst
        go_upto_region 4 with fail
        refine wp_plan (S := Ext _) [(0, 0), (1, 0), (2, 0), (3, 0), (4, 0), (5, 0), (6, 0), (7, 0), (8, 0), (9, 0), (10, 0), (11, 0), (12, 0), (13, 0), (14, 0), (15, 0), (16, 0), (17, 0), (18, 0), (19, 0), (20, 1), (21, 0), (22, 0)] [] (by kernel_rfl) (by kernel_rfl) (by kernel_rfl) (fun _ _ d _ _ h => by cases d <;> exact h) (Ext.drew (Ext.refl _)) ?_
        iterate 11 ((refine wpPl_read (v := ?_) rfl ?_ (fun _ h => ?_) ?_; rotate_left 1; rfl; (obtain ⟨_, _, rfl⟩ := h.more; go_simp; try rfl)); try simp only [Act.put, zqA, zqB, zqC])
        iterate 9 ((first | (refine wpPl_skip rfl rfl ?_) | (refine wpPl_read (v := ?_) rfl ?_ (fun w1 h1 => ?_) ?_; rotate_left 1; rfl; (obtain ⟨os1, d1, rfl⟩ := h1.more; go_simp; first | done | rfl)) | (refine wpPl_gread (v := ?_) (c := ?_) rfl rfl rfl rfl ?_ (fun hc w1 h1 => ?_) ?_; rotate_left 2; (first | exact gc_t _ | exact gc_f _ | exact gc_gt _ _ | exact gc_gf _ _); (obtain ⟨os1, d1, rfl⟩ := h1.more; (try simp only [gv_of hc]); (try (have hc1 := and_l hc; (try simp only [gv_of hc1]); (try (have hc2 := and_l hc1; (try simp only [gv_of hc2]))))); go_simp; first | done | rfl))); try simp only [Act.put, zqA, zqB, zqC])
        (refine wpPl_effskip rfl ?_ ?_ ?_; (first | with_reducible rfl | rfl | (go_simp; done)); (repeat (first | (with_reducible (first | exact Ext.refl _ | exact ext_d _ _ _ _ | exact ext_app _ _ _ _ _ | exact ext_app2 _ _ _ _ _ _ | exact ext_app3 _ _ _ _ _ _ _ | exact ext_app4 _ _ _ _ _ _ _ _ | exact ext_app5 _ _ _ _ _ _ _ _ _)) | ((with_reducible refine ext_suffix ⟨_, ?_⟩); (try simp only [Array.append_assoc]); rfl) | (with_reducible (first | apply Ext.drew | apply Ext.alloc | apply Ext.more_)) | apply Ext.drew | apply Ext.alloc | apply Ext.more_)))
        try simp only [Act.put, zqA, zqB, zqC]
        first | (refine wpPl_skip rfl rfl ?_) | (refine wpPl_read (v := ?_) rfl ?_ (fun w1 h1 => ?_) ?_; rotate_left 1; rfl; (obtain ⟨os1, d1, rfl⟩ := h1.more; go_simp; first | done | rfl)) | (refine wpPl_gread (v := ?_) (c := ?_) rfl rfl rfl rfl ?_ (fun hc w1 h1 => ?_) ?_; rotate_left 2; (first | exact gc_t _ | exact gc_f _ | exact gc_gt _ _ | exact gc_gf _ _); (obtain ⟨os1, d1, rfl⟩ := h1.more; (try simp only [gv_of hc]); (try (have hc1 := and_l hc; (try simp only [gv_of hc1]); (try (have hc2 := and_l hc1; (try simp only [gv_of hc2]))))); go_simp; first | done | rfl))
        try simp only [Act.put, zqA, zqB, zqC]
        first | (refine wpPl_pick_and rfl rfl rfl rfl rfl rfl ?_) | (refine wpPl_pick_or rfl rfl rfl rfl rfl rfl ?_) | (refine wpPl_read (v := ?_) rfl ?_ (fun w1 h1 => ?_) ?_; rotate_left 1; rfl; (obtain ⟨os1, d1, rfl⟩ := h1.more; go_simp; first | done | rfl))
        try simp only [Act.put, zqA, zqB, zqC]
        refine wpPl_nil ?_
        go_wp2_with fail
        go_ret
        exact ⟨rfl, by with_reducible repeat (first | exact Ext.refl _ | apply Ext.drew | apply Ext.alloc | apply Ext.more_)⟩
    · have hq : Hid (decide (0 < n) = R) := by
        show _ = _
        by_cases hn0 : 0 < n
        · obtain ⟨z, _, _, hz, _⟩ := h.at hn0
          rw [← H z hz, riseG_end (by omega)]; simp [hn0]
        · rw [← HR.out]
          have : l = [] := List.eq_nil_of_length_eq_zero (by omega)
          subst this
          simp [hn0, riseB]
      clear H
      go_wp2_with fail
      go_ret
      refine ⟨?_, by with_reducible repeat (first | exact Ext.refl _ | apply Ext.drew | apply Ext.alloc | apply Ext.more_)⟩
      rw [← hq.out]; rfl
end Go.Proofs.YteigcfflljoioaaGreatDoor
namespace Go.Proofs.YteigcfflljoioaaGreatDoor
open Go.RowKit NM
set_option maxHeartbeats 4000000 in
theorem flookSorted_any (A : Option Addr) (n cap : Nat) (l : List Val) (v : Val) (w : World) (htab : Tab w) (h : ArrIn w A n cap l) (hv : v.ok) :
    Calls Tryz.prog 3 #[.slice A n cap, VV v.kind v.mant v.exp v.text v.truth v.fault] w fun e w' => e = .returned (.bool true) ∧ Ext w w' := by
  have HT := Lib.hid htab
  have hlen := h.len
  have g1 := fun W => refRight_any v.kind v.mant v.exp v.fault v.text v.truth W hv.2.1 hv.2.2.2.1
  have hre : refRight ⟨v.kind, v.mant, v.exp, v.text, v.truth, v.fault⟩ = valRight v := (right_eq v hv).symm
  have hri := fun W (hW : Ext w W) => rise_any A n cap l W (h.ext hW)
  clear htab
  by_cases q60 : 60 < n
  · have q60' : decide ((60 : Int) < (n : Int)) = true := decide_eq_true (by omega)
    clear hre g1 hri hlen
    go_enter Tryz.func3, Tryz.ntmps3
    go_upto_region 1 with fail
    refine wp_plan (S := Ext _) [(0, 1), (1, 0), (2, 0), (3, 0), (4, 0), (5, 0), (6, 0), (7, 0), (8, 0), (9, 1), (10, 0), (11, 0), (12, 0), (13, 0), (14, 0), (15, 0), (16, 0), (17, 0), (18, 0), (19, 0), (20, 0), (21, 0), (22, 0), (23, 0), (24, 1), (25, 0), (26, 0), (27, 0), (28, 0), (29, 0), (30, 0), (31, 0), (32, 0), (33, 0), (34, 0), (35, 0)] [] (by kernel_rfl) (by kernel_rfl) (by kernel_rfl) (fun _ _ d _ _ h => by cases d <;> exact h) (Ext.drew (Ext.refl _)) ?_
    (refine wpPl_eff rfl ?_ (fun K hK => ?_); rfl; go_simp; refine (awake14_any _ (HT.out.ext (by repeat (first | (with_reducible (first | exact Ext.refl _ | exact ext_d _ _ _ _ | exact ext_app _ _ _ _ _ | exact ext_app2 _ _ _ _ _ _ | exact ext_app3 _ _ _ _ _ _ _)) | ((with_reducible refine ext_suffix ⟨_, ?_⟩); (try simp only [Array.append_assoc]); rfl) | (with_reducible (first | apply Ext.drew | apply Ext.alloc | apply Ext.more_)))))).mono ?_; rintro e w' ⟨rfl, hb⟩; obtain ⟨os1, d1, rfl⟩ := hb.more; clear hb; refine hK _ _ ?_ ?_; (repeat (first | (with_reducible (first | exact Ext.refl _ | exact ext_d _ _ _ _ | exact ext_app _ _ _ _ _ | exact ext_app2 _ _ _ _ _ _ | exact ext_app3 _ _ _ _ _ _ _ | exact ext_app4 _ _ _ _ _ _ _ _ | exact ext_app5 _ _ _ _ _ _ _ _ _)) | ((with_reducible refine ext_suffix ⟨_, ?_⟩); (try simp only [Array.append_assoc]); rfl) | (with_reducible (first | apply Ext.drew | apply Ext.alloc | apply Ext.more_)) | apply Ext.drew | apply Ext.alloc | apply Ext.more_)))
    try simp only [Act.put, zqA, zqB, zqC]
    (refine wpPl_read (v := ?_) rfl ?_ (fun _ h => ?_) ?_; rotate_left 1; rfl; (obtain ⟨_, _, rfl⟩ := h.more; go_simp; try rfl))
    try simp only [Act.put, zqA, zqB, zqC]
    try simp only [Bool.not_true, Bool.not_false, Bool.or_true, Bool.or_false, Bool.true_or, Bool.false_or, Bool.and_true, Bool.and_false, Bool.true_and, Bool.false_and, decide_true, decide_false, q60']
    (refine wpPl_read (v := ?_) rfl ?_ (fun _ h => ?_) ?_; rotate_left 1; rfl; (obtain ⟨_, _, rfl⟩ := h.more; go_simp; try rfl))
    try simp only [Act.put, zqA, zqB, zqC]
    iterate 3 ((first | (refine wpPl_skip rfl rfl ?_) | (refine wpPl_read (v := ?_) rfl ?_ (fun w1 h1 => ?_) ?_; rotate_left 1; rfl; (obtain ⟨os1, d1, rfl⟩ := h1.more; go_simp; first | done | rfl))); try simp only [Act.put, zqA, zqB, zqC])
    try simp only [Bool.not_true, Bool.not_false, Bool.or_true, Bool.or_false, Bool.true_or, Bool.false_or, Bool.and_true, Bool.and_false, Bool.true_and, Bool.false_and, decide_true, decide_false, q60']
    (refine wpPl_read (v := ?_) rfl ?_ (fun _ h => ?_) ?_; rotate_left 1; rfl; (obtain ⟨_, _, rfl⟩ := h.more; go_simp; try rfl))
    try simp only [Act.put, zqA, zqB, zqC]
    try simp only [Bool.not_true, Bool.not_false, Bool.or_true, Bool.or_false, Bool.true_or, Bool.false_or, Bool.and_true, Bool.and_false, Bool.true_and, Bool.false_and, decide_true, decide_false, q60']
    (refine wpPl_read (v := ?_) rfl ?_ (fun _ h => ?_) ?_; rotate_left 1; rfl; (obtain ⟨_, _, rfl⟩ := h.more; go_simp; try rfl))
    try simp only [Act.put, zqA, zqB, zqC]
    first | (refine wpPl_skip rfl rfl ?_) | (refine wpPl_read (v := ?_) rfl ?_ (fun w1 h1 => ?_) ?_; rotate_left 1; rfl; (obtain ⟨os1, d1, rfl⟩ := h1.more; go_simp; first | done | rfl))
    try simp only [Act.put, zqA, zqB, zqC]
    (refine wpPl_effskip rfl ?_ ?_ ?_; (first | with_reducible rfl | rfl | (go_simp; done)); (repeat (first | (with_reducible (first | exact Ext.refl _ | exact ext_d _ _ _ _ | exact ext_app _ _ _ _ _ | exact ext_app2 _ _ _ _ _ _ | exact ext_app3 _ _ _ _ _ _ _ | exact ext_app4 _ _ _ _ _ _ _ _ | exact ext_app5 _ _ _ _ _ _ _ _ _)) | ((with_reducible refine ext_suffix ⟨_, ?_⟩); (try simp only [Array.append_assoc]); rfl) | (with_reducible (first | apply Ext.drew | apply Ext.alloc | apply Ext.more_)) | apply Ext.drew | apply Ext.alloc | apply Ext.more_)))
    try simp only [Act.put, zqA, zqB, zqC]
    first | (refine wpPl_skip rfl rfl ?_) | (refine wpPl_read (v := ?_) rfl ?_ (fun w1 h1 => ?_) ?_; rotate_left 1; rfl; (obtain ⟨os1, d1, rfl⟩ := h1.more; go_simp; first | done | rfl))
    try simp only [Act.put, zqA, zqB, zqC]
    try simp only [Bool.not_true, Bool.not_false, Bool.or_true, Bool.or_false, Bool.true_or, Bool.false_or, Bool.and_true, Bool.and_false, Bool.true_and, Bool.false_and, decide_true, decide_false, q60']
    (refine wpPl_read (v := ?_) rfl ?_ (fun _ h => ?_) ?_; rotate_left 1; rfl; (obtain ⟨_, _, rfl⟩ := h.more; go_simp; try rfl))
    try simp only [Act.put, zqA, zqB, zqC]
    try simp only [Bool.not_true, Bool.not_false, Bool.or_true, Bool.or_false, Bool.true_or, Bool.false_or, Bool.and_true, Bool.and_false, Bool.true_and, Bool.false_and, decide_true, decide_false, q60']
    (refine wpPl_read (v := ?_) rfl ?_ (fun _ h => ?_) ?_; rotate_left 1; rfl; (obtain ⟨_, _, rfl⟩ := h.more; go_simp; try rfl))
    try simp only [Act.put, zqA, zqB, zqC]
    iterate 3 ((first | (refine wpPl_skip rfl rfl ?_) | (refine wpPl_read (v := ?_) rfl ?_ (fun w1 h1 => ?_) ?_; rotate_left 1; rfl; (obtain ⟨os1, d1, rfl⟩ := h1.more; go_simp; first | done | rfl))); try simp only [Act.put, zqA, zqB, zqC])
    try simp only [Bool.not_true, Bool.not_false, Bool.or_true, Bool.or_false, Bool.true_or, Bool.false_or, Bool.and_true, Bool.and_false, Bool.true_and, Bool.false_and, decide_true, decide_false, q60']
    (refine wpPl_read (v := ?_) rfl ?_ (fun _ h => ?_) ?_; rotate_left 1; rfl; (obtain ⟨_, _, rfl⟩ := h.more; go_simp; try rfl))
    try simp only [Act.put, zqA, zqB, zqC]
    try simp only [Bool.not_true, Bool.not_false, Bool.or_true, Bool.or_false, Bool.true_or, Bool.false_or, Bool.and_true, Bool.and_false, Bool.true_and, Bool.false_and, decide_true, decide_false, q60']
    (refine wpPl_read (v := ?_) rfl ?_ (fun _ h => ?_) ?_; rotate_left 1; rfl; (obtain ⟨_, _, rfl⟩ := h.more; go_simp; try rfl))
    try simp only [Act.put, zqA, zqB, zqC]
    iterate 3 ((first | (refine wpPl_skip rfl rfl ?_) | (refine wpPl_read (v := ?_) rfl ?_ (fun w1 h1 => ?_) ?_; rotate_left 1; rfl; (obtain ⟨os1, d1, rfl⟩ := h1.more; go_simp; first | done | rfl))); try simp only [Act.put, zqA, zqB, zqC])
    try simp only [Bool.not_true, Bool.not_false, Bool.or_true, Bool.or_false, Bool.true_or, Bool.false_or, Bool.and_true, Bool.and_false, Bool.true_and, Bool.false_and, decide_true, decide_false, q60']
    (refine wpPl_read (v := ?_) rfl ?_ (fun _ h => ?_) ?_; rotate_left 1; rfl; (obtain ⟨_, _, rfl⟩ := h.more; go_simp; try rfl))
    try simp only [Act.put, zqA, zqB, zqC]
    try simp only [Bool.not_true, Bool.not_false, Bool.or_true, Bool.or_false, Bool.true_or, Bool.false_or, Bool.and_true, Bool.and_false, Bool.true_and, Bool.false_and, decide_true, decide_false, q60']
    (refine wpPl_read (v := ?_) rfl ?_ (fun _ h => ?_) ?_; rotate_left 1; rfl; (obtain ⟨_, _, rfl⟩ := h.more; go_simp; try rfl))
    try simp only [Act.put, zqA, zqB, zqC]
    first | (refine wpPl_skip rfl rfl ?_) | (refine wpPl_read (v := ?_) rfl ?_ (fun w1 h1 => ?_) ?_; rotate_left 1; rfl; (obtain ⟨os1, d1, rfl⟩ := h1.more; go_simp; first | done | rfl))
    try simp only [Act.put, zqA, zqB, zqC]
    (refine wpPl_effskip rfl ?_ ?_ ?_; (first | with_reducible rfl | rfl | (go_simp; done)); (repeat (first | (with_reducible (first | exact Ext.refl _ | exact ext_d _ _ _ _ | exact ext_app _ _ _ _ _ | exact ext_app2 _ _ _ _ _ _ | exact ext_app3 _ _ _ _ _ _ _ | exact ext_app4 _ _ _ _ _ _ _ _ | exact ext_app5 _ _ _ _ _ _ _ _ _)) | ((with_reducible refine ext_suffix ⟨_, ?_⟩); (try simp only [Array.append_assoc]); rfl) | (with_reducible (first | apply Ext.drew | apply Ext.alloc | apply Ext.more_)) | apply Ext.drew | apply Ext.alloc | apply Ext.more_)))
    try simp only [Act.put, zqA, zqB, zqC]
    first | (refine wpPl_skip rfl rfl ?_) | (refine wpPl_read (v := ?_) rfl ?_ (fun w1 h1 => ?_) ?_; rotate_left 1; rfl; (obtain ⟨os1, d1, rfl⟩ := h1.more; go_simp; first | done | rfl))
    try simp only [Act.put, zqA, zqB, zqC]
    try simp only [Bool.not_true, Bool.not_false, Bool.or_true, Bool.or_false, Bool.true_or, Bool.false_or, Bool.and_true, Bool.and_false, Bool.true_and, Bool.false_and, decide_true, decide_false, q60']
    (refine wpPl_read (v := ?_) rfl ?_ (fun _ h => ?_) ?_; rotate_left 1; rfl; (obtain ⟨_, _, rfl⟩ := h.more; go_simp; try rfl))
    try simp only [Act.put, zqA, zqB, zqC]
    try simp only [Bool.not_true, Bool.not_false, Bool.or_true, Bool.or_false, Bool.true_or, Bool.false_or, Bool.and_true, Bool.and_false, Bool.true_and, Bool.false_and, decide_true, decide_false, q60']
    (refine wpPl_read (v := ?_) rfl ?_ (fun _ h => ?_) ?_; rotate_left 1; rfl; (obtain ⟨_, _, rfl⟩ := h.more; go_simp; try rfl))
    try simp only [Act.put, zqA, zqB, zqC]
    iterate 7 ((first | (refine wpPl_skip rfl rfl ?_) | (refine wpPl_read (v := ?_) rfl ?_ (fun w1 h1 => ?_) ?_; rotate_left 1; rfl; (obtain ⟨os1, d1, rfl⟩ := h1.more; go_simp; first | done | rfl))); try simp only [Act.put, zqA, zqB, zqC])
    try simp only [Bool.not_true, Bool.not_false, Bool.or_true, Bool.or_false, Bool.true_or, Bool.false_or, Bool.and_true, Bool.and_false, Bool.true_and, Bool.false_and, decide_true, decide_false, q60']
    (refine wpPl_read (v := ?_) rfl ?_ (fun _ h => ?_) ?_; rotate_left 1; rfl; (obtain ⟨_, _, rfl⟩ := h.more; go_simp; try rfl))
    try simp only [Act.put, zqA, zqB, zqC]
    try simp only [Bool.not_true, Bool.not_false, Bool.or_true, Bool.or_false, Bool.true_or, Bool.false_or, Bool.and_true, Bool.and_false, Bool.true_and, Bool.false_and, decide_true, decide_false, q60']
    refine wpPl_nil ?_
    go_wp2_with (go_at_call 11; (with_reducible refine (awake14_any _ (HT.out.ext (by repeat (first | (with_reducible (first | exact Ext.refl _ | exact ext_d _ _ _ _ | exact ext_app _ _ _ _ _ | exact ext_app2 _ _ _ _ _ _ | exact ext_app3 _ _ _ _ _ _ _)) | ((with_reducible refine ext_suffix ⟨_, ?_⟩); (try simp only [Array.append_assoc]); rfl) | (with_reducible (first | apply Ext.drew | apply Ext.alloc | apply Ext.more_)))))).mono ?_); rintro e w' ⟨rfl, hb⟩; obtain ⟨os, d, rfl⟩ := hb.more; clear hb); go_ret; exact ⟨rfl, by repeat (first | (with_reducible (first | exact Ext.refl _ | exact ext_d _ _ _ _ | exact ext_app _ _ _ _ _ | exact ext_app2 _ _ _ _ _ _ | exact ext_app3 _ _ _ _ _ _ _)) | ((with_reducible refine ext_suffix ⟨_, ?_⟩); (try simp only [Array.append_assoc]); rfl) | (with_reducible (first | apply Ext.drew | apply Ext.alloc | apply Ext.more_)))⟩
  · have q60' : decide ((60 : Int) < (n : Int)) = false := decide_eq_false (by omega)
    by_cases rv : valRight v = true
    · rw [hre, rv] at g1
      by_cases k0 : v.kind = 0
      · have k0' : (v.kind == 0) = true := by simpa using k0
        clear hre hri hlen k0
        go_enter Tryz.func3, Tryz.ntmps3
        go_upto_region 1 with fail
        refine wp_plan (S := Ext _) [(0, 1), (1, 0), (2, 0), (3, 0), (4, 0), (5, 0), (6, 0), (7, 0), (8, 0), (9, 1), (10, 0), (11, 0), (12, 0), (13, 0), (14, 0), (15, 0), (16, 0), (17, 0), (18, 0), (19, 0), (20, 0), (21, 0), (22, 0), (23, 0), (24, 1), (25, 0), (26, 0), (27, 0), (28, 0), (29, 0), (30, 0), (31, 0), (32, 0), (33, 0), (34, 0), (35, 0)] [] (by kernel_rfl) (by kernel_rfl) (by kernel_rfl) (fun _ _ d _ _ h => by cases d <;> exact h) (Ext.drew (Ext.refl _)) ?_
        (refine wpPl_eff rfl ?_ (fun K hK => ?_); rfl; go_simp; refine (awake14_any _ (HT.out.ext (by repeat (first | (with_reducible (first | exact Ext.refl _ | exact ext_d _ _ _ _ | exact ext_app _ _ _ _ _ | exact ext_app2 _ _ _ _ _ _ | exact ext_app3 _ _ _ _ _ _ _)) | ((with_reducible refine ext_suffix ⟨_, ?_⟩); (try simp only [Array.append_assoc]); rfl) | (with_reducible (first | apply Ext.drew | apply Ext.alloc | apply Ext.more_)))))).mono ?_; rintro e w' ⟨rfl, hb⟩; obtain ⟨os1, d1, rfl⟩ := hb.more; clear hb; refine hK _ _ ?_ ?_; (repeat (first | (with_reducible (first | exact Ext.refl _ | exact ext_d _ _ _ _ | exact ext_app _ _ _ _ _ | exact ext_app2 _ _ _ _ _ _ | exact ext_app3 _ _ _ _ _ _ _ | exact ext_app4 _ _ _ _ _ _ _ _ | exact ext_app5 _ _ _ _ _ _ _ _ _)) | ((with_reducible refine ext_suffix ⟨_, ?_⟩); (try simp only [Array.append_assoc]); rfl) | (with_reducible (first | apply Ext.drew | apply Ext.alloc | apply Ext.more_)) | apply Ext.drew | apply Ext.alloc | apply Ext.more_)))
        try simp only [Act.put, zqA, zqB, zqC]
        (refine wpPl_read (v := ?_) rfl ?_ (fun _ h => ?_) ?_; rotate_left 1; rfl; (obtain ⟨_, _, rfl⟩ := h.more; go_simp; try rfl))
        try simp only [Act.put, zqA, zqB, zqC]
        try simp only [Bool.not_true, Bool.not_false, Bool.or_true, Bool.or_false, Bool.true_or, Bool.false_or, Bool.and_true, Bool.and_false, Bool.true_and, Bool.false_and, decide_true, decide_false, q60', k0']
        (refine wpPl_read (v := ?_) rfl ?_ (fun _ h => ?_) ?_; rotate_left 1; rfl; (obtain ⟨_, _, rfl⟩ := h.more; go_simp; try rfl))
        try simp only [Act.put, zqA, zqB, zqC]
        iterate 3 ((first | (refine wpPl_skip rfl rfl ?_) | (refine wpPl_read (v := ?_) rfl ?_ (fun w1 h1 => ?_) ?_; rotate_left 1; rfl; (obtain ⟨os1, d1, rfl⟩ := h1.more; go_simp; first | done | rfl))); try simp only [Act.put, zqA, zqB, zqC])
        try simp only [Bool.not_true, Bool.not_false, Bool.or_true, Bool.or_false, Bool.true_or, Bool.false_or, Bool.and_true, Bool.and_false, Bool.true_and, Bool.false_and, decide_true, decide_false, q60', k0']
        (refine wpPl_read (v := ?_) rfl ?_ (fun _ h => ?_) ?_; rotate_left 1; rfl; (obtain ⟨_, _, rfl⟩ := h.more; go_simp; try rfl))
        try simp only [Act.put, zqA, zqB, zqC]
        try simp only [Bool.not_true, Bool.not_false, Bool.or_true, Bool.or_false, Bool.true_or, Bool.false_or, Bool.and_true, Bool.and_false, Bool.true_and, Bool.false_and, decide_true, decide_false, q60', k0']
        (refine wpPl_read (v := ?_) rfl ?_ (fun _ h => ?_) ?_; rotate_left 1; rfl; (obtain ⟨_, _, rfl⟩ := h.more; go_simp; try rfl))
        try simp only [Act.put, zqA, zqB, zqC]
        first | (refine wpPl_skip rfl rfl ?_) | (refine wpPl_read (v := ?_) rfl ?_ (fun w1 h1 => ?_) ?_; rotate_left 1; rfl; (obtain ⟨os1, d1, rfl⟩ := h1.more; go_simp; first | done | rfl))
        try simp only [Act.put, zqA, zqB, zqC]
        (refine wpPl_eff rfl ?_ (fun K hK => ?_); (first | with_reducible rfl | rfl | (go_simp; done)); go_simp; refine (g1 _).mono ?_; rintro e w' ⟨rfl, hb⟩; obtain ⟨os2, d2, rfl⟩ := hb.more; clear hb; refine hK _ _ ?_ ?_; (repeat (first | (with_reducible (first | exact Ext.refl _ | exact ext_d _ _ _ _ | exact ext_app _ _ _ _ _ | exact ext_app2 _ _ _ _ _ _ | exact ext_app3 _ _ _ _ _ _ _ | exact ext_app4 _ _ _ _ _ _ _ _ | exact ext_app5 _ _ _ _ _ _ _ _ _)) | ((with_reducible refine ext_suffix ⟨_, ?_⟩); (try simp only [Array.append_assoc]); rfl) | (with_reducible (first | apply Ext.drew | apply Ext.alloc | apply Ext.more_)) | apply Ext.drew | apply Ext.alloc | apply Ext.more_)))
        try simp only [Act.put, zqA, zqB, zqC]
        first | (refine wpPl_skip rfl rfl ?_) | (refine wpPl_read (v := ?_) rfl ?_ (fun w1 h1 => ?_) ?_; rotate_left 1; rfl; (obtain ⟨os1, d1, rfl⟩ := h1.more; go_simp; first | done | rfl))
        try simp only [Act.put, zqA, zqB, zqC]
        try simp only [Bool.not_true, Bool.not_false, Bool.or_true, Bool.or_false, Bool.true_or, Bool.false_or, Bool.and_true, Bool.and_false, Bool.true_and, Bool.false_and, decide_true, decide_false, q60', k0']
        (refine wpPl_read (v := ?_) rfl ?_ (fun _ h => ?_) ?_; rotate_left 1; rfl; (obtain ⟨_, _, rfl⟩ := h.more; go_simp; try rfl))
        try simp only [Act.put, zqA, zqB, zqC]
        try simp only [Bool.not_true, Bool.not_false, Bool.or_true, Bool.or_false, Bool.true_or, Bool.false_or, Bool.and_true, Bool.and_false, Bool.true_and, Bool.false_and, decide_true, decide_false, q60', k0']
        (refine wpPl_read (v := ?_) rfl ?_ (fun _ h => ?_) ?_; rotate_left 1; rfl; (obtain ⟨_, _, rfl⟩ := h.more; go_simp; try rfl))
        try simp only [Act.put, zqA, zqB, zqC]
        iterate 3 ((first | (refine wpPl_skip rfl rfl ?_) | (refine wpPl_read (v := ?_) rfl ?_ (fun w1 h1 => ?_) ?_; rotate_left 1; rfl; (obtain ⟨os1, d1, rfl⟩ := h1.more; go_simp; first | done | rfl))); try simp only [Act.put, zqA, zqB, zqC])
        try simp only [Bool.not_true, Bool.not_false, Bool.or_true, Bool.or_false, Bool.true_or, Bool.false_or, Bool.and_true, Bool.and_false, Bool.true_and, Bool.false_and, decide_true, decide_false, q60', k0']
        (refine wpPl_read (v := ?_) rfl ?_ (fun _ h => ?_) ?_; rotate_left 1; rfl; (obtain ⟨_, _, rfl⟩ := h.more; go_simp; try rfl))
        try simp only [Act.put, zqA, zqB, zqC]
        try simp only [Bool.not_true, Bool.not_false, Bool.or_true, Bool.or_false, Bool.true_or, Bool.false_or, Bool.and_true, Bool.and_false, Bool.true_and, Bool.false_and, decide_true, decide_false, q60', k0']
        (refine wpPl_read (v := ?_) rfl ?_ (fun _ h => ?_) ?_; rotate_left 1; rfl; (obtain ⟨_, _, rfl⟩ := h.more; go_simp; try rfl))
        try simp only [Act.put, zqA, zqB, zqC]
        iterate 3 ((first | (refine wpPl_skip rfl rfl ?_) | (refine wpPl_read (v := ?_) rfl ?_ (fun w1 h1 => ?_) ?_; rotate_left 1; rfl; (obtain ⟨os1, d1, rfl⟩ := h1.more; go_simp; first | done | rfl))); try simp only [Act.put, zqA, zqB, zqC])
        try simp only [Bool.not_true, Bool.not_false, Bool.or_true, Bool.or_false, Bool.true_or, Bool.false_or, Bool.and_true, Bool.and_false, Bool.true_and, Bool.false_and, decide_true, decide_false, q60', k0']
        (refine wpPl_read (v := ?_) rfl ?_ (fun _ h => ?_) ?_; rotate_left 1; rfl; (obtain ⟨_, _, rfl⟩ := h.more; go_simp; try rfl))
        try simp only [Act.put, zqA, zqB, zqC]
        try simp only [Bool.not_true, Bool.not_false, Bool.or_true, Bool.or_false, Bool.true_or, Bool.false_or, Bool.and_true, Bool.and_false, Bool.true_and, Bool.false_and, decide_true, decide_false, q60', k0']
        (refine wpPl_read (v := ?_) rfl ?_ (fun _ h => ?_) ?_; rotate_left 1; rfl; (obtain ⟨_, _, rfl⟩ := h.more; go_simp; try rfl))
        try simp only [Act.put, zqA, zqB, zqC]
        first | (refine wpPl_skip rfl rfl ?_) | (refine wpPl_read (v := ?_) rfl ?_ (fun w1 h1 => ?_) ?_; rotate_left 1; rfl; (obtain ⟨os1, d1, rfl⟩ := h1.more; go_simp; first | done | rfl))
        try simp only [Act.put, zqA, zqB, zqC]
        (refine wpPl_effskip rfl ?_ ?_ ?_; (first | with_reducible rfl | rfl | (go_simp; done)); (repeat (first | (with_reducible (first | exact Ext.refl _ | exact ext_d _ _ _ _ | exact ext_app _ _ _ _ _ | exact ext_app2 _ _ _ _ _ _ | exact ext_app3 _ _ _ _ _ _ _ | exact ext_app4 _ _ _ _ _ _ _ _ | exact ext_app5 _ _ _ _ _ _ _ _ _)) | ((with_reducible refine ext_suffix ⟨_, ?_⟩); (try simp only [Array.append_assoc]); rfl) | (with_reducible (first | apply Ext.drew | apply Ext.alloc | apply Ext.more_)) | apply Ext.drew | apply Ext.alloc | apply Ext.more_)))
        try simp only [Act.put, zqA, zqB, zqC]
        first | (refine wpPl_skip rfl rfl ?_) | (refine wpPl_read (v := ?_) rfl ?_ (fun w1 h1 => ?_) ?_; rotate_left 1; rfl; (obtain ⟨os1, d1, rfl⟩ := h1.more; go_simp; first | done | rfl))
        try simp only [Act.put, zqA, zqB, zqC]
        try simp only [Bool.not_true, Bool.not_false, Bool.or_true, Bool.or_false, Bool.true_or, Bool.false_or, Bool.and_true, Bool.and_false, Bool.true_and, Bool.false_and, decide_true, decide_false, q60', k0']
        (refine wpPl_read (v := ?_) rfl ?_ (fun _ h => ?_) ?_; rotate_left 1; rfl; (obtain ⟨_, _, rfl⟩ := h.more; go_simp; try rfl))
        try simp only [Act.put, zqA, zqB, zqC]
        try simp only [Bool.not_true, Bool.not_false, Bool.or_true, Bool.or_false, Bool.true_or, Bool.false_or, Bool.and_true, Bool.and_false, Bool.true_and, Bool.false_and, decide_true, decide_false, q60', k0']
        (refine wpPl_read (v := ?_) rfl ?_ (fun _ h => ?_) ?_; rotate_left 1; rfl; (obtain ⟨_, _, rfl⟩ := h.more; go_simp; try rfl))
        try simp only [Act.put, zqA, zqB, zqC]
        iterate 7 ((first | (refine wpPl_skip rfl rfl ?_) | (refine wpPl_read (v := ?_) rfl ?_ (fun w1 h1 => ?_) ?_; rotate_left 1; rfl; (obtain ⟨os1, d1, rfl⟩ := h1.more; go_simp; first | done | rfl))); try simp only [Act.put, zqA, zqB, zqC])
        try simp only [Bool.not_true, Bool.not_false, Bool.or_true, Bool.or_false, Bool.true_or, Bool.false_or, Bool.and_true, Bool.and_false, Bool.true_and, Bool.false_and, decide_true, decide_false, q60', k0']
        (refine wpPl_read (v := ?_) rfl ?_ (fun _ h => ?_) ?_; rotate_left 1; rfl; (obtain ⟨_, _, rfl⟩ := h.more; go_simp; try rfl))
        try simp only [Act.put, zqA, zqB, zqC]
        try simp only [Bool.not_true, Bool.not_false, Bool.or_true, Bool.or_false, Bool.true_or, Bool.false_or, Bool.and_true, Bool.and_false, Bool.true_and, Bool.false_and, decide_true, decide_false, q60', k0']
        refine wpPl_nil ?_
        go_wp2_with (go_at_call 11; (with_reducible refine (awake14_any _ (HT.out.ext (by repeat (first | (with_reducible (first | exact Ext.refl _ | exact ext_d _ _ _ _ | exact ext_app _ _ _ _ _ | exact ext_app2 _ _ _ _ _ _ | exact ext_app3 _ _ _ _ _ _ _)) | ((with_reducible refine ext_suffix ⟨_, ?_⟩); (try simp only [Array.append_assoc]); rfl) | (with_reducible (first | apply Ext.drew | apply Ext.alloc | apply Ext.more_)))))).mono ?_); rintro e w' ⟨rfl, hb⟩; obtain ⟨os, d, rfl⟩ := hb.more; clear hb); go_ret; exact ⟨rfl, by repeat (first | (with_reducible (first | exact Ext.refl _ | exact ext_d _ _ _ _ | exact ext_app _ _ _ _ _ | exact ext_app2 _ _ _ _ _ _ | exact ext_app3 _ _ _ _ _ _ _)) | ((with_reducible refine ext_suffix ⟨_, ?_⟩); (try simp only [Array.append_assoc]); rfl) | (with_reducible (first | apply Ext.drew | apply Ext.alloc | apply Ext.more_)))⟩
      · by_cases k4 : v.kind = 4
        · have k0' : (v.kind == 0) = false := by simpa using k0
          have k4' : (v.kind == 4) = true := by simpa using k4
          clear hre hri hlen k0 k4
          go_enter Tryz.func3, Tryz.ntmps3
          go_upto_region 1 with fail
          refine wp_plan (S := Ext _) [(0, 1), (1, 0), (2, 0), (3, 0), (4, 0), (5, 0), (6, 0), (7, 0), (8, 0), (9, 1), (10, 0), (11, 0), (12, 0), (13, 0), (14, 0), (15, 0), (16, 0), (17, 0), (18, 0), (19, 0), (20, 0), (21, 0), (22, 0), (23, 0), (24, 1), (25, 0), (26, 0), (27, 0), (28, 0), (29, 0), (30, 0), (31, 0), (32, 0), (33, 0), (34, 0), (35, 0)] [] (by kernel_rfl) (by kernel_rfl) (by kernel_rfl) (fun _ _ d _ _ h => by cases d <;> exact h) (Ext.drew (Ext.refl _)) ?_
          (refine wpPl_eff rfl ?_ (fun K hK => ?_); rfl; go_simp; refine (awake14_any _ (HT.out.ext (by repeat (first | (with_reducible (first | exact Ext.refl _ | exact ext_d _ _ _ _ | exact ext_app _ _ _ _ _ | exact ext_app2 _ _ _ _ _ _ | exact ext_app3 _ _ _ _ _ _ _)) | ((with_reducible refine ext_suffix ⟨_, ?_⟩); (try simp only [Array.append_assoc]); rfl) | (with_reducible (first | apply Ext.drew | apply Ext.alloc | apply Ext.more_)))))).mono ?_; rintro e w' ⟨rfl, hb⟩; obtain ⟨os1, d1, rfl⟩ := hb.more; clear hb; refine hK _ _ ?_ ?_; (repeat (first | (with_reducible (first | exact Ext.refl _ | exact ext_d _ _ _ _ | exact ext_app _ _ _ _ _ | exact ext_app2 _ _ _ _ _ _ | exact ext_app3 _ _ _ _ _ _ _ | exact ext_app4 _ _ _ _ _ _ _ _ | exact ext_app5 _ _ _ _ _ _ _ _ _)) | ((with_reducible refine ext_suffix ⟨_, ?_⟩); (try simp only [Array.append_assoc]); rfl) | (with_reducible (first | apply Ext.drew | apply Ext.alloc | apply Ext.more_)) | apply Ext.drew | apply Ext.alloc | apply Ext.more_)))
          try simp only [Act.put, zqA, zqB, zqC]
          (refine wpPl_read (v := ?_) rfl ?_ (fun _ h => ?_) ?_; rotate_left 1; rfl; (obtain ⟨_, _, rfl⟩ := h.more; go_simp; try rfl))
          try simp only [Act.put, zqA, zqB, zqC]
          try simp only [Bool.not_true, Bool.not_false, Bool.or_true, Bool.or_false, Bool.true_or, Bool.false_or, Bool.and_true, Bool.and_false, Bool.true_and, Bool.false_and, decide_true, decide_false, q60', k0', k4']
          (refine wpPl_read (v := ?_) rfl ?_ (fun _ h => ?_) ?_; rotate_left 1; rfl; (obtain ⟨_, _, rfl⟩ := h.more; go_simp; try rfl))
          try simp only [Act.put, zqA, zqB, zqC]
          iterate 3 ((first | (refine wpPl_skip rfl rfl ?_) | (refine wpPl_read (v := ?_) rfl ?_ (fun w1 h1 => ?_) ?_; rotate_left 1; rfl; (obtain ⟨os1, d1, rfl⟩ := h1.more; go_simp; first | done | rfl))); try simp only [Act.put, zqA, zqB, zqC])
          try simp only [Bool.not_true, Bool.not_false, Bool.or_true, Bool.or_false, Bool.true_or, Bool.false_or, Bool.and_true, Bool.and_false, Bool.true_and, Bool.false_and, decide_true, decide_false, q60', k0', k4']
          (refine wpPl_read (v := ?_) rfl ?_ (fun _ h => ?_) ?_; rotate_left 1; rfl; (obtain ⟨_, _, rfl⟩ := h.more; go_simp; try rfl))
          try simp only [Act.put, zqA, zqB, zqC]
          try simp only [Bool.not_true, Bool.not_false, Bool.or_true, Bool.or_false, Bool.true_or, Bool.false_or, Bool.and_true, Bool.and_false, Bool.true_and, Bool.false_and, decide_true, decide_false, q60', k0', k4']
          (refine wpPl_read (v := ?_) rfl ?_ (fun _ h => ?_) ?_; rotate_left 1; rfl; (obtain ⟨_, _, rfl⟩ := h.more; go_simp; try rfl))
          try simp only [Act.put, zqA, zqB, zqC]
          first | (refine wpPl_skip rfl rfl ?_) | (refine wpPl_read (v := ?_) rfl ?_ (fun w1 h1 => ?_) ?_; rotate_left 1; rfl; (obtain ⟨os1, d1, rfl⟩ := h1.more; go_simp; first | done | rfl))
          try simp only [Act.put, zqA, zqB, zqC]
          (refine wpPl_eff rfl ?_ (fun K hK => ?_); (first | with_reducible rfl | rfl | (go_simp; done)); go_simp; refine (g1 _).mono ?_; rintro e w' ⟨rfl, hb⟩; obtain ⟨os2, d2, rfl⟩ := hb.more; clear hb; refine hK _ _ ?_ ?_; (repeat (first | (with_reducible (first | exact Ext.refl _ | exact ext_d _ _ _ _ | exact ext_app _ _ _ _ _ | exact ext_app2 _ _ _ _ _ _ | exact ext_app3 _ _ _ _ _ _ _ | exact ext_app4 _ _ _ _ _ _ _ _ | exact ext_app5 _ _ _ _ _ _ _ _ _)) | ((with_reducible refine ext_suffix ⟨_, ?_⟩); (try simp only [Array.append_assoc]); rfl) | (with_reducible (first | apply Ext.drew | apply Ext.alloc | apply Ext.more_)) | apply Ext.drew | apply Ext.alloc | apply Ext.more_)))
          try simp only [Act.put, zqA, zqB, zqC]
          first | (refine wpPl_skip rfl rfl ?_) | (refine wpPl_read (v := ?_) rfl ?_ (fun w1 h1 => ?_) ?_; rotate_left 1; rfl; (obtain ⟨os1, d1, rfl⟩ := h1.more; go_simp; first | done | rfl))
          try simp only [Act.put, zqA, zqB, zqC]
          try simp only [Bool.not_true, Bool.not_false, Bool.or_true, Bool.or_false, Bool.true_or, Bool.false_or, Bool.and_true, Bool.and_false, Bool.true_and, Bool.false_and, decide_true, decide_false, q60', k0', k4']
          (refine wpPl_read (v := ?_) rfl ?_ (fun _ h => ?_) ?_; rotate_left 1; rfl; (obtain ⟨_, _, rfl⟩ := h.more; go_simp; try rfl))
          try simp only [Act.put, zqA, zqB, zqC]
          try simp only [Bool.not_true, Bool.not_false, Bool.or_true, Bool.or_false, Bool.true_or, Bool.false_or, Bool.and_true, Bool.and_false, Bool.true_and, Bool.false_and, decide_true, decide_false, q60', k0', k4']
          (refine wpPl_read (v := ?_) rfl ?_ (fun _ h => ?_) ?_; rotate_left 1; rfl; (obtain ⟨_, _, rfl⟩ := h.more; go_simp; try rfl))
          try simp only [Act.put, zqA, zqB, zqC]
          iterate 3 ((first | (refine wpPl_skip rfl rfl ?_) | (refine wpPl_read (v := ?_) rfl ?_ (fun w1 h1 => ?_) ?_; rotate_left 1; rfl; (obtain ⟨os1, d1, rfl⟩ := h1.more; go_simp; first | done | rfl))); try simp only [Act.put, zqA, zqB, zqC])
          try simp only [Bool.not_true, Bool.not_false, Bool.or_true, Bool.or_false, Bool.true_or, Bool.false_or, Bool.and_true, Bool.and_false, Bool.true_and, Bool.false_and, decide_true, decide_false, q60', k0', k4']
          (refine wpPl_read (v := ?_) rfl ?_ (fun _ h => ?_) ?_; rotate_left 1; rfl; (obtain ⟨_, _, rfl⟩ := h.more; go_simp; try rfl))
          try simp only [Act.put, zqA, zqB, zqC]
          try simp only [Bool.not_true, Bool.not_false, Bool.or_true, Bool.or_false, Bool.true_or, Bool.false_or, Bool.and_true, Bool.and_false, Bool.true_and, Bool.false_and, decide_true, decide_false, q60', k0', k4']
          (refine wpPl_read (v := ?_) rfl ?_ (fun _ h => ?_) ?_; rotate_left 1; rfl; (obtain ⟨_, _, rfl⟩ := h.more; go_simp; try rfl))
          try simp only [Act.put, zqA, zqB, zqC]
          iterate 3 ((first | (refine wpPl_skip rfl rfl ?_) | (refine wpPl_read (v := ?_) rfl ?_ (fun w1 h1 => ?_) ?_; rotate_left 1; rfl; (obtain ⟨os1, d1, rfl⟩ := h1.more; go_simp; first | done | rfl))); try simp only [Act.put, zqA, zqB, zqC])
          try simp only [Bool.not_true, Bool.not_false, Bool.or_true, Bool.or_false, Bool.true_or, Bool.false_or, Bool.and_true, Bool.and_false, Bool.true_and, Bool.false_and, decide_true, decide_false, q60', k0', k4']
          (refine wpPl_read (v := ?_) rfl ?_ (fun _ h => ?_) ?_; rotate_left 1; rfl; (obtain ⟨_, _, rfl⟩ := h.more; go_simp; try rfl))
          try simp only [Act.put, zqA, zqB, zqC]
          try simp only [Bool.not_true, Bool.not_false, Bool.or_true, Bool.or_false, Bool.true_or, Bool.false_or, Bool.and_true, Bool.and_false, Bool.true_and, Bool.false_and, decide_true, decide_false, q60', k0', k4']
          (refine wpPl_read (v := ?_) rfl ?_ (fun _ h => ?_) ?_; rotate_left 1; rfl; (obtain ⟨_, _, rfl⟩ := h.more; go_simp; try rfl))
          try simp only [Act.put, zqA, zqB, zqC]
          first | (refine wpPl_skip rfl rfl ?_) | (refine wpPl_read (v := ?_) rfl ?_ (fun w1 h1 => ?_) ?_; rotate_left 1; rfl; (obtain ⟨os1, d1, rfl⟩ := h1.more; go_simp; first | done | rfl))
          try simp only [Act.put, zqA, zqB, zqC]
          (refine wpPl_effskip rfl ?_ ?_ ?_; (first | with_reducible rfl | rfl | (go_simp; done)); (repeat (first | (with_reducible (first | exact Ext.refl _ | exact ext_d _ _ _ _ | exact ext_app _ _ _ _ _ | exact ext_app2 _ _ _ _ _ _ | exact ext_app3 _ _ _ _ _ _ _ | exact ext_app4 _ _ _ _ _ _ _ _ | exact ext_app5 _ _ _ _ _ _ _ _ _)) | ((with_reducible refine ext_suffix ⟨_, ?_⟩); (try simp only [Array.append_assoc]); rfl) | (with_reducible (first | apply Ext.drew | apply Ext.alloc | apply Ext.more_)) | apply Ext.drew | apply Ext.alloc | apply Ext.more_)))
          try simp only [Act.put, zqA, zqB, zqC]
          first | (refine wpPl_skip rfl rfl ?_) | (refine wpPl_read (v := ?_) rfl ?_ (fun w1 h1 => ?_) ?_; rotate_left 1; rfl; (obtain ⟨os1, d1, rfl⟩ := h1.more; go_simp; first | done | rfl))
          try simp only [Act.put, zqA, zqB, zqC]
          try simp only [Bool.not_true, Bool.not_false, Bool.or_true, Bool.or_false, Bool.true_or, Bool.false_or, Bool.and_true, Bool.and_false, Bool.true_and, Bool.false_and, decide_true, decide_false, q60', k0', k4']
          (refine wpPl_read (v := ?_) rfl ?_ (fun _ h => ?_) ?_; rotate_left 1; rfl; (obtain ⟨_, _, rfl⟩ := h.more; go_simp; try rfl))
          try simp only [Act.put, zqA, zqB, zqC]
          try simp only [Bool.not_true, Bool.not_false, Bool.or_true, Bool.or_false, Bool.true_or, Bool.false_or, Bool.and_true, Bool.and_false, Bool.true_and, Bool.false_and, decide_true, decide_false, q60', k0', k4']
          (refine wpPl_read (v := ?_) rfl ?_ (fun _ h => ?_) ?_; rotate_left 1; rfl; (obtain ⟨_, _, rfl⟩ := h.more; go_simp; try rfl))
          try simp only [Act.put, zqA, zqB, zqC]
          iterate 7 ((first | (refine wpPl_skip rfl rfl ?_) | (refine wpPl_read (v := ?_) rfl ?_ (fun w1 h1 => ?_) ?_; rotate_left 1; rfl; (obtain ⟨os1, d1, rfl⟩ := h1.more; go_simp; first | done | rfl))); try simp only [Act.put, zqA, zqB, zqC])
          try simp only [Bool.not_true, Bool.not_false, Bool.or_true, Bool.or_false, Bool.true_or, Bool.false_or, Bool.and_true, Bool.and_false, Bool.true_and, Bool.false_and, decide_true, decide_false, q60', k0', k4']
          (refine wpPl_read (v := ?_) rfl ?_ (fun _ h => ?_) ?_; rotate_left 1; rfl; (obtain ⟨_, _, rfl⟩ := h.more; go_simp; try rfl))
          try simp only [Act.put, zqA, zqB, zqC]
          try simp only [Bool.not_true, Bool.not_false, Bool.or_true, Bool.or_false, Bool.true_or, Bool.false_or, Bool.and_true, Bool.and_false, Bool.true_and, Bool.false_and, decide_true, decide_false, q60', k0', k4']
          refine wpPl_nil ?_
          go_wp2_with (go_at_call 11; (with_reducible refine (awake14_any _ (HT.out.ext (by repeat (first | (with_reducible (first | exact Ext.refl _ | exact ext_d _ _ _ _ | exact ext_app _ _ _ _ _ | exact ext_app2 _ _ _ _ _ _ | exact ext_app3 _ _ _ _ _ _ _)) | ((with_reducible refine ext_suffix ⟨_, ?_⟩); (try simp only [Array.append_assoc]); rfl) | (with_reducible (first | apply Ext.drew | apply Ext.alloc | apply Ext.more_)))))).mono ?_); rintro e w' ⟨rfl, hb⟩; obtain ⟨os, d, rfl⟩ := hb.more; clear hb); go_ret; exact ⟨rfl, by repeat (first | (with_reducible (first | exact Ext.refl _ | exact ext_d _ _ _ _ | exact ext_app _ _ _ _ _ | exact ext_app2 _ _ _ _ _ _ | exact ext_app3 _ _ _ _ _ _ _)) | ((with_reducible refine ext_suffix ⟨_, ?_⟩); (try simp only [Array.append_assoc]); rfl) | (with_reducible (first | apply Ext.drew | apply Ext.alloc | apply Ext.more_)))⟩
        · have k0' : (v.kind == 0) = false := by simpa using k0
          have k4' : (v.kind == 4) = false := by simpa using k4
          cases hrb : riseB l with
          | false =>
            rw [hrb] at hri
            clear hre hlen k0 k4 hrb
            go_enter Tryz.func3, Tryz.ntmps3
            go_upto_region 1 with fail
            refine wp_plan (S := Ext _) [(0, 1), (1, 0), (2, 0), (3, 0), (4, 0), (5, 0), (6, 0), (7, 0), (8, 0), (9, 1), (10, 0), (11, 0), (12, 0), (13, 0), (14, 0), (15, 0), (16, 0), (17, 0), (18, 0), (19, 0), (20, 0), (21, 0), (22, 0), (23, 0), (24, 1), (25, 0), (26, 0), (27, 0), (28, 0), (29, 0), (30, 0), (31, 0), (32, 0), (33, 0), (34, 0), (35, 0)] [] (by kernel_rfl) (by kernel_rfl) (by kernel_rfl) (fun _ _ d _ _ h => by cases d <;> exact h) (Ext.drew (Ext.refl _)) ?_
            (refine wpPl_eff rfl ?_ (fun K hK => ?_); rfl; go_simp; refine (awake14_any _ (HT.out.ext (by repeat (first | (with_reducible (first | exact Ext.refl _ | exact ext_d _ _ _ _ | exact ext_app _ _ _ _ _ | exact ext_app2 _ _ _ _ _ _ | exact ext_app3 _ _ _ _ _ _ _)) | ((with_reducible refine ext_suffix ⟨_, ?_⟩); (try simp only [Array.append_assoc]); rfl) | (with_reducible (first | apply Ext.drew | apply Ext.alloc | apply Ext.more_)))))).mono ?_; rintro e w' ⟨rfl, hb⟩; obtain ⟨os1, d1, rfl⟩ := hb.more; clear hb; refine hK _ _ ?_ ?_; (repeat (first | (with_reducible (first | exact Ext.refl _ | exact ext_d _ _ _ _ | exact ext_app _ _ _ _ _ | exact ext_app2 _ _ _ _ _ _ | exact ext_app3 _ _ _ _ _ _ _ | exact ext_app4 _ _ _ _ _ _ _ _ | exact ext_app5 _ _ _ _ _ _ _ _ _)) | ((with_reducible refine ext_suffix ⟨_, ?_⟩); (try simp only [Array.append_assoc]); rfl) | (with_reducible (first | apply Ext.drew | apply Ext.alloc | apply Ext.more_)) | apply Ext.drew | apply Ext.alloc | apply Ext.more_)))
            try simp only [Act.put, zqA, zqB, zqC]
            (refine wpPl_read (v := ?_) rfl ?_ (fun _ h => ?_) ?_; rotate_left 1; rfl; (obtain ⟨_, _, rfl⟩ := h.more; go_simp; try rfl))
            try simp only [Act.put, zqA, zqB, zqC]
            try simp only [Bool.not_true, Bool.not_false, Bool.or_true, Bool.or_false, Bool.true_or, Bool.false_or, Bool.and_true, Bool.and_false, Bool.true_and, Bool.false_and, decide_true, decide_false, q60', k0', k4']
            (refine wpPl_read (v := ?_) rfl ?_ (fun _ h => ?_) ?_; rotate_left 1; rfl; (obtain ⟨_, _, rfl⟩ := h.more; go_simp; try rfl))
            try simp only [Act.put, zqA, zqB, zqC]
            iterate 3 ((first | (refine wpPl_skip rfl rfl ?_) | (refine wpPl_read (v := ?_) rfl ?_ (fun w1 h1 => ?_) ?_; rotate_left 1; rfl; (obtain ⟨os1, d1, rfl⟩ := h1.more; go_simp; first | done | rfl))); try simp only [Act.put, zqA, zqB, zqC])
            try simp only [Bool.not_true, Bool.not_false, Bool.or_true, Bool.or_false, Bool.true_or, Bool.false_or, Bool.and_true, Bool.and_false, Bool.true_and, Bool.false_and, decide_true, decide_false, q60', k0', k4']
            (refine wpPl_read (v := ?_) rfl ?_ (fun _ h => ?_) ?_; rotate_left 1; rfl; (obtain ⟨_, _, rfl⟩ := h.more; go_simp; try rfl))
            try simp only [Act.put, zqA, zqB, zqC]
            try simp only [Bool.not_true, Bool.not_false, Bool.or_true, Bool.or_false, Bool.true_or, Bool.false_or, Bool.and_true, Bool.and_false, Bool.true_and, Bool.false_and, decide_true, decide_false, q60', k0', k4']
            (refine wpPl_read (v := ?_) rfl ?_ (fun _ h => ?_) ?_; rotate_left 1; rfl; (obtain ⟨_, _, rfl⟩ := h.more; go_simp; try rfl))
            try simp only [Act.put, zqA, zqB, zqC]
            first | (refine wpPl_skip rfl rfl ?_) | (refine wpPl_read (v := ?_) rfl ?_ (fun w1 h1 => ?_) ?_; rotate_left 1; rfl; (obtain ⟨os1, d1, rfl⟩ := h1.more; go_simp; first | done | rfl))
            try simp only [Act.put, zqA, zqB, zqC]
            (refine wpPl_eff rfl ?_ (fun K hK => ?_); (first | with_reducible rfl | rfl | (go_simp; done)); go_simp; refine (g1 _).mono ?_; rintro e w' ⟨rfl, hb⟩; obtain ⟨os2, d2, rfl⟩ := hb.more; clear hb; refine hK _ _ ?_ ?_; (repeat (first | (with_reducible (first | exact Ext.refl _ | exact ext_d _ _ _ _ | exact ext_app _ _ _ _ _ | exact ext_app2 _ _ _ _ _ _ | exact ext_app3 _ _ _ _ _ _ _ | exact ext_app4 _ _ _ _ _ _ _ _ | exact ext_app5 _ _ _ _ _ _ _ _ _)) | ((with_reducible refine ext_suffix ⟨_, ?_⟩); (try simp only [Array.append_assoc]); rfl) | (with_reducible (first | apply Ext.drew | apply Ext.alloc | apply Ext.more_)) | apply Ext.drew | apply Ext.alloc | apply Ext.more_)))
            try simp only [Act.put, zqA, zqB, zqC]
            first | (refine wpPl_skip rfl rfl ?_) | (refine wpPl_read (v := ?_) rfl ?_ (fun w1 h1 => ?_) ?_; rotate_left 1; rfl; (obtain ⟨os1, d1, rfl⟩ := h1.more; go_simp; first | done | rfl))
            try simp only [Act.put, zqA, zqB, zqC]
            try simp only [Bool.not_true, Bool.not_false, Bool.or_true, Bool.or_false, Bool.true_or, Bool.false_or, Bool.and_true, Bool.and_false, Bool.true_and, Bool.false_and, decide_true, decide_false, q60', k0', k4']
            (refine wpPl_read (v := ?_) rfl ?_ (fun _ h => ?_) ?_; rotate_left 1; rfl; (obtain ⟨_, _, rfl⟩ := h.more; go_simp; try rfl))
            try simp only [Act.put, zqA, zqB, zqC]
            try simp only [Bool.not_true, Bool.not_false, Bool.or_true, Bool.or_false, Bool.true_or, Bool.false_or, Bool.and_true, Bool.and_false, Bool.true_and, Bool.false_and, decide_true, decide_false, q60', k0', k4']
            (refine wpPl_read (v := ?_) rfl ?_ (fun _ h => ?_) ?_; rotate_left 1; rfl; (obtain ⟨_, _, rfl⟩ := h.more; go_simp; try rfl))
            try simp only [Act.put, zqA, zqB, zqC]
            iterate 3 ((first | (refine wpPl_skip rfl rfl ?_) | (refine wpPl_read (v := ?_) rfl ?_ (fun w1 h1 => ?_) ?_; rotate_left 1; rfl; (obtain ⟨os1, d1, rfl⟩ := h1.more; go_simp; first | done | rfl))); try simp only [Act.put, zqA, zqB, zqC])
            try simp only [Bool.not_true, Bool.not_false, Bool.or_true, Bool.or_false, Bool.true_or, Bool.false_or, Bool.and_true, Bool.and_false, Bool.true_and, Bool.false_and, decide_true, decide_false, q60', k0', k4']
            (refine wpPl_read (v := ?_) rfl ?_ (fun _ h => ?_) ?_; rotate_left 1; rfl; (obtain ⟨_, _, rfl⟩ := h.more; go_simp; try rfl))
            try simp only [Act.put, zqA, zqB, zqC]
            try simp only [Bool.not_true, Bool.not_false, Bool.or_true, Bool.or_false, Bool.true_or, Bool.false_or, Bool.and_true, Bool.and_false, Bool.true_and, Bool.false_and, decide_true, decide_false, q60', k0', k4']
            (refine wpPl_read (v := ?_) rfl ?_ (fun _ h => ?_) ?_; rotate_left 1; rfl; (obtain ⟨_, _, rfl⟩ := h.more; go_simp; try rfl))
            try simp only [Act.put, zqA, zqB, zqC]
            iterate 3 ((first | (refine wpPl_skip rfl rfl ?_) | (refine wpPl_read (v := ?_) rfl ?_ (fun w1 h1 => ?_) ?_; rotate_left 1; rfl; (obtain ⟨os1, d1, rfl⟩ := h1.more; go_simp; first | done | rfl))); try simp only [Act.put, zqA, zqB, zqC])
            try simp only [Bool.not_true, Bool.not_false, Bool.or_true, Bool.or_false, Bool.true_or, Bool.false_or, Bool.and_true, Bool.and_false, Bool.true_and, Bool.false_and, decide_true, decide_false, q60', k0', k4']
            (refine wpPl_read (v := ?_) rfl ?_ (fun _ h => ?_) ?_; rotate_left 1; rfl; (obtain ⟨_, _, rfl⟩ := h.more; go_simp; try rfl))
            try simp only [Act.put, zqA, zqB, zqC]
            try simp only [Bool.not_true, Bool.not_false, Bool.or_true, Bool.or_false, Bool.true_or, Bool.false_or, Bool.and_true, Bool.and_false, Bool.true_and, Bool.false_and, decide_true, decide_false, q60', k0', k4']
            (refine wpPl_read (v := ?_) rfl ?_ (fun _ h => ?_) ?_; rotate_left 1; rfl; (obtain ⟨_, _, rfl⟩ := h.more; go_simp; try rfl))
            try simp only [Act.put, zqA, zqB, zqC]
            first | (refine wpPl_skip rfl rfl ?_) | (refine wpPl_read (v := ?_) rfl ?_ (fun w1 h1 => ?_) ?_; rotate_left 1; rfl; (obtain ⟨os1, d1, rfl⟩ := h1.more; go_simp; first | done | rfl))
            try simp only [Act.put, zqA, zqB, zqC]
            (refine wpPl_eff rfl ?_ (fun K hK => ?_); (first | with_reducible rfl | rfl | (go_simp; done)); go_simp; refine (hri _ (by repeat (first | (with_reducible (first | exact Ext.refl _ | exact ext_d _ _ _ _ | exact ext_app _ _ _ _ _ | exact ext_app2 _ _ _ _ _ _ | exact ext_app3 _ _ _ _ _ _ _)) | ((with_reducible refine ext_suffix ⟨_, ?_⟩); (try simp only [Array.append_assoc]); rfl) | (with_reducible (first | apply Ext.drew | apply Ext.alloc | apply Ext.more_))))).mono ?_; rintro e w' ⟨rfl, hb⟩; obtain ⟨os3, d3, rfl⟩ := hb.more; clear hb; refine hK _ _ ?_ ?_; (repeat (first | (with_reducible (first | exact Ext.refl _ | exact ext_d _ _ _ _ | exact ext_app _ _ _ _ _ | exact ext_app2 _ _ _ _ _ _ | exact ext_app3 _ _ _ _ _ _ _ | exact ext_app4 _ _ _ _ _ _ _ _ | exact ext_app5 _ _ _ _ _ _ _ _ _)) | ((with_reducible refine ext_suffix ⟨_, ?_⟩); (try simp only [Array.append_assoc]); rfl) | (with_reducible (first | apply Ext.drew | apply Ext.alloc | apply Ext.more_)) | apply Ext.drew | apply Ext.alloc | apply Ext.more_)))
            try simp only [Act.put, zqA, zqB, zqC]
            first | (refine wpPl_skip rfl rfl ?_) | (refine wpPl_read (v := ?_) rfl ?_ (fun w1 h1 => ?_) ?_; rotate_left 1; rfl; (obtain ⟨os1, d1, rfl⟩ := h1.more; go_simp; first | done | rfl))
            try simp only [Act.put, zqA, zqB, zqC]
            try simp only [Bool.not_true, Bool.not_false, Bool.or_true, Bool.or_false, Bool.true_or, Bool.false_or, Bool.and_true, Bool.and_false, Bool.true_and, Bool.false_and, decide_true, decide_false, q60', k0', k4']
            (refine wpPl_read (v := ?_) rfl ?_ (fun _ h => ?_) ?_; rotate_left 1; rfl; (obtain ⟨_, _, rfl⟩ := h.more; go_simp; try rfl))
            try simp only [Act.put, zqA, zqB, zqC]
            try simp only [Bool.not_true, Bool.not_false, Bool.or_true, Bool.or_false, Bool.true_or, Bool.false_or, Bool.and_true, Bool.and_false, Bool.true_and, Bool.false_and, decide_true, decide_false, q60', k0', k4']
            (refine wpPl_read (v := ?_) rfl ?_ (fun _ h => ?_) ?_; rotate_left 1; rfl; (obtain ⟨_, _, rfl⟩ := h.more; go_simp; try rfl))
            try simp only [Act.put, zqA, zqB, zqC]
            iterate 7 ((first | (refine wpPl_skip rfl rfl ?_) | (refine wpPl_read (v := ?_) rfl ?_ (fun w1 h1 => ?_) ?_; rotate_left 1; rfl; (obtain ⟨os1, d1, rfl⟩ := h1.more; go_simp; first | done | rfl))); try simp only [Act.put, zqA, zqB, zqC])
            try simp only [Bool.not_true, Bool.not_false, Bool.or_true, Bool.or_false, Bool.true_or, Bool.false_or, Bool.and_true, Bool.and_false, Bool.true_and, Bool.false_and, decide_true, decide_false, q60', k0', k4']
            (refine wpPl_read (v := ?_) rfl ?_ (fun _ h => ?_) ?_; rotate_left 1; rfl; (obtain ⟨_, _, rfl⟩ := h.more; go_simp; try rfl))
            try simp only [Act.put, zqA, zqB, zqC]
            try simp only [Bool.not_true, Bool.not_false, Bool.or_true, Bool.or_false, Bool.true_or, Bool.false_or, Bool.and_true, Bool.and_false, Bool.true_and, Bool.false_and, decide_true, decide_false, q60', k0', k4']
            refine wpPl_nil ?_
            go_wp2_with (go_at_call 11; (with_reducible refine (awake14_any _ (HT.out.ext (by repeat (first | (with_reducible (first | exact Ext.refl _ | exact ext_d _ _ _ _ | exact ext_app _ _ _ _ _ | exact ext_app2 _ _ _ _ _ _ | exact ext_app3 _ _ _ _ _ _ _)) | ((with_reducible refine ext_suffix ⟨_, ?_⟩); (try simp only [Array.append_assoc]); rfl) | (with_reducible (first | apply Ext.drew | apply Ext.alloc | apply Ext.more_)))))).mono ?_); rintro e w' ⟨rfl, hb⟩; obtain ⟨os, d, rfl⟩ := hb.more; clear hb); go_ret; exact ⟨rfl, by repeat (first | (with_reducible (first | exact Ext.refl _ | exact ext_d _ _ _ _ | exact ext_app _ _ _ _ _ | exact ext_app2 _ _ _ _ _ _ | exact ext_app3 _ _ _ _ _ _ _)) | ((with_reducible refine ext_suffix ⟨_, ?_⟩); (try simp only [Array.append_assoc]); rfl) | (with_reducible (first | apply Ext.drew | apply Ext.alloc | apply Ext.more_)))⟩
          | true =>
            rw [hrb] at hri
            have hn1 : 0 < n := by
              cases l with
              | nil => cases hrb
              | cons a l => rw [← hlen]; simp
            obtain ⟨z, b, off, hz, hzo, rfl, ⟨z0, z1, z2, z3, z4, z5⟩⟩ := h.at hn1
            simp only [Nat.zero_mul, Nat.add_zero] at z0
            have hbl : b < w.heap.size := lt_of_cell z0
            clear z1 z2 z3 z4 z5
            by_cases kz : z.kind = v.kind
            · have kz' : (z.kind != v.kind) = false := by simp [kz]
              have HM := fun (hrt : ∀ x ∈ l, valRight x = true) => riseB_yes (v := v) hrb hrt (fun y hy => by rw [hz] at hy; rw [← Option.some.inj hy]; exact kz) k0
              clear hre kz hz hzo hrb
              go_enter Tryz.func3, Tryz.ntmps3
              go_upto_region 1 with fail
              refine wp_plan (S := Ext _) [(0, 1), (1, 0), (2, 0), (3, 0), (4, 0), (5, 0), (6, 0), (7, 0), (8, 0), (9, 1), (10, 0), (11, 0), (12, 0), (13, 0), (14, 0), (15, 0), (16, 0), (17, 0), (18, 0), (19, 0), (20, 0), (21, 0), (22, 0), (23, 0), (24, 1), (25, 0), (26, 0), (27, 0), (28, 0), (29, 0), (30, 0), (31, 0), (32, 0), (33, 0), (34, 0), (35, 0)] [] (by kernel_rfl) (by kernel_rfl) (by kernel_rfl) (fun _ _ d _ _ h => by cases d <;> exact h) (Ext.drew (Ext.refl _)) ?_
              (refine wpPl_eff rfl ?_ (fun K hK => ?_); rfl; go_simp; refine (awake14_any _ (HT.out.ext (by repeat (first | (with_reducible (first | exact Ext.refl _ | exact ext_d _ _ _ _ | exact ext_app _ _ _ _ _ | exact ext_app2 _ _ _ _ _ _ | exact ext_app3 _ _ _ _ _ _ _)) | ((with_reducible refine ext_suffix ⟨_, ?_⟩); (try simp only [Array.append_assoc]); rfl) | (with_reducible (first | apply Ext.drew | apply Ext.alloc | apply Ext.more_)))))).mono ?_; rintro e w' ⟨rfl, hb⟩; obtain ⟨os1, d1, rfl⟩ := hb.more; clear hb; refine hK _ _ ?_ ?_; (repeat (first | (with_reducible (first | exact Ext.refl _ | exact ext_d _ _ _ _ | exact ext_app _ _ _ _ _ | exact ext_app2 _ _ _ _ _ _ | exact ext_app3 _ _ _ _ _ _ _ | exact ext_app4 _ _ _ _ _ _ _ _ | exact ext_app5 _ _ _ _ _ _ _ _ _)) | ((with_reducible refine ext_suffix ⟨_, ?_⟩); (try simp only [Array.append_assoc]); rfl) | (with_reducible (first | apply Ext.drew | apply Ext.alloc | apply Ext.more_)) | apply Ext.drew | apply Ext.alloc | apply Ext.more_)))
              try simp only [Act.put, zqA, zqB, zqC]
              (refine wpPl_read (v := ?_) rfl ?_ (fun _ h => ?_) ?_; rotate_left 1; rfl; (obtain ⟨_, _, rfl⟩ := h.more; go_simp; try rfl))
              try simp only [Act.put, zqA, zqB, zqC]
              try simp only [Bool.not_true, Bool.not_false, Bool.or_true, Bool.or_false, Bool.true_or, Bool.false_or, Bool.and_true, Bool.and_false, Bool.true_and, Bool.false_and, decide_true, decide_false, q60', k0', k4', kz']
              (refine wpPl_read (v := ?_) rfl ?_ (fun _ h => ?_) ?_; rotate_left 1; rfl; (obtain ⟨_, _, rfl⟩ := h.more; go_simp; try rfl))
              try simp only [Act.put, zqA, zqB, zqC]
              iterate 3 ((first | (refine wpPl_skip rfl rfl ?_) | (refine wpPl_read (v := ?_) rfl ?_ (fun w1 h1 => ?_) ?_; rotate_left 1; rfl; (obtain ⟨os1, d1, rfl⟩ := h1.more; go_simp; first | done | rfl))); try simp only [Act.put, zqA, zqB, zqC])
              try simp only [Bool.not_true, Bool.not_false, Bool.or_true, Bool.or_false, Bool.true_or, Bool.false_or, Bool.and_true, Bool.and_false, Bool.true_and, Bool.false_and, decide_true, decide_false, q60', k0', k4', kz']
              (refine wpPl_read (v := ?_) rfl ?_ (fun _ h => ?_) ?_; rotate_left 1; rfl; (obtain ⟨_, _, rfl⟩ := h.more; go_simp; try rfl))
              try simp only [Act.put, zqA, zqB, zqC]
              try simp only [Bool.not_true, Bool.not_false, Bool.or_true, Bool.or_false, Bool.true_or, Bool.false_or, Bool.and_true, Bool.and_false, Bool.true_and, Bool.false_and, decide_true, decide_false, q60', k0', k4', kz']
              (refine wpPl_read (v := ?_) rfl ?_ (fun _ h => ?_) ?_; rotate_left 1; rfl; (obtain ⟨_, _, rfl⟩ := h.more; go_simp; try rfl))
              try simp only [Act.put, zqA, zqB, zqC]
              first | (refine wpPl_skip rfl rfl ?_) | (refine wpPl_read (v := ?_) rfl ?_ (fun w1 h1 => ?_) ?_; rotate_left 1; rfl; (obtain ⟨os1, d1, rfl⟩ := h1.more; go_simp; first | done | rfl))
              try simp only [Act.put, zqA, zqB, zqC]
              (refine wpPl_eff rfl ?_ (fun K hK => ?_); (first | with_reducible rfl | rfl | (go_simp; done)); go_simp; refine (g1 _).mono ?_; rintro e w' ⟨rfl, hb⟩; obtain ⟨os2, d2, rfl⟩ := hb.more; clear hb; refine hK _ _ ?_ ?_; (repeat (first | (with_reducible (first | exact Ext.refl _ | exact ext_d _ _ _ _ | exact ext_app _ _ _ _ _ | exact ext_app2 _ _ _ _ _ _ | exact ext_app3 _ _ _ _ _ _ _ | exact ext_app4 _ _ _ _ _ _ _ _ | exact ext_app5 _ _ _ _ _ _ _ _ _)) | ((with_reducible refine ext_suffix ⟨_, ?_⟩); (try simp only [Array.append_assoc]); rfl) | (with_reducible (first | apply Ext.drew | apply Ext.alloc | apply Ext.more_)) | apply Ext.drew | apply Ext.alloc | apply Ext.more_)))
              try simp only [Act.put, zqA, zqB, zqC]
              first | (refine wpPl_skip rfl rfl ?_) | (refine wpPl_read (v := ?_) rfl ?_ (fun w1 h1 => ?_) ?_; rotate_left 1; rfl; (obtain ⟨os1, d1, rfl⟩ := h1.more; go_simp; first | done | rfl))
              try simp only [Act.put, zqA, zqB, zqC]
              try simp only [Bool.not_true, Bool.not_false, Bool.or_true, Bool.or_false, Bool.true_or, Bool.false_or, Bool.and_true, Bool.and_false, Bool.true_and, Bool.false_and, decide_true, decide_false, q60', k0', k4', kz']
              (refine wpPl_read (v := ?_) rfl ?_ (fun _ h => ?_) ?_; rotate_left 1; rfl; (obtain ⟨_, _, rfl⟩ := h.more; go_simp; try rfl))
              try simp only [Act.put, zqA, zqB, zqC]
              try simp only [Bool.not_true, Bool.not_false, Bool.or_true, Bool.or_false, Bool.true_or, Bool.false_or, Bool.and_true, Bool.and_false, Bool.true_and, Bool.false_and, decide_true, decide_false, q60', k0', k4', kz']
              (refine wpPl_read (v := ?_) rfl ?_ (fun _ h => ?_) ?_; rotate_left 1; rfl; (obtain ⟨_, _, rfl⟩ := h.more; go_simp; try rfl))
              try simp only [Act.put, zqA, zqB, zqC]
              iterate 3 ((first | (refine wpPl_skip rfl rfl ?_) | (refine wpPl_read (v := ?_) rfl ?_ (fun w1 h1 => ?_) ?_; rotate_left 1; rfl; (obtain ⟨os1, d1, rfl⟩ := h1.more; go_simp; first | done | rfl))); try simp only [Act.put, zqA, zqB, zqC])
              try simp only [Bool.not_true, Bool.not_false, Bool.or_true, Bool.or_false, Bool.true_or, Bool.false_or, Bool.and_true, Bool.and_false, Bool.true_and, Bool.false_and, decide_true, decide_false, q60', k0', k4', kz']
              (refine wpPl_read (v := ?_) rfl ?_ (fun _ h => ?_) ?_; rotate_left 1; rfl; (obtain ⟨_, _, rfl⟩ := h.more; go_simp; try rfl))
              try simp only [Act.put, zqA, zqB, zqC]
              try simp only [Bool.not_true, Bool.not_false, Bool.or_true, Bool.or_false, Bool.true_or, Bool.false_or, Bool.and_true, Bool.and_false, Bool.true_and, Bool.false_and, decide_true, decide_false, q60', k0', k4', kz']
              (refine wpPl_read (v := ?_) rfl ?_ (fun _ h => ?_) ?_; rotate_left 1; rfl; (obtain ⟨_, _, rfl⟩ := h.more; go_simp; try rfl))
              try simp only [Act.put, zqA, zqB, zqC]
              iterate 3 ((first | (refine wpPl_skip rfl rfl ?_) | (refine wpPl_read (v := ?_) rfl ?_ (fun w1 h1 => ?_) ?_; rotate_left 1; rfl; (obtain ⟨os1, d1, rfl⟩ := h1.more; go_simp; first | done | rfl))); try simp only [Act.put, zqA, zqB, zqC])
              try simp only [Bool.not_true, Bool.not_false, Bool.or_true, Bool.or_false, Bool.true_or, Bool.false_or, Bool.and_true, Bool.and_false, Bool.true_and, Bool.false_and, decide_true, decide_false, q60', k0', k4', kz']
              (refine wpPl_read (v := ?_) rfl ?_ (fun _ h => ?_) ?_; rotate_left 1; rfl; (obtain ⟨_, _, rfl⟩ := h.more; go_simp; try rfl))
              try simp only [Act.put, zqA, zqB, zqC]
              try simp only [Bool.not_true, Bool.not_false, Bool.or_true, Bool.or_false, Bool.true_or, Bool.false_or, Bool.and_true, Bool.and_false, Bool.true_and, Bool.false_and, decide_true, decide_false, q60', k0', k4', kz']
              (refine wpPl_read (v := ?_) rfl ?_ (fun _ h => ?_) ?_; rotate_left 1; rfl; (obtain ⟨_, _, rfl⟩ := h.more; go_simp; try rfl))
              try simp only [Act.put, zqA, zqB, zqC]
              first | (refine wpPl_skip rfl rfl ?_) | (refine wpPl_read (v := ?_) rfl ?_ (fun w1 h1 => ?_) ?_; rotate_left 1; rfl; (obtain ⟨os1, d1, rfl⟩ := h1.more; go_simp; first | done | rfl))
              try simp only [Act.put, zqA, zqB, zqC]
              (refine wpPl_eff rfl ?_ (fun K hK => ?_); (first | with_reducible rfl | rfl | (go_simp; done)); go_simp; refine (hri _ (by repeat (first | (with_reducible (first | exact Ext.refl _ | exact ext_d _ _ _ _ | exact ext_app _ _ _ _ _ | exact ext_app2 _ _ _ _ _ _ | exact ext_app3 _ _ _ _ _ _ _)) | ((with_reducible refine ext_suffix ⟨_, ?_⟩); (try simp only [Array.append_assoc]); rfl) | (with_reducible (first | apply Ext.drew | apply Ext.alloc | apply Ext.more_))))).mono ?_; rintro e w' ⟨rfl, hb⟩; obtain ⟨os3, d3, rfl⟩ := hb.more; clear hb; refine hK _ _ ?_ ?_; (repeat (first | (with_reducible (first | exact Ext.refl _ | exact ext_d _ _ _ _ | exact ext_app _ _ _ _ _ | exact ext_app2 _ _ _ _ _ _ | exact ext_app3 _ _ _ _ _ _ _ | exact ext_app4 _ _ _ _ _ _ _ _ | exact ext_app5 _ _ _ _ _ _ _ _ _)) | ((with_reducible refine ext_suffix ⟨_, ?_⟩); (try simp only [Array.append_assoc]); rfl) | (with_reducible (first | apply Ext.drew | apply Ext.alloc | apply Ext.more_)) | apply Ext.drew | apply Ext.alloc | apply Ext.more_)))
              try simp only [Act.put, zqA, zqB, zqC]
              first | (refine wpPl_skip rfl rfl ?_) | (refine wpPl_read (v := ?_) rfl ?_ (fun w1 h1 => ?_) ?_; rotate_left 1; rfl; (obtain ⟨os1, d1, rfl⟩ := h1.more; go_simp; first | done | rfl))
              try simp only [Act.put, zqA, zqB, zqC]
              try simp only [Bool.not_true, Bool.not_false, Bool.or_true, Bool.or_false, Bool.true_or, Bool.false_or, Bool.and_true, Bool.and_false, Bool.true_and, Bool.false_and, decide_true, decide_false, q60', k0', k4', kz']
              (refine wpPl_read (v := ?_) rfl ?_ (fun _ h => ?_) ?_; rotate_left 1; rfl; (obtain ⟨_, _, rfl⟩ := h.more; go_simp; try rfl))
              try simp only [Act.put, zqA, zqB, zqC]
              try simp only [Bool.not_true, Bool.not_false, Bool.or_true, Bool.or_false, Bool.true_or, Bool.false_or, Bool.and_true, Bool.and_false, Bool.true_and, Bool.false_and, decide_true, decide_false, q60', k0', k4', kz']
              (refine wpPl_read (v := ?_) rfl ?_ (fun _ h => ?_) ?_; rotate_left 1; rfl; (obtain ⟨_, _, rfl⟩ := h.more; go_simp; try rfl))
              try simp only [Act.put, zqA, zqB, zqC]
              iterate 7 ((first | (refine wpPl_skip rfl rfl ?_) | (refine wpPl_read (v := ?_) rfl ?_ (fun w1 h1 => ?_) ?_; rotate_left 1; rfl; (obtain ⟨os1, d1, rfl⟩ := h1.more; go_simp; first | done | rfl))); try simp only [Act.put, zqA, zqB, zqC])
              try simp only [Bool.not_true, Bool.not_false, Bool.or_true, Bool.or_false, Bool.true_or, Bool.false_or, Bool.and_true, Bool.and_false, Bool.true_and, Bool.false_and, decide_true, decide_false, q60', k0', k4', kz']
              (refine wpPl_read (v := ?_) rfl ?_ (fun _ h => ?_) ?_; rotate_left 1; rfl; (obtain ⟨_, _, rfl⟩ := h.more; go_simp; try rfl))
              try simp only [Act.put, zqA, zqB, zqC]
              try simp only [Bool.not_true, Bool.not_false, Bool.or_true, Bool.or_false, Bool.true_or, Bool.false_or, Bool.and_true, Bool.and_false, Bool.true_and, Bool.false_and, decide_true, decide_false, q60', k0', k4', kz']
              refine wpPl_nil ?_
              clear q60' k0' k4' kz' z0
              go_wp2_with fail
              refine wp_world fun W1 hW1 => ?_
              have hx1 : Ext w W1 := by rw [hW1]; exact (by repeat (first | (with_reducible (first | exact Ext.refl _ | exact ext_d _ _ _ _ | exact ext_app _ _ _ _ _ | exact ext_app2 _ _ _ _ _ _ | exact ext_app3 _ _ _ _ _ _ _)) | ((with_reducible refine ext_suffix ⟨_, ?_⟩); (try simp only [Array.append_assoc]); rfl) | (with_reducible (first | apply Ext.drew | apply Ext.alloc | apply Ext.more_))))
              have r1 : W1.heap[w.heap.size]? = some (.cells #[.int .i64 v.kind, .int .i64 v.mant, .int .i64 v.exp, .string v.text, .bool v.truth, .int .i64 v.fault] 26) := by
                rw [hW1]; exact ((ext_more _ _ _).block (by simp)).trans (heap_alloc_new _ _)
              clear hW1
              have p0 := lt_of_block r1
              have a0 : W1.cell? ⟨w.heap.size, 0, none⟩ = some (.int .i64 v.kind) := cell_of_row _ _ 0 _ _ _ r1
              have a1 : W1.cell? ⟨w.heap.size, 1, none⟩ = some (.int .i64 v.mant) := cell_of_row _ _ 1 _ _ _ r1
              have a2 : W1.cell? ⟨w.heap.size, 2, none⟩ = some (.int .i64 v.exp) := cell_of_row _ _ 2 _ _ _ r1
              have a3 : W1.cell? ⟨w.heap.size, 3, none⟩ = some (.string v.text) := cell_of_row _ _ 3 _ _ _ r1
              have a4 : W1.cell? ⟨w.heap.size, 4, none⟩ = some (.bool v.truth) := cell_of_row _ _ 4 _ _ _ r1
              have a5 : W1.cell? ⟨w.heap.size, 5, none⟩ = some (.int .i64 v.fault) := cell_of_row _ _ 5 _ _ _ r1
              have h1 := h.ext hx1
              clear r1 g1 hri
              go_loopw [5] (fun i wr => ∃ k : Nat, k ≤ n ∧ i = .int .i64 k ∧ Ext W1 wr ∧ Hid (∀ j x, j < k → l[j]? = some x → valRight x = true)) (fun i _ => n - (intOf i).toNat)
              case atStart => exact ⟨0, Nat.zero_le _, rfl, Ext.refl _, fun j x hj => by omega⟩
              case round =>
                obtain ⟨k, hk, rfl, hX, H⟩ := hrel
                obtain ⟨os, d, rfl⟩ := hX.more
                clear hX
                by_cases hlt : k < n
                · obtain ⟨x, b', off', hx, hxo, e', ⟨x0, x1, x2, x3, x4, x5⟩⟩ := h1.at hlt
                  simp only [Option.some.injEq, Addr.mk.injEq, and_true] at e'
                  obtain ⟨rfl, rfl⟩ := e'
                  have hbl1 : b < W1.heap.size := lt_of_cell x0
                  have g2 := fun W => refRight_any x.kind x.mant x.exp x.fault x.text x.truth W hxo.2.1 hxo.2.2.2.1
                  rw [show refRight ⟨x.kind, x.mant, x.exp, x.text, x.truth, x.fault⟩ = valRight x from (right_eq x hxo).symm] at g2
                  cases hxr : valRight x with
                  | false =>
                    rw [hxr] at g2
                    clear hxr hx H
                    go_wp2_with (go_at_call 12; (with_reducible refine (g2 _).mono ?_); rintro e w' ⟨rfl, hb⟩; obtain ⟨os, d, rfl⟩ := hb.more; clear hb)
                    go_ret
                    exact ⟨rfl, hx1.trans (by repeat (first | (with_reducible (first | exact Ext.refl _ | exact ext_d _ _ _ _ | exact ext_app _ _ _ _ _ | exact ext_app2 _ _ _ _ _ _ | exact ext_app3 _ _ _ _ _ _ _)) | ((with_reducible refine ext_suffix ⟨_, ?_⟩); (try simp only [Array.append_assoc]); rfl) | (with_reducible (first | apply Ext.drew | apply Ext.alloc | apply Ext.more_))))⟩
                  | true =>
                    rw [hxr] at g2
                    have H2 : Hid (∀ j x, j < k + 1 → l[j]? = some x → valRight x = true) := by
                      show ∀ j x, j < k + 1 → l[j]? = some x → valRight x = true
                      intro j y hj hy
                      by_cases hjk : j = k
                      · subst hjk; rw [hx] at hy; rw [← Option.some.inj hy]; exact hxr
                      · exact H.out j y (by omega) hy
                    clear hxr hx H
                    go_wp2_with (go_at_call 12; (with_reducible refine (g2 _).mono ?_); rintro e w' ⟨rfl, hb⟩; obtain ⟨os, d, rfl⟩ := hb.more; clear hb)
                    exact ⟨⟨k + 1, by omega, by go_num, by repeat (first | (with_reducible (first | exact Ext.refl _ | exact ext_d _ _ _ _ | exact ext_app _ _ _ _ _ | exact ext_app2 _ _ _ _ _ _ | exact ext_app3 _ _ _ _ _ _ _)) | ((with_reducible refine ext_suffix ⟨_, ?_⟩); (try simp only [Array.append_assoc]); rfl) | (with_reducible (first | apply Ext.drew | apply Ext.alloc | apply Ext.more_))), H2⟩, by simp [intOf]; omega⟩
                · have hrt : ∀ x ∈ l, valRight x = true := by
                    intro x hx
                    obtain ⟨i, hi, rfl⟩ := List.mem_iff_getElem.1 hx
                    exact H.out i _ (by omega) (List.getElem?_eq_getElem hi)
                  obtain ⟨_, hris, hkd⟩ := HM hrt
                  have hM := upTo_sorted hris hkd hrt rv
                  have hJ := just_sorted hris hkd hrt rv
                  have hP1 := fun W (hW : Ext W1 W) => place_any v _ n cap l 1 (upToN l v) W (HT.out.ext (hx1.trans hW)) (h1.ext hW) hn1 (by omega) hrt rv k0 k4 (Or.inr ⟨rfl, rfl⟩)
                  have hP0 := fun W (hW : Ext W1 W) => place_any v _ n cap l 0 (justN l v) W (HT.out.ext (hx1.trans hW)) (h1.ext hW) hn1 (by omega) hrt rv k0 k4 (Or.inl ⟨rfl, rfl⟩)
                  rw [hM] at hP1
                  rw [hJ] at hP0
                  clear hM hJ H HM
                  have HR := Lib.hid hrt
                  have HK := Lib.hid hkd
                  have K0 := Lib.hid k0
                  have RV := Lib.hid rv
                  clear hrt hkd k0 k4 hris rv
                  go_wp2_with fail
                  go_loopw [6, 7, 8] (fun a c i wr => ∃ k : Nat, k ≤ n ∧ a = .int .i64 ((fromN (fun x => decide (0 < cmpV x v)) (l.drop k) k : Nat) : Int) ∧ c = .int .i64 ((fromN (fun x => decide (0 ≤ cmpV x v)) (l.drop k) k : Nat) : Int) ∧ i = .int .i64 ((k : Int) - 1) ∧ Ext W1 wr) (fun _ _ i _ => (intOf i + 1).toNat)
                  case atStart =>
                    refine ⟨n, Nat.le_refl _, ?_, ?_, rfl, by repeat (first | (with_reducible (first | exact Ext.refl _ | exact ext_d _ _ _ _ | exact ext_app _ _ _ _ _ | exact ext_app2 _ _ _ _ _ _ | exact ext_app3 _ _ _ _ _ _ _)) | ((with_reducible refine ext_suffix ⟨_, ?_⟩); (try simp only [Array.append_assoc]); rfl) | (with_reducible (first | apply Ext.drew | apply Ext.alloc | apply Ext.more_)))⟩ <;> rw [List.drop_eq_nil_of_le (by omega)] <;> rfl
                  case round =>
                    obtain ⟨k2, hk2, rfl, rfl, rfl, hX⟩ := hrel
                    obtain ⟨os4, d4, rfl⟩ := hX.more
                    clear hX
                    by_cases hk0 : k2 = 0
                    · subst hk0
                      have hLn := (fromN_range (fun x => decide (0 ≤ cmpV x v)) l 0).2
                      simp only [List.drop_zero]
                      rw [show fromN (fun x => decide (0 < cmpV x v)) l 0 = moreN l v from rfl, show fromN (fun x => decide (0 ≤ cmpV x v)) l 0 = leastN l v from rfl]
                      rw [show fromN (fun x => decide (0 ≤ cmpV x v)) l 0 = leastN l v from rfl] at hLn
                      generalize moreN l v = M at *
                      generalize leastN l v = L at *
                      by_cases hLM : L < M
                      · have hLM' : (L : Int) < (M : Int) := by omega
                        rw [if_pos hLM, show ((L + 1 : Nat) : Int) = (L : Int) + 1 by omega] at hP0
                        go_wp2_with (first | (go_at_call 15; (with_reducible refine (hP1 _ (by repeat (first | (with_reducible (first | exact Ext.refl _ | exact ext_d _ _ _ _ | exact ext_app _ _ _ _ _ | exact ext_app2 _ _ _ _ _ _ | exact ext_app3 _ _ _ _ _ _ _)) | ((with_reducible refine ext_suffix ⟨_, ?_⟩); (try simp only [Array.append_assoc]); rfl) | (with_reducible (first | apply Ext.drew | apply Ext.alloc | apply Ext.more_))))).mono ?_); rintro e w' ⟨rfl, hb⟩; obtain ⟨os, d, rfl⟩ := hb.more; clear hb) | (go_at_call 15; (with_reducible refine (hP0 _ (by repeat (first | (with_reducible (first | exact Ext.refl _ | exact ext_d _ _ _ _ | exact ext_app _ _ _ _ _ | exact ext_app2 _ _ _ _ _ _ | exact ext_app3 _ _ _ _ _ _ _)) | ((with_reducible refine ext_suffix ⟨_, ?_⟩); (try simp only [Array.append_assoc]); rfl) | (with_reducible (first | apply Ext.drew | apply Ext.alloc | apply Ext.more_))))).mono ?_); rintro e w' ⟨rfl, hb⟩; obtain ⟨os, d, rfl⟩ := hb.more; clear hb))
                        go_ret
                        exact ⟨rfl, hx1.trans (by repeat (first | (with_reducible (first | exact Ext.refl _ | exact ext_d _ _ _ _ | exact ext_app _ _ _ _ _ | exact ext_app2 _ _ _ _ _ _ | exact ext_app3 _ _ _ _ _ _ _)) | ((with_reducible refine ext_suffix ⟨_, ?_⟩); (try simp only [Array.append_assoc]); rfl) | (with_reducible (first | apply Ext.drew | apply Ext.alloc | apply Ext.more_))))⟩
                      · have hLM' : ¬ (L : Int) < (M : Int) := by omega
                        rw [if_neg hLM, show ((0 : Nat) : Int) = 0 from rfl] at hP0
                        go_wp2_with (first | (go_at_call 15; (with_reducible refine (hP1 _ (by repeat (first | (with_reducible (first | exact Ext.refl _ | exact ext_d _ _ _ _ | exact ext_app _ _ _ _ _ | exact ext_app2 _ _ _ _ _ _ | exact ext_app3 _ _ _ _ _ _ _)) | ((with_reducible refine ext_suffix ⟨_, ?_⟩); (try simp only [Array.append_assoc]); rfl) | (with_reducible (first | apply Ext.drew | apply Ext.alloc | apply Ext.more_))))).mono ?_); rintro e w' ⟨rfl, hb⟩; obtain ⟨os, d, rfl⟩ := hb.more; clear hb) | (go_at_call 15; (with_reducible refine (hP0 _ (by repeat (first | (with_reducible (first | exact Ext.refl _ | exact ext_d _ _ _ _ | exact ext_app _ _ _ _ _ | exact ext_app2 _ _ _ _ _ _ | exact ext_app3 _ _ _ _ _ _ _)) | ((with_reducible refine ext_suffix ⟨_, ?_⟩); (try simp only [Array.append_assoc]); rfl) | (with_reducible (first | apply Ext.drew | apply Ext.alloc | apply Ext.more_))))).mono ?_); rintro e w' ⟨rfl, hb⟩; obtain ⟨os, d, rfl⟩ := hb.more; clear hb))
                        go_ret
                        exact ⟨rfl, hx1.trans (by repeat (first | (with_reducible (first | exact Ext.refl _ | exact ext_d _ _ _ _ | exact ext_app _ _ _ _ _ | exact ext_app2 _ _ _ _ _ _ | exact ext_app3 _ _ _ _ _ _ _)) | ((with_reducible refine ext_suffix ⟨_, ?_⟩); (try simp only [Array.append_assoc]); rfl) | (with_reducible (first | apply Ext.drew | apply Ext.alloc | apply Ext.more_))))⟩
                    · obtain ⟨j, rfl⟩ : ∃ j, k2 = j + 1 := ⟨k2 - 1, by omega⟩
                      rw [show (((j + 1 : Nat) : Int) - 1) = (j : Int) by omega]
                      obtain ⟨x, b', off', hx, hxo, e', ⟨x0, x1, x2, x3, x4, x5⟩⟩ := h1.at (show j < n by omega)
                      simp only [Option.some.injEq, Addr.mk.injEq, and_true] at e'
                      obtain ⟨rfl, rfl⟩ := e'
                      have hbl1 : b < W1.heap.size := lt_of_cell x0
                      have hmx := List.mem_of_getElem? hx
                      have hO := fun W => rorder_any x v W (HR.out x hmx) RV.out
                      have ho : ordV x v = cmpV x v := by
                        unfold ordV
                        rw [if_neg (fun h => K0.out h.2), if_neg (by rw [HK.out x hmx]; exact K0.out), if_neg K0.out]
                      rw [ho] at hO
                      have f1 := fromN_at (p := fun x => decide (0 < cmpV x v)) hx
                      have f2 := fromN_at (p := fun x => decide (0 ≤ cmpV x v)) hx
                      have hjn : j < n := by omega
                      have htri := cmpV_tri x v
                      generalize cmpV x v = sg at hO f1 f2 htri
                      generalize fromN (fun x => decide (0 < cmpV x v)) (l.drop (j + 1)) (j + 1) = M at *
                      generalize fromN (fun x => decide (0 ≤ cmpV x v)) (l.drop (j + 1)) (j + 1) = L at *
                      clear ho hk0 hP1 hP0
                      rcases htri with rfl | rfl | rfl
                      all_goals
                        simp at f1 f2
                        have F1 := Lib.hid f1
                        have F2 := Lib.hid f2
                        clear f1 f2
                        go_upto_region 12 with fail
                        refine wp_plan (S := Ext _) [(0, 0), (1, 0), (2, 0), (3, 0), (4, 0), (5, 1), (6, 0)] [] (by kernel_rfl) (by kernel_rfl) (by kernel_rfl) (fun _ _ d _ _ h => by cases d <;> exact h) (Ext.drew (Ext.refl _)) ?_
                        iterate 5 ((refine wpPl_read (v := ?_) rfl ?_ (fun _ h => ?_) ?_; rotate_left 1; rfl; (obtain ⟨_, _, rfl⟩ := h.more; go_simp; try rfl)); try simp only [Act.put, zqA, zqB, zqC])
                        (refine wpPl_eff rfl ?_ (fun K hK => ?_); rfl; go_simp; refine (hO _).mono ?_; rintro e w' ⟨rfl, hb⟩; obtain ⟨os5, d5, rfl⟩ := hb.more; clear hb; refine hK _ _ ?_ ?_; (repeat (first | (with_reducible (first | exact Ext.refl _ | exact ext_d _ _ _ _ | exact ext_app _ _ _ _ _ | exact ext_app2 _ _ _ _ _ _ | exact ext_app3 _ _ _ _ _ _ _ | exact ext_app4 _ _ _ _ _ _ _ _ | exact ext_app5 _ _ _ _ _ _ _ _ _)) | ((with_reducible refine ext_suffix ⟨_, ?_⟩); (try simp only [Array.append_assoc]); rfl) | (with_reducible (first | apply Ext.drew | apply Ext.alloc | apply Ext.more_)) | apply Ext.drew | apply Ext.alloc | apply Ext.more_)))
                        try simp only [Act.put, zqA, zqB, zqC]
                        (refine wpPl_read (v := ?_) rfl ?_ (fun _ h => ?_) ?_; rotate_left 1; rfl; (obtain ⟨_, _, rfl⟩ := h.more; go_simp; try rfl))
                        try simp only [Act.put, zqA, zqB, zqC]
                        refine wpPl_nil ?_
                        go_upto_region 14 with fail
                        simp only [more_more]
                        generalize os4 ++ os5 = oz
                        refine wp_plan (S := Ext _) [(0, 0), (1, 0), (2, 0), (3, 0), (4, 0), (5, 1), (6, 0)] [] (by kernel_rfl) (by kernel_rfl) (by kernel_rfl) (fun _ _ d _ _ h => by cases d <;> exact h) (Ext.drew (Ext.refl _)) ?_
                        iterate 5 ((refine wpPl_read (v := ?_) rfl ?_ (fun _ h => ?_) ?_; rotate_left 1; rfl; (obtain ⟨_, _, rfl⟩ := h.more; go_simp; try rfl)); try simp only [Act.put, zqA, zqB, zqC])
                        (refine wpPl_eff rfl ?_ (fun K hK => ?_); rfl; go_simp; refine (hO _).mono ?_; rintro e w' ⟨rfl, hb⟩; obtain ⟨os6, d6, rfl⟩ := hb.more; clear hb; refine hK _ _ ?_ ?_; (repeat (first | (with_reducible (first | exact Ext.refl _ | exact ext_d _ _ _ _ | exact ext_app _ _ _ _ _ | exact ext_app2 _ _ _ _ _ _ | exact ext_app3 _ _ _ _ _ _ _ | exact ext_app4 _ _ _ _ _ _ _ _ | exact ext_app5 _ _ _ _ _ _ _ _ _)) | ((with_reducible refine ext_suffix ⟨_, ?_⟩); (try simp only [Array.append_assoc]); rfl) | (with_reducible (first | apply Ext.drew | apply Ext.alloc | apply Ext.more_)) | apply Ext.drew | apply Ext.alloc | apply Ext.more_)))
                        try simp only [Act.put, zqA, zqB, zqC]
                        (refine wpPl_read (v := ?_) rfl ?_ (fun _ h => ?_) ?_; rotate_left 1; rfl; (obtain ⟨_, _, rfl⟩ := h.more; go_simp; try rfl))
                        try simp only [Act.put, zqA, zqB, zqC]
                        refine wpPl_nil ?_
                        go_wp2_with fail
                        refine ⟨⟨j, by omega, by rw [F1.out], by rw [F2.out], by go_num, by repeat (first | (with_reducible (first | exact Ext.refl _ | exact ext_d _ _ _ _ | exact ext_app _ _ _ _ _ | exact ext_app2 _ _ _ _ _ _ | exact ext_app3 _ _ _ _ _ _ _)) | ((with_reducible refine ext_suffix ⟨_, ?_⟩); (try simp only [Array.append_assoc]); rfl) | (with_reducible (first | apply Ext.drew | apply Ext.alloc | apply Ext.more_)))⟩, by simp [intOf]⟩
            · have kz' : (z.kind != v.kind) = true := by simpa using kz
              clear hre hlen k0 k4 hrb kz hz
              go_enter Tryz.func3, Tryz.ntmps3
              go_upto_region 1 with fail
              refine wp_plan (S := Ext _) [(0, 1), (1, 0), (2, 0), (3, 0), (4, 0), (5, 0), (6, 0), (7, 0), (8, 0), (9, 1), (10, 0), (11, 0), (12, 0), (13, 0), (14, 0), (15, 0), (16, 0), (17, 0), (18, 0), (19, 0), (20, 0), (21, 0), (22, 0), (23, 0), (24, 1), (25, 0), (26, 0), (27, 0), (28, 0), (29, 0), (30, 0), (31, 0), (32, 0), (33, 0), (34, 0), (35, 0)] [] (by kernel_rfl) (by kernel_rfl) (by kernel_rfl) (fun _ _ d _ _ h => by cases d <;> exact h) (Ext.drew (Ext.refl _)) ?_
              (refine wpPl_eff rfl ?_ (fun K hK => ?_); rfl; go_simp; refine (awake14_any _ (HT.out.ext (by repeat (first | (with_reducible (first | exact Ext.refl _ | exact ext_d _ _ _ _ | exact ext_app _ _ _ _ _ | exact ext_app2 _ _ _ _ _ _ | exact ext_app3 _ _ _ _ _ _ _)) | ((with_reducible refine ext_suffix ⟨_, ?_⟩); (try simp only [Array.append_assoc]); rfl) | (with_reducible (first | apply Ext.drew | apply Ext.alloc | apply Ext.more_)))))).mono ?_; rintro e w' ⟨rfl, hb⟩; obtain ⟨os1, d1, rfl⟩ := hb.more; clear hb; refine hK _ _ ?_ ?_; (repeat (first | (with_reducible (first | exact Ext.refl _ | exact ext_d _ _ _ _ | exact ext_app _ _ _ _ _ | exact ext_app2 _ _ _ _ _ _ | exact ext_app3 _ _ _ _ _ _ _ | exact ext_app4 _ _ _ _ _ _ _ _ | exact ext_app5 _ _ _ _ _ _ _ _ _)) | ((with_reducible refine ext_suffix ⟨_, ?_⟩); (try simp only [Array.append_assoc]); rfl) | (with_reducible (first | apply Ext.drew | apply Ext.alloc | apply Ext.more_)) | apply Ext.drew | apply Ext.alloc | apply Ext.more_)))
              try simp only [Act.put, zqA, zqB, zqC]
              (refine wpPl_read (v := ?_) rfl ?_ (fun _ h => ?_) ?_; rotate_left 1; rfl; (obtain ⟨_, _, rfl⟩ := h.more; go_simp; try rfl))
              try simp only [Act.put, zqA, zqB, zqC]
              try simp only [Bool.not_true, Bool.not_false, Bool.or_true, Bool.or_false, Bool.true_or, Bool.false_or, Bool.and_true, Bool.and_false, Bool.true_and, Bool.false_and, decide_true, decide_false, q60', k0', k4', kz']
              (refine wpPl_read (v := ?_) rfl ?_ (fun _ h => ?_) ?_; rotate_left 1; rfl; (obtain ⟨_, _, rfl⟩ := h.more; go_simp; try rfl))
              try simp only [Act.put, zqA, zqB, zqC]
              iterate 3 ((first | (refine wpPl_skip rfl rfl ?_) | (refine wpPl_read (v := ?_) rfl ?_ (fun w1 h1 => ?_) ?_; rotate_left 1; rfl; (obtain ⟨os1, d1, rfl⟩ := h1.more; go_simp; first | done | rfl))); try simp only [Act.put, zqA, zqB, zqC])
              try simp only [Bool.not_true, Bool.not_false, Bool.or_true, Bool.or_false, Bool.true_or, Bool.false_or, Bool.and_true, Bool.and_false, Bool.true_and, Bool.false_and, decide_true, decide_false, q60', k0', k4', kz']
              (refine wpPl_read (v := ?_) rfl ?_ (fun _ h => ?_) ?_; rotate_left 1; rfl; (obtain ⟨_, _, rfl⟩ := h.more; go_simp; try rfl))
              try simp only [Act.put, zqA, zqB, zqC]
              try simp only [Bool.not_true, Bool.not_false, Bool.or_true, Bool.or_false, Bool.true_or, Bool.false_or, Bool.and_true, Bool.and_false, Bool.true_and, Bool.false_and, decide_true, decide_false, q60', k0', k4', kz']
              (refine wpPl_read (v := ?_) rfl ?_ (fun _ h => ?_) ?_; rotate_left 1; rfl; (obtain ⟨_, _, rfl⟩ := h.more; go_simp; try rfl))
              try simp only [Act.put, zqA, zqB, zqC]
              first | (refine wpPl_skip rfl rfl ?_) | (refine wpPl_read (v := ?_) rfl ?_ (fun w1 h1 => ?_) ?_; rotate_left 1; rfl; (obtain ⟨os1, d1, rfl⟩ := h1.more; go_simp; first | done | rfl))
              try simp only [Act.put, zqA, zqB, zqC]
              (refine wpPl_eff rfl ?_ (fun K hK => ?_); (first | with_reducible rfl | rfl | (go_simp; done)); go_simp; refine (g1 _).mono ?_; rintro e w' ⟨rfl, hb⟩; obtain ⟨os2, d2, rfl⟩ := hb.more; clear hb; refine hK _ _ ?_ ?_; (repeat (first | (with_reducible (first | exact Ext.refl _ | exact ext_d _ _ _ _ | exact ext_app _ _ _ _ _ | exact ext_app2 _ _ _ _ _ _ | exact ext_app3 _ _ _ _ _ _ _ | exact ext_app4 _ _ _ _ _ _ _ _ | exact ext_app5 _ _ _ _ _ _ _ _ _)) | ((with_reducible refine ext_suffix ⟨_, ?_⟩); (try simp only [Array.append_assoc]); rfl) | (with_reducible (first | apply Ext.drew | apply Ext.alloc | apply Ext.more_)) | apply Ext.drew | apply Ext.alloc | apply Ext.more_)))
              try simp only [Act.put, zqA, zqB, zqC]
              first | (refine wpPl_skip rfl rfl ?_) | (refine wpPl_read (v := ?_) rfl ?_ (fun w1 h1 => ?_) ?_; rotate_left 1; rfl; (obtain ⟨os1, d1, rfl⟩ := h1.more; go_simp; first | done | rfl))
              try simp only [Act.put, zqA, zqB, zqC]
              try simp only [Bool.not_true, Bool.not_false, Bool.or_true, Bool.or_false, Bool.true_or, Bool.false_or, Bool.and_true, Bool.and_false, Bool.true_and, Bool.false_and, decide_true, decide_false, q60', k0', k4', kz']
              (refine wpPl_read (v := ?_) rfl ?_ (fun _ h => ?_) ?_; rotate_left 1; rfl; (obtain ⟨_, _, rfl⟩ := h.more; go_simp; try rfl))
              try simp only [Act.put, zqA, zqB, zqC]
              try simp only [Bool.not_true, Bool.not_false, Bool.or_true, Bool.or_false, Bool.true_or, Bool.false_or, Bool.and_true, Bool.and_false, Bool.true_and, Bool.false_and, decide_true, decide_false, q60', k0', k4', kz']
              (refine wpPl_read (v := ?_) rfl ?_ (fun _ h => ?_) ?_; rotate_left 1; rfl; (obtain ⟨_, _, rfl⟩ := h.more; go_simp; try rfl))
              try simp only [Act.put, zqA, zqB, zqC]
              iterate 3 ((first | (refine wpPl_skip rfl rfl ?_) | (refine wpPl_read (v := ?_) rfl ?_ (fun w1 h1 => ?_) ?_; rotate_left 1; rfl; (obtain ⟨os1, d1, rfl⟩ := h1.more; go_simp; first | done | rfl))); try simp only [Act.put, zqA, zqB, zqC])
              try simp only [Bool.not_true, Bool.not_false, Bool.or_true, Bool.or_false, Bool.true_or, Bool.false_or, Bool.and_true, Bool.and_false, Bool.true_and, Bool.false_and, decide_true, decide_false, q60', k0', k4', kz']
              (refine wpPl_read (v := ?_) rfl ?_ (fun _ h => ?_) ?_; rotate_left 1; rfl; (obtain ⟨_, _, rfl⟩ := h.more; go_simp; try rfl))
              try simp only [Act.put, zqA, zqB, zqC]
              try simp only [Bool.not_true, Bool.not_false, Bool.or_true, Bool.or_false, Bool.true_or, Bool.false_or, Bool.and_true, Bool.and_false, Bool.true_and, Bool.false_and, decide_true, decide_false, q60', k0', k4', kz']
              (refine wpPl_read (v := ?_) rfl ?_ (fun _ h => ?_) ?_; rotate_left 1; rfl; (obtain ⟨_, _, rfl⟩ := h.more; go_simp; try rfl))
              try simp only [Act.put, zqA, zqB, zqC]
              iterate 3 ((first | (refine wpPl_skip rfl rfl ?_) | (refine wpPl_read (v := ?_) rfl ?_ (fun w1 h1 => ?_) ?_; rotate_left 1; rfl; (obtain ⟨os1, d1, rfl⟩ := h1.more; go_simp; first | done | rfl))); try simp only [Act.put, zqA, zqB, zqC])
              try simp only [Bool.not_true, Bool.not_false, Bool.or_true, Bool.or_false, Bool.true_or, Bool.false_or, Bool.and_true, Bool.and_false, Bool.true_and, Bool.false_and, decide_true, decide_false, q60', k0', k4', kz']
              (refine wpPl_read (v := ?_) rfl ?_ (fun _ h => ?_) ?_; rotate_left 1; rfl; (obtain ⟨_, _, rfl⟩ := h.more; go_simp; try rfl))
              try simp only [Act.put, zqA, zqB, zqC]
              try simp only [Bool.not_true, Bool.not_false, Bool.or_true, Bool.or_false, Bool.true_or, Bool.false_or, Bool.and_true, Bool.and_false, Bool.true_and, Bool.false_and, decide_true, decide_false, q60', k0', k4', kz']
              (refine wpPl_read (v := ?_) rfl ?_ (fun _ h => ?_) ?_; rotate_left 1; rfl; (obtain ⟨_, _, rfl⟩ := h.more; go_simp; try rfl))
              try simp only [Act.put, zqA, zqB, zqC]
              first | (refine wpPl_skip rfl rfl ?_) | (refine wpPl_read (v := ?_) rfl ?_ (fun w1 h1 => ?_) ?_; rotate_left 1; rfl; (obtain ⟨os1, d1, rfl⟩ := h1.more; go_simp; first | done | rfl))
              try simp only [Act.put, zqA, zqB, zqC]
              (refine wpPl_eff rfl ?_ (fun K hK => ?_); (first | with_reducible rfl | rfl | (go_simp; done)); go_simp; refine (hri _ (by repeat (first | (with_reducible (first | exact Ext.refl _ | exact ext_d _ _ _ _ | exact ext_app _ _ _ _ _ | exact ext_app2 _ _ _ _ _ _ | exact ext_app3 _ _ _ _ _ _ _)) | ((with_reducible refine ext_suffix ⟨_, ?_⟩); (try simp only [Array.append_assoc]); rfl) | (with_reducible (first | apply Ext.drew | apply Ext.alloc | apply Ext.more_))))).mono ?_; rintro e w' ⟨rfl, hb⟩; obtain ⟨os3, d3, rfl⟩ := hb.more; clear hb; refine hK _ _ ?_ ?_; (repeat (first | (with_reducible (first | exact Ext.refl _ | exact ext_d _ _ _ _ | exact ext_app _ _ _ _ _ | exact ext_app2 _ _ _ _ _ _ | exact ext_app3 _ _ _ _ _ _ _ | exact ext_app4 _ _ _ _ _ _ _ _ | exact ext_app5 _ _ _ _ _ _ _ _ _)) | ((with_reducible refine ext_suffix ⟨_, ?_⟩); (try simp only [Array.append_assoc]); rfl) | (with_reducible (first | apply Ext.drew | apply Ext.alloc | apply Ext.more_)) | apply Ext.drew | apply Ext.alloc | apply Ext.more_)))
              try simp only [Act.put, zqA, zqB, zqC]
              first | (refine wpPl_skip rfl rfl ?_) | (refine wpPl_read (v := ?_) rfl ?_ (fun w1 h1 => ?_) ?_; rotate_left 1; rfl; (obtain ⟨os1, d1, rfl⟩ := h1.more; go_simp; first | done | rfl))
              try simp only [Act.put, zqA, zqB, zqC]
              try simp only [Bool.not_true, Bool.not_false, Bool.or_true, Bool.or_false, Bool.true_or, Bool.false_or, Bool.and_true, Bool.and_false, Bool.true_and, Bool.false_and, decide_true, decide_false, q60', k0', k4', kz']
              (refine wpPl_read (v := ?_) rfl ?_ (fun _ h => ?_) ?_; rotate_left 1; rfl; (obtain ⟨_, _, rfl⟩ := h.more; go_simp; try rfl))
              try simp only [Act.put, zqA, zqB, zqC]
              try simp only [Bool.not_true, Bool.not_false, Bool.or_true, Bool.or_false, Bool.true_or, Bool.false_or, Bool.and_true, Bool.and_false, Bool.true_and, Bool.false_and, decide_true, decide_false, q60', k0', k4', kz']
              (refine wpPl_read (v := ?_) rfl ?_ (fun _ h => ?_) ?_; rotate_left 1; rfl; (obtain ⟨_, _, rfl⟩ := h.more; go_simp; try rfl))
              try simp only [Act.put, zqA, zqB, zqC]
              iterate 7 ((first | (refine wpPl_skip rfl rfl ?_) | (refine wpPl_read (v := ?_) rfl ?_ (fun w1 h1 => ?_) ?_; rotate_left 1; rfl; (obtain ⟨os1, d1, rfl⟩ := h1.more; go_simp; first | done | rfl))); try simp only [Act.put, zqA, zqB, zqC])
              try simp only [Bool.not_true, Bool.not_false, Bool.or_true, Bool.or_false, Bool.true_or, Bool.false_or, Bool.and_true, Bool.and_false, Bool.true_and, Bool.false_and, decide_true, decide_false, q60', k0', k4', kz']
              (refine wpPl_read (v := ?_) rfl ?_ (fun _ h => ?_) ?_; rotate_left 1; rfl; (obtain ⟨_, _, rfl⟩ := h.more; go_simp; try rfl))
              try simp only [Act.put, zqA, zqB, zqC]
              try simp only [Bool.not_true, Bool.not_false, Bool.or_true, Bool.or_false, Bool.true_or, Bool.false_or, Bool.and_true, Bool.and_false, Bool.true_and, Bool.false_and, decide_true, decide_false, q60', k0', k4', kz']
              refine wpPl_nil ?_
              go_wp2_with (go_at_call 11; (with_reducible refine (awake14_any _ (HT.out.ext (by repeat (first | (with_reducible (first | exact Ext.refl _ | exact ext_d _ _ _ _ | exact ext_app _ _ _ _ _ | exact ext_app2 _ _ _ _ _ _ | exact ext_app3 _ _ _ _ _ _ _)) | ((with_reducible refine ext_suffix ⟨_, ?_⟩); (try simp only [Array.append_assoc]); rfl) | (with_reducible (first | apply Ext.drew | apply Ext.alloc | apply Ext.more_)))))).mono ?_); rintro e w' ⟨rfl, hb⟩; obtain ⟨os, d, rfl⟩ := hb.more; clear hb); go_ret; exact ⟨rfl, by repeat (first | (with_reducible (first | exact Ext.refl _ | exact ext_d _ _ _ _ | exact ext_app _ _ _ _ _ | exact ext_app2 _ _ _ _ _ _ | exact ext_app3 _ _ _ _ _ _ _)) | ((with_reducible refine ext_suffix ⟨_, ?_⟩); (try simp only [Array.append_assoc]); rfl) | (with_reducible (first | apply Ext.drew | apply Ext.alloc | apply Ext.more_)))⟩
    · rw [hre, show valRight v = false by simpa using rv] at g1
      clear hre hri hlen
      go_enter Tryz.func3, Tryz.ntmps3
      go_upto_region 1 with fail
      refine wp_plan (S := Ext _) [(0, 1), (1, 0), (2, 0), (3, 0), (4, 0), (5, 0), (6, 0), (7, 0), (8, 0), (9, 1), (10, 0), (11, 0), (12, 0), (13, 0), (14, 0), (15, 0), (16, 0), (17, 0), (18, 0), (19, 0), (20, 0), (21, 0), (22, 0), (23, 0), (24, 1), (25, 0), (26, 0), (27, 0), (28, 0), (29, 0), (30, 0), (31, 0), (32, 0), (33, 0), (34, 0), (35, 0)] [] (by kernel_rfl) (by kernel_rfl) (by kernel_rfl) (fun _ _ d _ _ h => by cases d <;> exact h) (Ext.drew (Ext.refl _)) ?_
      (refine wpPl_eff rfl ?_ (fun K hK => ?_); rfl; go_simp; refine (awake14_any _ (HT.out.ext (by repeat (first | (with_reducible (first | exact Ext.refl _ | exact ext_d _ _ _ _ | exact ext_app _ _ _ _ _ | exact ext_app2 _ _ _ _ _ _ | exact ext_app3 _ _ _ _ _ _ _)) | ((with_reducible refine ext_suffix ⟨_, ?_⟩); (try simp only [Array.append_assoc]); rfl) | (with_reducible (first | apply Ext.drew | apply Ext.alloc | apply Ext.more_)))))).mono ?_; rintro e w' ⟨rfl, hb⟩; obtain ⟨os1, d1, rfl⟩ := hb.more; clear hb; refine hK _ _ ?_ ?_; (repeat (first | (with_reducible (first | exact Ext.refl _ | exact ext_d _ _ _ _ | exact ext_app _ _ _ _ _ | exact ext_app2 _ _ _ _ _ _ | exact ext_app3 _ _ _ _ _ _ _ | exact ext_app4 _ _ _ _ _ _ _ _ | exact ext_app5 _ _ _ _ _ _ _ _ _)) | ((with_reducible refine ext_suffix ⟨_, ?_⟩); (try simp only [Array.append_assoc]); rfl) | (with_reducible (first | apply Ext.drew | apply Ext.alloc | apply Ext.more_)) | apply Ext.drew | apply Ext.alloc | apply Ext.more_)))
      try simp only [Act.put, zqA, zqB, zqC]
      (refine wpPl_read (v := ?_) rfl ?_ (fun _ h => ?_) ?_; rotate_left 1; rfl; (obtain ⟨_, _, rfl⟩ := h.more; go_simp; try rfl))
      try simp only [Act.put, zqA, zqB, zqC]
      try simp only [Bool.not_true, Bool.not_false, Bool.or_true, Bool.or_false, Bool.true_or, Bool.false_or, Bool.and_true, Bool.and_false, Bool.true_and, Bool.false_and, decide_true, decide_false, q60']
      (refine wpPl_read (v := ?_) rfl ?_ (fun _ h => ?_) ?_; rotate_left 1; rfl; (obtain ⟨_, _, rfl⟩ := h.more; go_simp; try rfl))
      try simp only [Act.put, zqA, zqB, zqC]
      iterate 3 ((first | (refine wpPl_skip rfl rfl ?_) | (refine wpPl_read (v := ?_) rfl ?_ (fun w1 h1 => ?_) ?_; rotate_left 1; rfl; (obtain ⟨os1, d1, rfl⟩ := h1.more; go_simp; first | done | rfl))); try simp only [Act.put, zqA, zqB, zqC])
      try simp only [Bool.not_true, Bool.not_false, Bool.or_true, Bool.or_false, Bool.true_or, Bool.false_or, Bool.and_true, Bool.and_false, Bool.true_and, Bool.false_and, decide_true, decide_false, q60']
      (refine wpPl_read (v := ?_) rfl ?_ (fun _ h => ?_) ?_; rotate_left 1; rfl; (obtain ⟨_, _, rfl⟩ := h.more; go_simp; try rfl))
      try simp only [Act.put, zqA, zqB, zqC]
      try simp only [Bool.not_true, Bool.not_false, Bool.or_true, Bool.or_false, Bool.true_or, Bool.false_or, Bool.and_true, Bool.and_false, Bool.true_and, Bool.false_and, decide_true, decide_false, q60']
      (refine wpPl_read (v := ?_) rfl ?_ (fun _ h => ?_) ?_; rotate_left 1; rfl; (obtain ⟨_, _, rfl⟩ := h.more; go_simp; try rfl))
      try simp only [Act.put, zqA, zqB, zqC]
      first | (refine wpPl_skip rfl rfl ?_) | (refine wpPl_read (v := ?_) rfl ?_ (fun w1 h1 => ?_) ?_; rotate_left 1; rfl; (obtain ⟨os1, d1, rfl⟩ := h1.more; go_simp; first | done | rfl))
      try simp only [Act.put, zqA, zqB, zqC]
      (refine wpPl_eff rfl ?_ (fun K hK => ?_); (first | with_reducible rfl | rfl | (go_simp; done)); go_simp; refine (g1 _).mono ?_; rintro e w' ⟨rfl, hb⟩; obtain ⟨os2, d2, rfl⟩ := hb.more; clear hb; refine hK _ _ ?_ ?_; (repeat (first | (with_reducible (first | exact Ext.refl _ | exact ext_d _ _ _ _ | exact ext_app _ _ _ _ _ | exact ext_app2 _ _ _ _ _ _ | exact ext_app3 _ _ _ _ _ _ _ | exact ext_app4 _ _ _ _ _ _ _ _ | exact ext_app5 _ _ _ _ _ _ _ _ _)) | ((with_reducible refine ext_suffix ⟨_, ?_⟩); (try simp only [Array.append_assoc]); rfl) | (with_reducible (first | apply Ext.drew | apply Ext.alloc | apply Ext.more_)) | apply Ext.drew | apply Ext.alloc | apply Ext.more_)))
      try simp only [Act.put, zqA, zqB, zqC]
      first | (refine wpPl_skip rfl rfl ?_) | (refine wpPl_read (v := ?_) rfl ?_ (fun w1 h1 => ?_) ?_; rotate_left 1; rfl; (obtain ⟨os1, d1, rfl⟩ := h1.more; go_simp; first | done | rfl))
      try simp only [Act.put, zqA, zqB, zqC]
      try simp only [Bool.not_true, Bool.not_false, Bool.or_true, Bool.or_false, Bool.true_or, Bool.false_or, Bool.and_true, Bool.and_false, Bool.true_and, Bool.false_and, decide_true, decide_false, q60']
      (refine wpPl_read (v := ?_) rfl ?_ (fun _ h => ?_) ?_; rotate_left 1; rfl; (obtain ⟨_, _, rfl⟩ := h.more; go_simp; try rfl))
      try simp only [Act.put, zqA, zqB, zqC]
      try simp only [Bool.not_true, Bool.not_false, Bool.or_true, Bool.or_false, Bool.true_or, Bool.false_or, Bool.and_true, Bool.and_false, Bool.true_and, Bool.false_and, decide_true, decide_false, q60']
      (refine wpPl_read (v := ?_) rfl ?_ (fun _ h => ?_) ?_; rotate_left 1; rfl; (obtain ⟨_, _, rfl⟩ := h.more; go_simp; try rfl))
      try simp only [Act.put, zqA, zqB, zqC]
      iterate 3 ((first | (refine wpPl_skip rfl rfl ?_) | (refine wpPl_read (v := ?_) rfl ?_ (fun w1 h1 => ?_) ?_; rotate_left 1; rfl; (obtain ⟨os1, d1, rfl⟩ := h1.more; go_simp; first | done | rfl))); try simp only [Act.put, zqA, zqB, zqC])
      try simp only [Bool.not_true, Bool.not_false, Bool.or_true, Bool.or_false, Bool.true_or, Bool.false_or, Bool.and_true, Bool.and_false, Bool.true_and, Bool.false_and, decide_true, decide_false, q60']
      (refine wpPl_read (v := ?_) rfl ?_ (fun _ h => ?_) ?_; rotate_left 1; rfl; (obtain ⟨_, _, rfl⟩ := h.more; go_simp; try rfl))
      try simp only [Act.put, zqA, zqB, zqC]
      try simp only [Bool.not_true, Bool.not_false, Bool.or_true, Bool.or_false, Bool.true_or, Bool.false_or, Bool.and_true, Bool.and_false, Bool.true_and, Bool.false_and, decide_true, decide_false, q60']
      (refine wpPl_read (v := ?_) rfl ?_ (fun _ h => ?_) ?_; rotate_left 1; rfl; (obtain ⟨_, _, rfl⟩ := h.more; go_simp; try rfl))
      try simp only [Act.put, zqA, zqB, zqC]
      iterate 3 ((first | (refine wpPl_skip rfl rfl ?_) | (refine wpPl_read (v := ?_) rfl ?_ (fun w1 h1 => ?_) ?_; rotate_left 1; rfl; (obtain ⟨os1, d1, rfl⟩ := h1.more; go_simp; first | done | rfl))); try simp only [Act.put, zqA, zqB, zqC])
      try simp only [Bool.not_true, Bool.not_false, Bool.or_true, Bool.or_false, Bool.true_or, Bool.false_or, Bool.and_true, Bool.and_false, Bool.true_and, Bool.false_and, decide_true, decide_false, q60']
      (refine wpPl_read (v := ?_) rfl ?_ (fun _ h => ?_) ?_; rotate_left 1; rfl; (obtain ⟨_, _, rfl⟩ := h.more; go_simp; try rfl))
      try simp only [Act.put, zqA, zqB, zqC]
      try simp only [Bool.not_true, Bool.not_false, Bool.or_true, Bool.or_false, Bool.true_or, Bool.false_or, Bool.and_true, Bool.and_false, Bool.true_and, Bool.false_and, decide_true, decide_false, q60']
      (refine wpPl_read (v := ?_) rfl ?_ (fun _ h => ?_) ?_; rotate_left 1; rfl; (obtain ⟨_, _, rfl⟩ := h.more; go_simp; try rfl))
      try simp only [Act.put, zqA, zqB, zqC]
      first | (refine wpPl_skip rfl rfl ?_) | (refine wpPl_read (v := ?_) rfl ?_ (fun w1 h1 => ?_) ?_; rotate_left 1; rfl; (obtain ⟨os1, d1, rfl⟩ := h1.more; go_simp; first | done | rfl))
      try simp only [Act.put, zqA, zqB, zqC]
      (refine wpPl_effskip rfl ?_ ?_ ?_; (first | with_reducible rfl | rfl | (go_simp; done)); (repeat (first | (with_reducible (first | exact Ext.refl _ | exact ext_d _ _ _ _ | exact ext_app _ _ _ _ _ | exact ext_app2 _ _ _ _ _ _ | exact ext_app3 _ _ _ _ _ _ _ | exact ext_app4 _ _ _ _ _ _ _ _ | exact ext_app5 _ _ _ _ _ _ _ _ _)) | ((with_reducible refine ext_suffix ⟨_, ?_⟩); (try simp only [Array.append_assoc]); rfl) | (with_reducible (first | apply Ext.drew | apply Ext.alloc | apply Ext.more_)) | apply Ext.drew | apply Ext.alloc | apply Ext.more_)))
      try simp only [Act.put, zqA, zqB, zqC]
      first | (refine wpPl_skip rfl rfl ?_) | (refine wpPl_read (v := ?_) rfl ?_ (fun w1 h1 => ?_) ?_; rotate_left 1; rfl; (obtain ⟨os1, d1, rfl⟩ := h1.more; go_simp; first | done | rfl))
      try simp only [Act.put, zqA, zqB, zqC]
      try simp only [Bool.not_true, Bool.not_false, Bool.or_true, Bool.or_false, Bool.true_or, Bool.false_or, Bool.and_true, Bool.and_false, Bool.true_and, Bool.false_and, decide_true, decide_false, q60']
      (refine wpPl_read (v := ?_) rfl ?_ (fun _ h => ?_) ?_; rotate_left 1; rfl; (obtain ⟨_, _, rfl⟩ := h.more; go_simp; try rfl))
      try simp only [Act.put, zqA, zqB, zqC]
      try simp only [Bool.not_true, Bool.not_false, Bool.or_true, Bool.or_false, Bool.true_or, Bool.false_or, Bool.and_true, Bool.and_false, Bool.true_and, Bool.false_and, decide_true, decide_false, q60']
      (refine wpPl_read (v := ?_) rfl ?_ (fun _ h => ?_) ?_; rotate_left 1; rfl; (obtain ⟨_, _, rfl⟩ := h.more; go_simp; try rfl))
      try simp only [Act.put, zqA, zqB, zqC]
      iterate 7 ((first | (refine wpPl_skip rfl rfl ?_) | (refine wpPl_read (v := ?_) rfl ?_ (fun w1 h1 => ?_) ?_; rotate_left 1; rfl; (obtain ⟨os1, d1, rfl⟩ := h1.more; go_simp; first | done | rfl))); try simp only [Act.put, zqA, zqB, zqC])
      try simp only [Bool.not_true, Bool.not_false, Bool.or_true, Bool.or_false, Bool.true_or, Bool.false_or, Bool.and_true, Bool.and_false, Bool.true_and, Bool.false_and, decide_true, decide_false, q60']
      (refine wpPl_read (v := ?_) rfl ?_ (fun _ h => ?_) ?_; rotate_left 1; rfl; (obtain ⟨_, _, rfl⟩ := h.more; go_simp; try rfl))
      try simp only [Act.put, zqA, zqB, zqC]
      try simp only [Bool.not_true, Bool.not_false, Bool.or_true, Bool.or_false, Bool.true_or, Bool.false_or, Bool.and_true, Bool.and_false, Bool.true_and, Bool.false_and, decide_true, decide_false, q60']
      refine wpPl_nil ?_
      go_wp2_with (go_at_call 11; (with_reducible refine (awake14_any _ (HT.out.ext (by repeat (first | (with_reducible (first | exact Ext.refl _ | exact ext_d _ _ _ _ | exact ext_app _ _ _ _ _ | exact ext_app2 _ _ _ _ _ _ | exact ext_app3 _ _ _ _ _ _ _)) | ((with_reducible refine ext_suffix ⟨_, ?_⟩); (try simp only [Array.append_assoc]); rfl) | (with_reducible (first | apply Ext.drew | apply Ext.alloc | apply Ext.more_)))))).mono ?_); rintro e w' ⟨rfl, hb⟩; obtain ⟨os, d, rfl⟩ := hb.more; clear hb); go_ret; exact ⟨rfl, by repeat (first | (with_reducible (first | exact Ext.refl _ | exact ext_d _ _ _ _ | exact ext_app _ _ _ _ _ | exact ext_app2 _ _ _ _ _ _ | exact ext_app3 _ _ _ _ _ _ _)) | ((with_reducible refine ext_suffix ⟨_, ?_⟩); (try simp only [Array.append_assoc]); rfl) | (with_reducible (first | apply Ext.drew | apply Ext.alloc | apply Ext.more_)))⟩
end Go.Proofs.YteigcfflljoioaaGreatDoor
namespace Go.Proofs.YteigcfflljoioaaGreatDoor
open Go.ChangeShapes Go.WideShapes Go.ChangeAt Go.RowKit Go.Deep
theorem own : ownKnob Tryz.prog.godebug = none := by kernel_rfl
theorem laidOut : laidOutB Tryz.prog = true := by kernel_rfl
theorem cells_num : Tryz.prog.cellsOf 24 = 2 := by kernel_rfl
theorem cells_int : Tryz.prog.cellsOf 3 = 1 := by kernel_rfl
/-- What all rows of this seat list. -/
def laid3 : List (String × DataW Unit) := [("math/bits.deBruijn32tab", Rows.laid_math_bits_deBruijn32tab), ("math/bits.deBruijn64tab", Rows.laid_math_bits_deBruijn64tab), ("internal/strconv.uint64pow10", Rows.laid_internal_strconv_uint64pow10)]
theorem pow10_data : (Rows.laid_internal_strconv_uint64pow10 : DataW Unit) = Lib.tabData .u64 Lib.pow10Tab := by
  unfold Rows.laid_internal_strconv_uint64pow10 Lib.tabData Lib.pow10Tab
  simp [List.range_succ]
theorem gPow : Tryz.prog.globalNamed "internal/strconv.uint64pow10" = some 3 := by kernel_rfl
theorem tPow : (Tryz.prog.globals[3]?).map (·.type) = some 181 := by kernel_rfl
theorem tab_of_laid {W : World} (h : laidMetH Tryz.prog laid3 W) : Tab W := by
  rw [MakeChecks.laidMetH_plain _ _ _ (by kernel_rfl)] at h
  obtain ⟨ps, ⟨g0, t0, cs0, f0, p0, q0, hg0, ht0, hv0, hd0, ⟨g1, t1, cs1, f1, p1, q1, hg1, ht1, hv1, hd1, ⟨g2, t2, cs2, f2, p2, q2, hg2, ht2, hv2, hd2, _, _⟩, _⟩, _⟩, _, _⟩ := h
  obtain rfl := Option.some.inj (gPow.symm.trans hg2)
  obtain rfl := Option.some.inj (tPow.symm.trans ht2)
  rw [pow10_data] at hd2
  unfold Tab Lib.TabIs
  rw [hv2, ← Lib.cells_of_tab Tryz.underlying181 Tryz.underlying117 (by kernel_rfl) (by kernel_rfl) hd2]
theorem door_met (os : Os) (args : Array Value) : laidMetH Tryz.prog laid3 ((World.doorLaid Tryz.prog 400 os).forCall (fun _ _ => 0) ⟨#[], args, []⟩).memory :=
  laidMetH_of_parts3 (fuel := 8) (laidMet_of_run' 8 (by kernel_rfl) (by kernel_rfl)) (by kernel_rfl) (by kernel_rfl)
set_option maxRecDepth 100000
section
variable {H : Type} {enc : TypeId × Value → H} {w : World} {base : Nat} {spare : Nat → Bool} {held : Bool}
theorem i64_of {n : Int} (h : (Lit.int .i64 n).wf = true) : I64 n := by
  simpa [Lit.wf, IntKind.min, IntKind.max, IntKind.signed, IntKind.bits, I64] using h
theorem trod_blocks_ {t : TypeId} {v : Value} {d : DataW H} {p : List MemPlace} (h : DataW.Trod enc Tryz.prog w base spare held t v d p) : ∀ x ∈ p, x.block < w.heap.size := by
  obtain ⟨m, hm⟩ := h
  exact DataW.trod_lt m _ _ _ hm
end
end Go.Proofs.YteigcfflljoioaaGreatDoor
namespace Go.Proofs.YteigcfflljoioaaGreatDoor
open Go.ChangeShapes Go.WideShapes Go.ChangeAt Go.RowKit Go.Deep
theorem cells_val : Tryz.prog.cellsOf 26 = 6 := by kernel_rfl
theorem cells_string : Tryz.prog.cellsOf 9 = 1 := by kernel_rfl
theorem cells_bool : Tryz.prog.cellsOf 4 = 1 := by kernel_rfl
set_option maxRecDepth 100000
section
variable {H : Type} {enc : TypeId × Value → H} {w : World} {base : Nat} {spare : Nat → Bool} {held : Bool}
theorem open_num {fuel : Nat} {c1 c2 : Value} {x : DataW H × List MemPlace} (h : DataW.trod enc Tryz.prog w base spare held fuel 24 [c1, c2] = some x) : ∃ m e : Int, [c1, c2] = [.int .i64 m, .int .i64 e] ∧ I64 m ∧ I64 e := by
  obtain ⟨xs, n, rfl, _, hl, hxs, hf⟩ := DataW.trod_struct Tryz.underlying24 h
  obtain ⟨y0, hy0⟩ : ∃ y, xs[0]? = some y := ⟨_, List.getElem?_eq_getElem (by rw [hxs]; decide)⟩
  have g0 : DataW.trod enc Tryz.prog w base spare held n 3 [c1] = some y0 := by rw [← hy0]; have := hf 0 _ rfl; simpa [cells_int] using this
  obtain ⟨y1, hy1⟩ : ∃ y, xs[1]? = some y := ⟨_, List.getElem?_eq_getElem (by rw [hxs]; decide)⟩
  have g1 : DataW.trod enc Tryz.prog w base spare held n 3 [c2] = some y1 := by rw [← hy1]; have := hf 1 _ rfl; simpa [cells_int] using this
  obtain ⟨m, e0, _, w0⟩ := DataW.trod_int Tryz.underlying3 g0
  obtain ⟨e, e1, _, w1⟩ := DataW.trod_int Tryz.underlying3 g1
  simp only [List.cons.injEq, and_true] at e0 e1
  subst e0 e1
  exact ⟨m, e, rfl, i64_of w0, i64_of w1⟩
set_option maxHeartbeats 800000 in
theorem open_val {fuel : Nat} {cs : List Value} {x : DataW H × List MemPlace} (h : DataW.trod enc Tryz.prog w base spare held fuel 26 cs = some x) : ∃ y : Val, cs = y.cells ∧ y.ok := by
  obtain ⟨xs, n, rfl, _, hl, hxs, hf⟩ := DataW.trod_struct Tryz.underlying26 h
  rw [cells_val] at hl
  match cs, hl with
  | [c0, c1, c2, c3, c4, c5], _ =>
    obtain ⟨y0, hy0⟩ : ∃ y, xs[0]? = some y := ⟨_, List.getElem?_eq_getElem (by rw [hxs]; decide)⟩
    have g0 : DataW.trod enc Tryz.prog w base spare held n 3 [c0] = some y0 := by rw [← hy0]; have := hf 0 _ rfl; simpa [cells_int] using this
    obtain ⟨y1, hy1⟩ : ∃ y, xs[1]? = some y := ⟨_, List.getElem?_eq_getElem (by rw [hxs]; decide)⟩
    have g1 : DataW.trod enc Tryz.prog w base spare held n 24 [c1, c2] = some y1 := by rw [← hy1]; have := hf 1 _ rfl; simpa [cells_num] using this
    obtain ⟨y2, hy2⟩ : ∃ y, xs[2]? = some y := ⟨_, List.getElem?_eq_getElem (by rw [hxs]; decide)⟩
    have g2 : DataW.trod enc Tryz.prog w base spare held n 9 [c3] = some y2 := by rw [← hy2]; have := hf 2 _ rfl; simpa [cells_string] using this
    obtain ⟨y3, hy3⟩ : ∃ y, xs[3]? = some y := ⟨_, List.getElem?_eq_getElem (by rw [hxs]; decide)⟩
    have g3 : DataW.trod enc Tryz.prog w base spare held n 4 [c4] = some y3 := by rw [← hy3]; have := hf 3 _ rfl; simpa [cells_bool] using this
    obtain ⟨y4, hy4⟩ : ∃ y, xs[4]? = some y := ⟨_, List.getElem?_eq_getElem (by rw [hxs]; decide)⟩
    have g4 : DataW.trod enc Tryz.prog w base spare held n 3 [c5] = some y4 := by rw [← hy4]; have := hf 4 _ rfl; simpa [cells_int] using this
    obtain ⟨k, e0, _, w0⟩ := DataW.trod_int Tryz.underlying3 g0
    obtain ⟨m, ex, e1, w1, w2⟩ := open_num g1
    obtain ⟨t, e3, _, w3⟩ := DataW.trod_string Tryz.underlying9 g2
    obtain ⟨b, e4, _⟩ := DataW.trod_bool Tryz.underlying4 g3
    obtain ⟨f, e5, _, w5⟩ := DataW.trod_int Tryz.underlying3 g4
    simp only [List.cons.injEq, and_true] at e0 e1 e3 e4 e5
    obtain ⟨rfl, rfl⟩ := e1
    subst e0 e3 e4 e5
    exact ⟨⟨k, m, ex, t, b, f⟩, rfl, i64_of w0, w1, w2, w3, i64_of w5⟩
/-- A slice of values. -/
theorem open_vals {fuel : Nat} {a : Option Addr} {len cap : Nat} {x : DataW H × List MemPlace} (h : DataW.trod enc Tryz.prog w base spare held fuel 22 [.slice a len cap] = some x) : ∃ l, ArrIn w a len cap l := by
  rcases open_slice Tryz.underlying22 h with ⟨hcs, _⟩ | ⟨ad, len', cap', m, n, D, Pl, hcs, hb, hl, hm, hmm, _, hi⟩
  · simp only [List.cons.injEq, Value.slice.injEq, and_true] at hcs
    obtain ⟨rfl, rfl, rfl⟩ := hcs
    exact ⟨[], SlV.nil _ _ _, rfl, Nat.le_refl _, by omega, by simp⟩
  · simp only [List.cons.injEq, Value.slice.injEq, and_true] at hcs
    obtain ⟨rfl, rfl, rfl⟩ := hcs
    have hlm : len ≤ m := by rw [hmm]; split <;> omega
    obtain ⟨X, hX⟩ := choose_lt (α := Val) (n := len) (p := fun i y => w.cells? base (ad.add (i * 6)) 6 = some y.cells ∧ y.ok) (fun i hil => by
      obtain ⟨cs', h1, h2⟩ := hi i (by omega)
      rw [cells_val] at h1
      obtain ⟨y, rfl, hy⟩ := open_val h2
      exact ⟨y, h1, hy⟩)
    refine ⟨(List.range len).map X, ?_, by simp, hl, by simp only [maxLen] at hm; omega, ?_⟩
    · intro j u hu
      have hj : j / 6 < len := by
        have := (List.getElem?_eq_some_iff.1 hu).1
        rw [vcells_length] at this
        simp at this
        omega
      have hat := vcells_at ((List.range len).map X) (j / 6) (X (j / 6)) (by simp [hj]) (j % 6) (by omega)
      rw [show j / 6 * 6 + j % 6 = j by omega, hu] at hat
      obtain ⟨_, _, hc⟩ := World.cells?_some (hX (j / 6) hj).1
      have h6 := hc (j % 6) (by omega)
      rw [← hat, Go.Deep.add_add, show j / 6 * 6 + j % 6 = j by omega] at h6
      obtain ⟨b, off, spot⟩ := ad
      have hsp : spot = none := by
        obtain ⟨_, _, hc0⟩ := World.cells?_some (hX 0 (by omega)).1
        have h0 := hc0 0 (by omega)
        simp [Addr.add, Val.cells] at h0
        exact World.cell?_spot h0
      subst hsp
      rw [Addr.add_mid] at h6
      exact ⟨b, off, rfl, Nat.zero_le _, h6⟩
    · intro y hy
      simp only [List.mem_map, List.mem_range] at hy
      obtain ⟨i, hi', rfl⟩ := hy
      exact (hX i hi').2
theorem open_valV {r : Reach} {b0 : Nat} {v : Value} {d : DataW H} {p : List MemPlace} (hv : Value.okWide Tryz.prog w r b0 26 v) (h : DataW.Trod enc Tryz.prog w base spare held 26 v d p) :
    ∃ x : Val, v = VV x.kind x.mant x.exp x.text x.truth x.fault ∧ x.ok := by
  obtain ⟨cs, rfl, hsz⟩ : ∃ cs, v = .agg cs ∧ cs.size = Tryz.prog.cellsOf 26 := by
    simp only [Value.okWide, Tryz.underlying26] at hv
    obtain ⟨cs, h1, h2, _⟩ := hv
    exact ⟨cs, h1, h2⟩
  obtain ⟨fuel, hf⟩ := h
  obtain ⟨cl⟩ := cs
  have hf' : DataW.trod enc Tryz.prog w base spare held fuel 26 cl = some (d, p) := by simpa [Value.cells] using hf
  obtain ⟨x, rfl, hx⟩ := open_val hf'
  exact ⟨x, rfl, hx⟩
theorem open_valsV {r : Reach} {b0 : Nat} {v : Value} {d : DataW H} {p : List MemPlace} (hv : Value.okWide Tryz.prog w r b0 22 v) (h : DataW.Trod enc Tryz.prog w base spare held 22 v d p) :
    ∃ (A : Option Addr) (n cap : Nat) (l : List Val), v = .slice A n cap ∧ ArrIn w A n cap l := by
  obtain ⟨A, n, cap, rfl⟩ := okWide_slice Tryz.underlying22 hv
  obtain ⟨fuel, hf⟩ := h
  obtain ⟨l, hl⟩ := open_vals hf
  exact ⟨A, n, cap, l, rfl, hl⟩
end
end Go.Proofs.YteigcfflljoioaaGreatDoor
namespace Go.Proofs.YteigcfflljoioaaGreatDoor
open Go.RowKit NM
theorem heap_alloc_lt {w : World} {o : Obj} {p : Nat} (hp : p < w.heap.size) : (w.alloc o).heap[p]? = w.heap[p]? := ((Ext.refl w).alloc o).block hp
theorem heap_more_lt {w : World} {os : Array Obj} {d p : Nat} (hp : p < w.heap.size) : (more w os d).heap[p]? = w.heap[p]? := (ext_more w os d).block hp
theorem firstN_found (p : Val → Bool) : ∀ (l : List Val) (k : Nat), firstN p l k ≠ -1 → ∃ i x, l[i]? = some x ∧ p x = true ∧ firstN p l k = ((k + i : Nat) : Int)
  | [], k, h => absurd rfl h
  | y :: l, k, h => by
    unfold firstN at h ⊢
    by_cases hp : p y = true
    · rw [if_pos hp]; exact ⟨0, y, rfl, hp, rfl⟩
    · rw [if_neg hp] at h ⊢
      obtain ⟨i, x, h1, h2, h3⟩ := firstN_found p l (k + 1) h
      exact ⟨i + 1, x, by simpa using h1, h2, by rw [h3]; congr 1; omega⟩
theorem firstN_none (p : Val → Bool) : ∀ (l : List Val) (k : Nat), firstN p l k = -1 → ∀ x ∈ l, p x = false
  | [], _, _, x, hx => by cases hx
  | y :: l, k, h, x, hx => by
    unfold firstN at h
    by_cases hp : p y = true
    · rw [if_pos hp] at h; omega
    · rw [if_neg hp] at h
      rcases List.mem_cons.1 hx with rfl | hx
      · simpa using hp
      · exact firstN_none p l (k + 1) h x hx
theorem part_one {l : List Val} {t : Nat} {x : Val} {n : Nat} (h : l[t]? = some x) : partA ⟨1, n, l⟩ 0 t 1 1 = oneA x := by
  unfold partA partL vals oneA getV
  simp [h]
/-- Call of INDEX of one row and a place in it. -/
theorem index_place {w0 : World} {t : TypeId} {b pk n cap : Nat} {A : Option Addr} (y x : Val) (l : List Val) (k : Nat) (hp : b = w0.heap.size) (hl : ArrIn w0 A n cap l) (hy : ArrIn w0 (some ⟨pk, 0, none⟩) 1 1 [y])
    (rl : ∀ x ∈ l, x.right) (ry : y.right) (hl1 : 1 ≤ n) (hl2 : n ≤ 4096) (hk : wholeO y = (((k + 1 : Nat) : Int), 0)) (hx : l[k]? = some x) :
    Calls Tryz.prog 17 #[.string ⟨#[73, 78, 68, 69, 88]⟩, .slice (some ⟨b, 0, none⟩) 2 2] (w0.alloc (.cells #[.int .i64 1, .int .i64 n, .slice A n cap, .int .i64 1, .int .i64 1, .slice (some ⟨pk, 0, none⟩) 1 1] t)) (CallPost (w0.alloc (.cells #[.int .i64 1, .int .i64 n, .slice A n cap, .int .i64 1, .int .i64 1, .slice (some ⟨pk, 0, none⟩) 1 1] t)) (oneA x)) := by
  have hn := hl.len
  subst hn
  have hk2 : k < l.length := (List.getElem?_eq_some_iff.1 hx).1
  have hargs := argsIn_new (t := t) (n := 2) [arRow l A l.length cap, arOne y pk] hp rfl rfl (by decide) (by intro z hz; simp only [List.mem_cons, List.not_mem_nil, or_false] at hz; rcases hz with rfl | rfl; exact arRow_ok hl hl1 hl2 rl; exact arOne_ok hy ry)
  rw [← part_one (n := l.length) hx]
  exact call_yes ⟨#[73, 78, 68, 69, 88]⟩ 68 2 3 (by decide) rfl (fun args W => by go_simp) _ 2 2 _ _ hargs (by decide) (by decide) _ (fun W hW => index_row _ 2 (arRow l A l.length cap) (arOne y pk) y (k + 1) W (hargs.ext hW) rfl rfl ry hk (by omega) (by show k + 1 ≤ l.length; omega))
/-- Call of XLOOKUP of one row twice. -/
theorem lookup_place {w0 : World} {t : TypeId} {b pv n cap : Nat} {A : Option Addr} (v x : Val) (l : List Val) (k : Nat) (htab : Tab w0) (hp : b = w0.heap.size) (hv : ArrIn w0 (some ⟨pv, 0, none⟩) 1 1 [v]) (hl : ArrIn w0 A n cap l)
    (rv : v.right) (rl : ∀ x ∈ l, x.right) (hl1 : 1 ≤ n) (hl2 : n ≤ 4096) (h0 : v.kind ≠ 0) (h4 : v.kind ≠ 4) (hj : justN l v = (k : Int)) (hx : l[k]? = some x) :
    Calls Tryz.prog 17 #[.string ⟨#[88, 76, 79, 79, 75, 85, 80]⟩, .slice (some ⟨b, 0, none⟩) 3 3] (w0.alloc (.cells #[.int .i64 1, .int .i64 1, .slice (some ⟨pv, 0, none⟩) 1 1, .int .i64 1, .int .i64 n, .slice A n cap, .int .i64 1, .int .i64 n, .slice A n cap] t)) (CallPost (w0.alloc (.cells #[.int .i64 1, .int .i64 1, .slice (some ⟨pv, 0, none⟩) 1 1, .int .i64 1, .int .i64 n, .slice A n cap, .int .i64 1, .int .i64 n, .slice A n cap] t)) (oneA x)) := by
  have hn := hl.len
  subst hn
  have hk2 : k < l.length := (List.getElem?_eq_some_iff.1 hx).1
  have htab' := htab.ext ((Ext.refl w0).alloc (.cells (acells [arOne v pv, arRow l A l.length cap, arRow l A l.length cap]).toArray t))
  have hargs := argsIn_new (t := t) (n := 3) [arOne v pv, arRow l A l.length cap, arRow l A l.length cap] hp rfl rfl (by decide) (by intro z hz; simp only [List.mem_cons, List.not_mem_nil, or_false] at hz; rcases hz with rfl | rfl | rfl; exact arOne_ok hv rv; exact arRow_ok hl hl1 hl2 rl; exact arRow_ok hl hl1 hl2 rl)
  have hj' : justN (arRow l A l.length cap).x.l v = (k : Int) := hj
  refine call_yes ⟨#[88, 76, 79, 79, 75, 85, 80]⟩ 70 3 5 (by decide) rfl (fun args W => by go_simp) _ 3 3 _ _ hargs (by decide) (by decide) _ (fun W hW => ?_)
  by_cases h1 : l.length = 1
  · have hk0 : k = 0 := by omega
    subst hk0
    have := lookup_col _ 3 (arOne v pv) (arRow l A l.length cap) (arRow l A l.length cap) v W (htab'.ext hW) (hargs.ext hW) rfl rv h0 h4 h1 h1.symm
    rw [hj', if_neg (by omega)] at this
    have e : partA (arRow l A l.length cap).x ((0 : Nat) : Int).toNat 0 1 (arRow l A l.length cap).x.C = oneA x := by
      have := part_one (n := l.length) hx
      show partA ⟨1, l.length, l⟩ 0 0 1 l.length = _
      rw [h1] at this ⊢; exact this
    rw [e] at this
    exact this
  · have := lookup_row _ 3 (arOne v pv) (arRow l A l.length cap) (arRow l A l.length cap) v W (htab'.ext hW) (hargs.ext hW) rfl rv h0 h4 ⟨h1, Nat.le_refl 1⟩ rfl
    rw [hj', if_neg (by omega)] at this
    have e : partA (arRow l A l.length cap).x 0 ((k : Nat) : Int).toNat (arRow l A l.length cap).x.R 1 = oneA x := part_one hx
    rw [e] at this
    exact this
set_option maxHeartbeats 4000000 in
theorem flookBack_any (A : Option Addr) (n cap : Nat) (l : List Val) (v : Val) (w : World) (htab : Tab w) (h : ArrIn w A n cap l) (hv : v.ok) :
    Calls Tryz.prog 4 #[.slice A n cap, VV v.kind v.mant v.exp v.text v.truth v.fault] w fun e w' => e = .returned (.bool true) ∧ Ext w w' := by
  have HT := Lib.hid htab
  have hlen := h.len
  have g1 := fun W => refRight_any v.kind v.mant v.exp v.fault v.text v.truth W hv.2.1 hv.2.2.2.1
  have hre : refRight ⟨v.kind, v.mant, v.exp, v.text, v.truth, v.fault⟩ = valRight v := (right_eq v hv).symm
  clear htab
  by_cases q1 : n < 1
  · have q1' : (n : Int) < 1 := by omega
    clear hre g1 hlen
    go_enter Tryz.func4, Tryz.ntmps4
    go_wp2_with (go_at_call 11; (with_reducible refine (awake14_any _ (HT.out.ext (by repeat (first | (with_reducible (first | exact Ext.refl _ | exact ext_d _ _ _ _ | exact ext_app _ _ _ _ _ | exact ext_app2 _ _ _ _ _ _ | exact ext_app3 _ _ _ _ _ _ _)) | ((with_reducible refine ext_suffix ⟨_, ?_⟩); (try simp only [Array.append_assoc]); rfl) | (with_reducible (first | apply Ext.drew | apply Ext.alloc | apply Ext.more_)))))).mono ?_); rintro e w' ⟨rfl, hb⟩; obtain ⟨os, d, rfl⟩ := hb.more; clear hb)
    go_ret
    exact ⟨rfl, by repeat (first | (with_reducible (first | exact Ext.refl _ | exact ext_d _ _ _ _ | exact ext_app _ _ _ _ _ | exact ext_app2 _ _ _ _ _ _ | exact ext_app3 _ _ _ _ _ _ _)) | ((with_reducible refine ext_suffix ⟨_, ?_⟩); (try simp only [Array.append_assoc]); rfl) | (with_reducible (first | apply Ext.drew | apply Ext.alloc | apply Ext.more_)))⟩
  · have q1' : ¬ (n : Int) < 1 := by omega
    by_cases q60 : 60 < n
    · have q60' : (60 : Int) < (n : Int) := by omega
      clear hre g1 hlen
      go_enter Tryz.func4, Tryz.ntmps4
      go_wp2_with (go_at_call 11; (with_reducible refine (awake14_any _ (HT.out.ext (by repeat (first | (with_reducible (first | exact Ext.refl _ | exact ext_d _ _ _ _ | exact ext_app _ _ _ _ _ | exact ext_app2 _ _ _ _ _ _ | exact ext_app3 _ _ _ _ _ _ _)) | ((with_reducible refine ext_suffix ⟨_, ?_⟩); (try simp only [Array.append_assoc]); rfl) | (with_reducible (first | apply Ext.drew | apply Ext.alloc | apply Ext.more_)))))).mono ?_); rintro e w' ⟨rfl, hb⟩; obtain ⟨os, d, rfl⟩ := hb.more; clear hb)
      go_ret
      exact ⟨rfl, by repeat (first | (with_reducible (first | exact Ext.refl _ | exact ext_d _ _ _ _ | exact ext_app _ _ _ _ _ | exact ext_app2 _ _ _ _ _ _ | exact ext_app3 _ _ _ _ _ _ _)) | ((with_reducible refine ext_suffix ⟨_, ?_⟩); (try simp only [Array.append_assoc]); rfl) | (with_reducible (first | apply Ext.drew | apply Ext.alloc | apply Ext.more_)))⟩
    · have q60' : ¬ (60 : Int) < (n : Int) := by omega
      by_cases rv : valRight v = true
      · rw [hre, rv] at g1
        by_cases k0 : v.kind = 0
        · have k0' : (v.kind == 0) = true := by simpa using k0
          clear hre hlen k0
          go_enter Tryz.func4, Tryz.ntmps4
          go_wp2_with (first | (go_at_call 11; (with_reducible refine (awake14_any _ (HT.out.ext (by repeat (first | (with_reducible (first | exact Ext.refl _ | exact ext_d _ _ _ _ | exact ext_app _ _ _ _ _ | exact ext_app2 _ _ _ _ _ _ | exact ext_app3 _ _ _ _ _ _ _)) | ((with_reducible refine ext_suffix ⟨_, ?_⟩); (try simp only [Array.append_assoc]); rfl) | (with_reducible (first | apply Ext.drew | apply Ext.alloc | apply Ext.more_)))))).mono ?_); rintro e w' ⟨rfl, hb⟩; obtain ⟨os, d, rfl⟩ := hb.more; clear hb) | (go_at_call 12; (with_reducible refine (g1 _).mono ?_); rintro e w' ⟨rfl, hb⟩; obtain ⟨os, d, rfl⟩ := hb.more; clear hb))
          go_ret
          exact ⟨rfl, by repeat (first | (with_reducible (first | exact Ext.refl _ | exact ext_d _ _ _ _ | exact ext_app _ _ _ _ _ | exact ext_app2 _ _ _ _ _ _ | exact ext_app3 _ _ _ _ _ _ _)) | ((with_reducible refine ext_suffix ⟨_, ?_⟩); (try simp only [Array.append_assoc]); rfl) | (with_reducible (first | apply Ext.drew | apply Ext.alloc | apply Ext.more_)))⟩
        · have k0' : (v.kind == 0) = false := by simpa using k0
          by_cases k4 : v.kind = 4
          · have k4' : (v.kind == 4) = true := by simpa using k4
            clear hre hlen k0 k4
            go_enter Tryz.func4, Tryz.ntmps4
            go_wp2_with (first | (go_at_call 11; (with_reducible refine (awake14_any _ (HT.out.ext (by repeat (first | (with_reducible (first | exact Ext.refl _ | exact ext_d _ _ _ _ | exact ext_app _ _ _ _ _ | exact ext_app2 _ _ _ _ _ _ | exact ext_app3 _ _ _ _ _ _ _)) | ((with_reducible refine ext_suffix ⟨_, ?_⟩); (try simp only [Array.append_assoc]); rfl) | (with_reducible (first | apply Ext.drew | apply Ext.alloc | apply Ext.more_)))))).mono ?_); rintro e w' ⟨rfl, hb⟩; obtain ⟨os, d, rfl⟩ := hb.more; clear hb) | (go_at_call 12; (with_reducible refine (g1 _).mono ?_); rintro e w' ⟨rfl, hb⟩; obtain ⟨os, d, rfl⟩ := hb.more; clear hb))
            go_ret
            exact ⟨rfl, by repeat (first | (with_reducible (first | exact Ext.refl _ | exact ext_d _ _ _ _ | exact ext_app _ _ _ _ _ | exact ext_app2 _ _ _ _ _ _ | exact ext_app3 _ _ _ _ _ _ _)) | ((with_reducible refine ext_suffix ⟨_, ?_⟩); (try simp only [Array.append_assoc]); rfl) | (with_reducible (first | apply Ext.drew | apply Ext.alloc | apply Ext.more_)))⟩
          · have k4' : (v.kind == 4) = false := by simpa using k4
            have K0 := Lib.hid k0
            have K4 := Lib.hid k4
            clear hre k0 k4
            go_enter Tryz.func4, Tryz.ntmps4
            go_wp2_with (first | (go_at_call 11; (with_reducible refine (awake14_any _ (HT.out.ext (by repeat (first | (with_reducible (first | exact Ext.refl _ | exact ext_d _ _ _ _ | exact ext_app _ _ _ _ _ | exact ext_app2 _ _ _ _ _ _ | exact ext_app3 _ _ _ _ _ _ _)) | ((with_reducible refine ext_suffix ⟨_, ?_⟩); (try simp only [Array.append_assoc]); rfl) | (with_reducible (first | apply Ext.drew | apply Ext.alloc | apply Ext.more_)))))).mono ?_); rintro e w' ⟨rfl, hb⟩; obtain ⟨os, d, rfl⟩ := hb.more; clear hb) | (go_at_call 12; (with_reducible refine (g1 _).mono ?_); rintro e w' ⟨rfl, hb⟩; obtain ⟨os, d, rfl⟩ := hb.more; clear hb))
            clear q1' q60' k0' k4'
            refine wp_world fun W1 hW1 => ?_
            have hx1 : Ext w W1 := by rw [hW1]; exact (by repeat (first | (with_reducible (first | exact Ext.refl _ | exact ext_d _ _ _ _ | exact ext_app _ _ _ _ _ | exact ext_app2 _ _ _ _ _ _ | exact ext_app3 _ _ _ _ _ _ _)) | ((with_reducible refine ext_suffix ⟨_, ?_⟩); (try simp only [Array.append_assoc]); rfl) | (with_reducible (first | apply Ext.drew | apply Ext.alloc | apply Ext.more_))))
            have r1 : W1.heap[w.heap.size]? = some (.cells #[.int .i64 v.kind, .int .i64 v.mant, .int .i64 v.exp, .string v.text, .bool v.truth, .int .i64 v.fault] 26) := by
              rw [hW1]; exact ((ext_more _ _ _).block (by simp)).trans (heap_alloc_new _ _)
            clear hW1
            have p0 := lt_of_block r1
            have a0 : W1.cell? ⟨w.heap.size, 0, none⟩ = some (.int .i64 v.kind) := cell_of_row _ _ 0 _ _ _ r1
            have a1 : W1.cell? ⟨w.heap.size, 1, none⟩ = some (.int .i64 v.mant) := cell_of_row _ _ 1 _ _ _ r1
            have a2 : W1.cell? ⟨w.heap.size, 2, none⟩ = some (.int .i64 v.exp) := cell_of_row _ _ 2 _ _ _ r1
            have a3 : W1.cell? ⟨w.heap.size, 3, none⟩ = some (.string v.text) := cell_of_row _ _ 3 _ _ _ r1
            have a4 : W1.cell? ⟨w.heap.size, 4, none⟩ = some (.bool v.truth) := cell_of_row _ _ 4 _ _ _ r1
            have a5 : W1.cell? ⟨w.heap.size, 5, none⟩ = some (.int .i64 v.fault) := cell_of_row _ _ 5 _ _ _ r1
            have h1 := h.ext hx1
            clear r1 g1
            go_loopw [5] (fun i wr => ∃ k : Nat, k ≤ n ∧ i = .int .i64 k ∧ Ext W1 wr ∧ Hid (∀ j x, j < k → l[j]? = some x → valRight x = true)) (fun i _ => n - (intOf i).toNat)
            case atStart => exact ⟨0, Nat.zero_le _, rfl, Ext.refl _, fun j x hj => by omega⟩
            case round =>
              obtain ⟨k, hk, rfl, hX, H⟩ := hrel
              obtain ⟨os, d, rfl⟩ := hX.more
              clear hX
              by_cases hlt : k < n
              · obtain ⟨x, b, off, hx, hxo, rfl, ⟨x0, x1, x2, x3, x4, x5⟩⟩ := h1.at hlt
                have hbl1 : b < W1.heap.size := lt_of_cell x0
                have g2 := fun W => refRight_any x.kind x.mant x.exp x.fault x.text x.truth W hxo.2.1 hxo.2.2.2.1
                rw [show refRight ⟨x.kind, x.mant, x.exp, x.text, x.truth, x.fault⟩ = valRight x from (right_eq x hxo).symm] at g2
                cases hxr : valRight x with
                | false =>
                  rw [hxr] at g2
                  clear hxr hx H
                  go_wp2_with (go_at_call 12; (with_reducible refine (g2 _).mono ?_); rintro e w' ⟨rfl, hb⟩; obtain ⟨os, d, rfl⟩ := hb.more; clear hb)
                  go_ret
                  exact ⟨rfl, hx1.trans (by repeat (first | (with_reducible (first | exact Ext.refl _ | exact ext_d _ _ _ _ | exact ext_app _ _ _ _ _ | exact ext_app2 _ _ _ _ _ _ | exact ext_app3 _ _ _ _ _ _ _)) | ((with_reducible refine ext_suffix ⟨_, ?_⟩); (try simp only [Array.append_assoc]); rfl) | (with_reducible (first | apply Ext.drew | apply Ext.alloc | apply Ext.more_))))⟩
                | true =>
                  rw [hxr] at g2
                  have H2 : Hid (∀ j x, j < k + 1 → l[j]? = some x → valRight x = true) := by
                    show ∀ j x, j < k + 1 → l[j]? = some x → valRight x = true
                    intro j y hj hy
                    by_cases hjk : j = k
                    · subst hjk; rw [hx] at hy; rw [← Option.some.inj hy]; exact hxr
                    · exact H.out j y (by omega) hy
                  clear hxr hx H
                  go_wp2_with (go_at_call 12; (with_reducible refine (g2 _).mono ?_); rintro e w' ⟨rfl, hb⟩; obtain ⟨os, d, rfl⟩ := hb.more; clear hb)
                  exact ⟨⟨k + 1, by omega, by go_num, by repeat (first | (with_reducible (first | exact Ext.refl _ | exact ext_d _ _ _ _ | exact ext_app _ _ _ _ _ | exact ext_app2 _ _ _ _ _ _ | exact ext_app3 _ _ _ _ _ _ _)) | ((with_reducible refine ext_suffix ⟨_, ?_⟩); (try simp only [Array.append_assoc]); rfl) | (with_reducible (first | apply Ext.drew | apply Ext.alloc | apply Ext.more_))), H2⟩, by simp [intOf]; omega⟩
              · have hrt : ∀ x ∈ l, valRight x = true := by
                  intro x hx
                  obtain ⟨i, hi, rfl⟩ := List.mem_iff_getElem.1 hx
                  exact H.out i _ (by omega) (List.getElem?_eq_getElem hi)
                clear H
                have hP0 := fun W (hW : Ext W1 W) => place_any v A n cap l 0 (justN l v) W (HT.out.ext (hx1.trans hW)) (h1.ext hW) (by omega) (by omega) hrt rv K0.out K4.out (Or.inl ⟨rfl, rfl⟩)
                by_cases ht : justN l v = -1
                · have hno := firstN_none _ l 0 ht
                  rw [ht] at hP0
                  simp only [show (-1 : Int) + 1 = 0 from rfl] at hP0
                  have HN := Lib.hid hno
                  have HR := Lib.hid hrt
                  have RV := Lib.hid rv
                  clear hno hrt rv ht
                  go_wp2_with (go_at_call 15; (with_reducible refine (hP0 _ (by repeat (first | (with_reducible (first | exact Ext.refl _ | exact ext_d _ _ _ _ | exact ext_app _ _ _ _ _ | exact ext_app2 _ _ _ _ _ _ | exact ext_app3 _ _ _ _ _ _ _)) | ((with_reducible refine ext_suffix ⟨_, ?_⟩); (try simp only [Array.append_assoc]); rfl) | (with_reducible (first | apply Ext.drew | apply Ext.alloc | apply Ext.more_))))).mono ?_); rintro e w' ⟨rfl, hb⟩; obtain ⟨os, d, rfl⟩ := hb.more; clear hb)
                  clear hP0
                  go_loopw [7] (fun i wr => ∃ k2 : Nat, k2 ≤ n ∧ i = .int .i64 k2 ∧ Ext W1 wr) (fun i _ => n - (intOf i).toNat)
                  case atStart => exact ⟨0, Nat.zero_le _, rfl, by repeat (first | (with_reducible (first | exact Ext.refl _ | exact ext_d _ _ _ _ | exact ext_app _ _ _ _ _ | exact ext_app2 _ _ _ _ _ _ | exact ext_app3 _ _ _ _ _ _ _)) | ((with_reducible refine ext_suffix ⟨_, ?_⟩); (try simp only [Array.append_assoc]); rfl) | (with_reducible (first | apply Ext.drew | apply Ext.alloc | apply Ext.more_)))⟩
                  case round =>
                    obtain ⟨k2, hk2, rfl, hX⟩ := hrel
                    obtain ⟨os4, d4, rfl⟩ := hX.more
                    clear hX
                    by_cases hlt2 : k2 < n
                    · obtain ⟨x, b, off, hx, hxo, rfl, ⟨x0, x1, x2, x3, x4, x5⟩⟩ := h1.at hlt2
                      have hbl1 : b < W1.heap.size := lt_of_cell x0
                      have hmx := List.mem_of_getElem? hx
                      by_cases kx : x.kind = v.kind
                      · have kx' : (x.kind == v.kind) = true := by simpa using kx
                        have hc := fun W => rcompare_any x v W (HR.out x hmx) RV.out
                        have hne := HN.out x hmx
                        unfold stP at hne
                        rw [kx] at hne
                        have hne' : (cmpV x v == 0) = false := by simpa using hne
                        generalize cmpV x v = sg at hc hne'
                        clear hne kx hx hmx
                        go_upto_region 15 with fail
                        refine wp_plan (S := Ext _) [(0, 0), (1, 0), (2, 0), (3, 0), (4, 0), (5, 0), (6, 0), (7, 0), (8, 0), (9, 0), (10, 0), (11, 0), (12, 0), (13, 0), (14, 1), (15, 0), (16, 0)] [] (by kernel_rfl) (by kernel_rfl) (by kernel_rfl) (fun _ _ d _ _ h => by cases d <;> exact h) (Ext.drew (Ext.refl _)) ?_
                        iterate 8 ((refine wpPl_read (v := ?_) rfl ?_ (fun _ h => ?_) ?_; rotate_left 1; rfl; (obtain ⟨_, _, rfl⟩ := h.more; go_simp; try rfl)); try simp only [Act.put, zqA, zqB, zqC])
                        try simp only [Bool.not_true, Bool.not_false, Bool.or_true, Bool.or_false, Bool.true_or, Bool.false_or, Bool.and_true, Bool.and_false, Bool.true_and, Bool.false_and, decide_true, decide_false, kx', hne']
                        (refine wpPl_read (v := ?_) rfl ?_ (fun _ h => ?_) ?_; rotate_left 1; rfl; (obtain ⟨_, _, rfl⟩ := h.more; go_simp; try rfl))
                        try simp only [Act.put, zqA, zqB, zqC]
                        iterate 5 ((first | (refine wpPl_skip rfl rfl ?_) | (refine wpPl_read (v := ?_) rfl ?_ (fun w1 h1 => ?_) ?_; rotate_left 1; rfl; (obtain ⟨os1, d1, rfl⟩ := h1.more; go_simp; first | done | rfl))); try simp only [Act.put, zqA, zqB, zqC])
                        (refine wpPl_eff rfl ?_ (fun K hK => ?_); (first | with_reducible rfl | rfl | (go_simp; done)); go_simp; refine (hc _).mono ?_; rintro e w' ⟨rfl, hb⟩; obtain ⟨os5, d5, rfl⟩ := hb.more; clear hb; refine hK _ _ ?_ ?_; (repeat (first | (with_reducible (first | exact Ext.refl _ | exact ext_d _ _ _ _ | exact ext_app _ _ _ _ _ | exact ext_app2 _ _ _ _ _ _ | exact ext_app3 _ _ _ _ _ _ _ | exact ext_app4 _ _ _ _ _ _ _ _ | exact ext_app5 _ _ _ _ _ _ _ _ _)) | ((with_reducible refine ext_suffix ⟨_, ?_⟩); (try simp only [Array.append_assoc]); rfl) | (with_reducible (first | apply Ext.drew | apply Ext.alloc | apply Ext.more_)) | apply Ext.drew | apply Ext.alloc | apply Ext.more_)))
                        try simp only [Act.put, zqA, zqB, zqC]
                        first | (refine wpPl_skip rfl rfl ?_) | (refine wpPl_read (v := ?_) rfl ?_ (fun w1 h1 => ?_) ?_; rotate_left 1; rfl; (obtain ⟨os1, d1, rfl⟩ := h1.more; go_simp; first | done | rfl))
                        try simp only [Act.put, zqA, zqB, zqC]
                        try simp only [Bool.not_true, Bool.not_false, Bool.or_true, Bool.or_false, Bool.true_or, Bool.false_or, Bool.and_true, Bool.and_false, Bool.true_and, Bool.false_and, decide_true, decide_false, kx', hne']
                        (refine wpPl_read (v := ?_) rfl ?_ (fun _ h => ?_) ?_; rotate_left 1; rfl; (obtain ⟨_, _, rfl⟩ := h.more; go_simp; try rfl))
                        try simp only [Act.put, zqA, zqB, zqC]
                        try simp only [Bool.not_true, Bool.not_false, Bool.or_true, Bool.or_false, Bool.true_or, Bool.false_or, Bool.and_true, Bool.and_false, Bool.true_and, Bool.false_and, decide_true, decide_false, kx', hne']
                        refine wpPl_nil ?_
                        go_wp2_with fail
                        refine ⟨⟨k2 + 1, by omega, by go_num, by repeat (first | (with_reducible (first | exact Ext.refl _ | exact ext_d _ _ _ _ | exact ext_app _ _ _ _ _ | exact ext_app2 _ _ _ _ _ _ | exact ext_app3 _ _ _ _ _ _ _)) | ((with_reducible refine ext_suffix ⟨_, ?_⟩); (try simp only [Array.append_assoc]); rfl) | (with_reducible (first | apply Ext.drew | apply Ext.alloc | apply Ext.more_)))⟩, by simp [intOf]; omega⟩
                      · have kx' : (x.kind == v.kind) = false := by simpa using kx
                        clear kx hx hmx
                        go_upto_region 15 with fail
                        refine wp_plan (S := Ext _) [(0, 0), (1, 0), (2, 0), (3, 0), (4, 0), (5, 0), (6, 0), (7, 0), (8, 0), (9, 0), (10, 0), (11, 0), (12, 0), (13, 0), (14, 1), (15, 0), (16, 0)] [] (by kernel_rfl) (by kernel_rfl) (by kernel_rfl) (fun _ _ d _ _ h => by cases d <;> exact h) (Ext.drew (Ext.refl _)) ?_
                        iterate 8 ((refine wpPl_read (v := ?_) rfl ?_ (fun _ h => ?_) ?_; rotate_left 1; rfl; (obtain ⟨_, _, rfl⟩ := h.more; go_simp; try rfl)); try simp only [Act.put, zqA, zqB, zqC])
                        try simp only [Bool.not_true, Bool.not_false, Bool.or_true, Bool.or_false, Bool.true_or, Bool.false_or, Bool.and_true, Bool.and_false, Bool.true_and, Bool.false_and, decide_true, decide_false, kx']
                        (refine wpPl_read (v := ?_) rfl ?_ (fun _ h => ?_) ?_; rotate_left 1; rfl; (obtain ⟨_, _, rfl⟩ := h.more; go_simp; try rfl))
                        try simp only [Act.put, zqA, zqB, zqC]
                        iterate 5 ((first | (refine wpPl_skip rfl rfl ?_) | (refine wpPl_read (v := ?_) rfl ?_ (fun w1 h1 => ?_) ?_; rotate_left 1; rfl; (obtain ⟨os1, d1, rfl⟩ := h1.more; go_simp; first | done | rfl))); try simp only [Act.put, zqA, zqB, zqC])
                        (refine wpPl_effskip rfl ?_ ?_ ?_; (first | with_reducible rfl | rfl | (go_simp; done)); (repeat (first | (with_reducible (first | exact Ext.refl _ | exact ext_d _ _ _ _ | exact ext_app _ _ _ _ _ | exact ext_app2 _ _ _ _ _ _ | exact ext_app3 _ _ _ _ _ _ _ | exact ext_app4 _ _ _ _ _ _ _ _ | exact ext_app5 _ _ _ _ _ _ _ _ _)) | ((with_reducible refine ext_suffix ⟨_, ?_⟩); (try simp only [Array.append_assoc]); rfl) | (with_reducible (first | apply Ext.drew | apply Ext.alloc | apply Ext.more_)) | apply Ext.drew | apply Ext.alloc | apply Ext.more_)))
                        try simp only [Act.put, zqA, zqB, zqC]
                        first | (refine wpPl_skip rfl rfl ?_) | (refine wpPl_read (v := ?_) rfl ?_ (fun w1 h1 => ?_) ?_; rotate_left 1; rfl; (obtain ⟨os1, d1, rfl⟩ := h1.more; go_simp; first | done | rfl))
                        try simp only [Act.put, zqA, zqB, zqC]
                        try simp only [Bool.not_true, Bool.not_false, Bool.or_true, Bool.or_false, Bool.true_or, Bool.false_or, Bool.and_true, Bool.and_false, Bool.true_and, Bool.false_and, decide_true, decide_false, kx']
                        (refine wpPl_read (v := ?_) rfl ?_ (fun _ h => ?_) ?_; rotate_left 1; rfl; (obtain ⟨_, _, rfl⟩ := h.more; go_simp; try rfl))
                        try simp only [Act.put, zqA, zqB, zqC]
                        try simp only [Bool.not_true, Bool.not_false, Bool.or_true, Bool.or_false, Bool.true_or, Bool.false_or, Bool.and_true, Bool.and_false, Bool.true_and, Bool.false_and, decide_true, decide_false, kx']
                        refine wpPl_nil ?_
                        go_wp2_with fail
                        refine ⟨⟨k2 + 1, by omega, by go_num, by repeat (first | (with_reducible (first | exact Ext.refl _ | exact ext_d _ _ _ _ | exact ext_app _ _ _ _ _ | exact ext_app2 _ _ _ _ _ _ | exact ext_app3 _ _ _ _ _ _ _)) | ((with_reducible refine ext_suffix ⟨_, ?_⟩); (try simp only [Array.append_assoc]); rfl) | (with_reducible (first | apply Ext.drew | apply Ext.alloc | apply Ext.more_)))⟩, by simp [intOf]; omega⟩
                    · go_wp2_with fail
                      go_ret
                      exact ⟨rfl, hx1.trans (by repeat (first | (with_reducible (first | exact Ext.refl _ | exact ext_d _ _ _ _ | exact ext_app _ _ _ _ _ | exact ext_app2 _ _ _ _ _ _ | exact ext_app3 _ _ _ _ _ _ _)) | ((with_reducible refine ext_suffix ⟨_, ?_⟩); (try simp only [Array.append_assoc]); rfl) | (with_reducible (first | apply Ext.drew | apply Ext.alloc | apply Ext.more_))))⟩
                · obtain ⟨t, x, hx, hpx, htt⟩ := firstN_found _ l 0 ht
                  rw [Nat.zero_add] at htt
                  have htt : justN l v = (t : Int) := htt
                  have htn : t < n := by rw [← hlen]; exact (List.getElem?_eq_some_iff.1 hx).1
                  rw [htt] at hP0
                  have htb : ((t : Int) + 1).natAbs < T 15 := by have : T 15 = 1000000000000000 := (by decide); omega
                  have hnum := fun W => number14_any ((t : Int) + 1) W htb
                  have hu : wholeO (cntV ((t : Int) + 1)) = (((t + 1 : Nat) : Int), 0) := by rw [whole_cnt htb, Int.natCast_add]; rfl
                  have ry := cnt_right htb
                  have hpx2 : x.kind = v.kind ∧ cmpV x v = 0 := by
                    unfold stP at hpx
                    simpa using hpx
                  have kx' : (x.kind == v.kind) = true := by simpa using hpx2.1
                  have hmx := List.mem_of_getElem? hx
                  have hc := fun W => rcompare_any x v W (hrt x hmx) rv
                  rw [hpx2.2] at hc
                  have hxo := (show x.right from hrt x hmx).ok
                  generalize cntV ((t : Int) + 1) = y at *
                  have hyo := ry.ok
                  have hvo := hv
                  have hn1 : 1 ≤ n := by omega
                  have hn2 : n ≤ 4096 := by omega
                  have z1 : ¬ (t : Int) + 1 < 0 := by omega
                  have z2 : ¬ (n : Int) < (t : Int) + 1 := by omega
                  have z3 : ((t : Int) + 1 == 0) = false := by simp; omega
                  have HU := Lib.hid hu
                  have HX := Lib.hid hx
                  have HJ := Lib.hid htt
                  have s1 : sameA (oneA x).R (oneA x).C [x] (oneA x).R (oneA x).C [x] = true := by simp [sameA]
                  have hrr : ∀ x ∈ l, x.right := hrt
                  have rvv : v.right := rv
                  have hkn : ¬ (k : Int) < (n : Int) := by omega
                  clear hu hx htt hpx2 hpx ht hlt q1 q60 hk htb hlen hmx hrt rv
                  have T1 : True := trivial
                  have T2 : True := trivial
                  have T3 : True := trivial
                  go_upto_region 20 with (first | (go_at_call 15; (with_reducible refine (hP0 _ (by repeat (first | (with_reducible (first | exact Ext.refl _ | exact ext_d _ _ _ _ | exact ext_app _ _ _ _ _ | exact ext_app2 _ _ _ _ _ _ | exact ext_app3 _ _ _ _ _ _ _)) | ((with_reducible refine ext_suffix ⟨_, ?_⟩); (try simp only [Array.append_assoc]); rfl) | (with_reducible (first | apply Ext.drew | apply Ext.alloc | apply Ext.more_))))).mono ?_); rintro e w' ⟨rfl, hb⟩; obtain ⟨osp, dp, rfl⟩ := hb.more; clear hb) | (go_at_call 19; (with_reducible refine (hnum _).mono ?_); rintro e w' ⟨rfl, hb⟩; obtain ⟨osn, dn, rfl⟩ := hb.more; clear hb) | (go_at_call 18; (with_reducible refine (row_one y hyo (by simp)).mono ?_); rintro e w' ⟨rfl, hb, A2⟩; obtain ⟨os2, d2, rfl⟩ := hb.more; clear hb) | (go_at_call 18; (with_reducible refine (row_one v hvo (by simp)).mono ?_); rintro e w' ⟨rfl, hb, A1⟩; obtain ⟨os4, d4, rfl⟩ := hb.more; clear hb) | (go_at_call 18; (with_reducible refine (row14_any A n cap _).mono ?_); rintro e w' ⟨rfl, hb⟩; clear T1; obtain ⟨or1, dr1, rfl⟩ := hb.more; clear hb) | (go_at_call 18; (with_reducible refine (row14_any A n cap _).mono ?_); rintro e w' ⟨rfl, hb⟩; clear T2; obtain ⟨or2, dr2, rfl⟩ := hb.more; clear hb) | (go_at_call 18; (with_reducible refine (row14_any A n cap _).mono ?_); rintro e w' ⟨rfl, hb⟩; clear T3; obtain ⟨or3, dr3, rfl⟩ := hb.more; clear hb) | (go_at_call 17; ((with_reducible refine (index_place y x l t (by simp) (h1.ext (by repeat (first | (with_reducible (first | exact Ext.refl _ | exact ext_d _ _ _ _ | exact ext_app _ _ _ _ _ | exact ext_app2 _ _ _ _ _ _ | exact ext_app3 _ _ _ _ _ _ _)) | ((with_reducible refine ext_suffix ⟨_, ?_⟩); (try simp only [Array.append_assoc]); rfl) | (with_reducible (first | apply Ext.drew | apply Ext.alloc | apply Ext.more_))))) (A2.ext (by repeat (first | (with_reducible (first | exact Ext.refl _ | exact ext_d _ _ _ _ | exact ext_app _ _ _ _ _ | exact ext_app2 _ _ _ _ _ _ | exact ext_app3 _ _ _ _ _ _ _)) | ((with_reducible refine ext_suffix ⟨_, ?_⟩); (try simp only [Array.append_assoc]); rfl) | (with_reducible (first | apply Ext.drew | apply Ext.alloc | apply Ext.more_))))) hrr ry hn1 hn2 HU.out HX.out).mono ?_); rintro e w' ⟨D5, m5, c5, rfl, hN5, hb⟩; obtain ⟨os5, d5, rfl⟩ := hb.more; clear hb)) | (go_at_call 17; ((with_reducible refine (lookup_place v x l t (HT.out.ext (hx1.trans (by repeat (first | (with_reducible (first | exact Ext.refl _ | exact ext_d _ _ _ _ | exact ext_app _ _ _ _ _ | exact ext_app2 _ _ _ _ _ _ | exact ext_app3 _ _ _ _ _ _ _)) | ((with_reducible refine ext_suffix ⟨_, ?_⟩); (try simp only [Array.append_assoc]); rfl) | (with_reducible (first | apply Ext.drew | apply Ext.alloc | apply Ext.more_)))))) (by simp) (A1.ext (by repeat (first | (with_reducible (first | exact Ext.refl _ | exact ext_d _ _ _ _ | exact ext_app _ _ _ _ _ | exact ext_app2 _ _ _ _ _ _ | exact ext_app3 _ _ _ _ _ _ _)) | ((with_reducible refine ext_suffix ⟨_, ?_⟩); (try simp only [Array.append_assoc]); rfl) | (with_reducible (first | apply Ext.drew | apply Ext.alloc | apply Ext.more_))))) (h1.ext (by repeat (first | (with_reducible (first | exact Ext.refl _ | exact ext_d _ _ _ _ | exact ext_app _ _ _ _ _ | exact ext_app2 _ _ _ _ _ _ | exact ext_app3 _ _ _ _ _ _ _)) | ((with_reducible refine ext_suffix ⟨_, ?_⟩); (try simp only [Array.append_assoc]); rfl) | (with_reducible (first | apply Ext.drew | apply Ext.alloc | apply Ext.more_))))) rvv hrr hn1 hn2 K0.out K4.out HJ.out HX.out).mono ?_); rintro e w' ⟨D6, m6, c6, rfl, hN6, hb⟩; obtain ⟨os6, d6, rfl⟩ := hb.more; clear hb)))
                  refine wp_world fun W2 hW2 => ?_
                  have hx2 : Ext W1 W2 := by rw [hW2]; exact (by repeat (first | (with_reducible (first | exact Ext.refl _ | exact ext_d _ _ _ _ | exact ext_app _ _ _ _ _ | exact ext_app2 _ _ _ _ _ _ | exact ext_app3 _ _ _ _ _ _ _)) | ((with_reducible refine ext_suffix ⟨_, ?_⟩); (try simp only [Array.append_assoc]); rfl) | (with_reducible (first | apply Ext.drew | apply Ext.alloc | apply Ext.more_))))
                  have aD5 : ArrIn W2 D5 m5 c5 [x] := by rw [hW2]; exact hN5.arr.ext (by repeat (first | (with_reducible (first | exact Ext.refl _ | exact ext_d _ _ _ _ | exact ext_app _ _ _ _ _ | exact ext_app2 _ _ _ _ _ _ | exact ext_app3 _ _ _ _ _ _ _)) | ((with_reducible refine ext_suffix ⟨_, ?_⟩); (try simp only [Array.append_assoc]); rfl) | (with_reducible (first | apply Ext.drew | apply Ext.alloc | apply Ext.more_))))
                  have aD6 : ArrIn W2 D6 m6 c6 [x] := by rw [hW2]; exact hN6.arr.ext (by repeat (first | (with_reducible (first | exact Ext.refl _ | exact ext_d _ _ _ _ | exact ext_app _ _ _ _ _ | exact ext_app2 _ _ _ _ _ _ | exact ext_app3 _ _ _ _ _ _ _)) | ((with_reducible refine ext_suffix ⟨_, ?_⟩); (try simp only [Array.append_assoc]); rfl) | (with_reducible (first | apply Ext.drew | apply Ext.alloc | apply Ext.more_))))
                  have r5 : W2.heap[W1.heap.size + (os.size + (osp.size + (or1.size + osn.size))) + 1 + os2.size + 1 + os5.size]? = some (.cells #[.int .i64 (oneA x).R, .int .i64 (oneA x).C, .slice D5 m5 c5] 34) := by
                    rw [hW2]; repeat (first | exact heap_alloc_at (by simp) | rw [heap_alloc_lt (by first | (simp; done) | (simp; omega))] | rw [heap_more_lt (by first | (simp; done) | (simp; omega))])
                  have r6 : W2.heap[W1.heap.size + (os.size + (osp.size + (or1.size + osn.size))) + 1 + os2.size + 1 + os5.size + 1 + 1 + (os4.size + (or2.size + or3.size)) + 1 + os6.size]? = some (.cells #[.int .i64 (oneA x).R, .int .i64 (oneA x).C, .slice D6 m6 c6] 34) := by
                    rw [hW2]; exact heap_alloc_at (by simp)
                  generalize W1.heap.size + (os.size + (osp.size + (or1.size + osn.size))) + 1 + os2.size + 1 + os5.size + 1 + 1 + (os4.size + (or2.size + or3.size)) + 1 + os6.size = p6 at *
                  generalize W1.heap.size + (os.size + (osp.size + (or1.size + osn.size))) + 1 + os2.size + 1 + os5.size = p5 at *
                  clear hW2 hN5 hN6 A1 A2 hP0 hnum HX HU HJ
                  have l5 := lt_of_block r5
                  have l6 := lt_of_block r6
                  have e0 : W2.cell? ⟨p5, 0, none⟩ = some (.int .i64 (oneA x).R) := cell_of_row _ _ 0 _ _ _ r5
                  have e1 : W2.cell? ⟨p5, 1, none⟩ = some (.int .i64 (oneA x).C) := cell_of_row _ _ 1 _ _ _ r5
                  have e2 : W2.cell? ⟨p5, 2, none⟩ = some (.slice D5 m5 c5) := cell_of_row _ _ 2 _ _ _ r5
                  have f0 : W2.cell? ⟨p6, 0, none⟩ = some (.int .i64 (oneA x).R) := cell_of_row _ _ 0 _ _ _ r6
                  have f1 : W2.cell? ⟨p6, 1, none⟩ = some (.int .i64 (oneA x).C) := cell_of_row _ _ 1 _ _ _ r6
                  have f2 : W2.cell? ⟨p6, 2, none⟩ = some (.slice D6 m6 c6) := cell_of_row _ _ 2 _ _ _ r6
                  clear r5 r6
                  have c0 := hx2.cell_some a0
                  have c1 := hx2.cell_some a1
                  have c2 := hx2.cell_some a2
                  have c3 := hx2.cell_some a3
                  have c4 := hx2.cell_some a4
                  have c5' := hx2.cell_some a5
                  have lv : w.heap.size < W2.heap.size := Nat.lt_of_lt_of_le p0 hx2.size
                  clear a0 a1 a2 a3 a4 a5
                  obtain ⟨x', b, off, hx0, _, rfl, hat⟩ := aD5.at (k := 0) (by rw [← aD5.len]; exact Nat.one_pos)
                  obtain rfl : x' = x := by simpa using hx0.symm
                  have hm1 : m5 = 1 := aD5.len.symm
                  subst hm1
                  obtain ⟨v0, v1, v2, v3, v4, v5⟩ := hat
                  simp only [Nat.zero_mul, Nat.add_zero] at v0 v1 v2 v3 v4 v5
                  have hbl : b < W2.heap.size := lt_of_cell v0
                  have o1 : (1 : Int) == 1 := rfl
                  clear hx0
                  refine wp_plan (S := Ext _) [(0, 0), (1, 0), (2, 0), (3, 0), (4, 0), (5, 0), (6, 0), (7, 0), (8, 0), (9, 0), (10, 0), (11, 0), (12, 0), (13, 0), (14, 0), (15, 0), (16, 0), (17, 0), (18, 0), (19, 0), (20, 0), (21, 0), (22, 0), (23, 0), (24, 0), (25, 0), (26, 1), (27, 0), (28, 0), (29, 0), (30, 0), (31, 0), (32, 1), (33, 0), (34, 0)] [] (by kernel_rfl) (by kernel_rfl) (by kernel_rfl) (fun _ _ d _ _ h => by cases d <;> exact h) (Ext.drew (Ext.refl _)) ?_
                  iterate 2 ((refine wpPl_read (v := ?_) rfl ?_ (fun _ h => ?_) ?_; rotate_left 1; rfl; (obtain ⟨_, _, rfl⟩ := h.more; go_simp; try rfl)); try simp only [Act.put, zqA, zqB, zqC])
                  first | (refine wpPl_skip rfl rfl ?_) | (refine wpPl_read (v := ?_) rfl ?_ (fun w1 h1 => ?_) ?_; rotate_left 1; rfl; (obtain ⟨os1, d1, rfl⟩ := h1.more; go_simp; first | done | rfl))
                  try simp only [Act.put, zqA, zqB, zqC]
                  (refine wpPl_read (v := ?_) rfl ?_ (fun _ h => ?_) ?_; rotate_left 1; rfl; (obtain ⟨_, _, rfl⟩ := h.more; go_simp; try rfl))
                  try simp only [Act.put, zqA, zqB, zqC]
                  try simp only [Bool.not_true, Bool.not_false, Bool.or_true, Bool.or_false, Bool.true_or, Bool.false_or, Bool.and_true, Bool.and_false, Bool.true_and, Bool.false_and, decide_true, decide_false, kx']
                  (refine wpPl_read (v := ?_) rfl ?_ (fun _ h => ?_) ?_; rotate_left 1; rfl; (obtain ⟨_, _, rfl⟩ := h.more; go_simp; try rfl))
                  try simp only [Act.put, zqA, zqB, zqC]
                  iterate 4 ((first | (refine wpPl_skip rfl rfl ?_) | (refine wpPl_read (v := ?_) rfl ?_ (fun w1 h1 => ?_) ?_; rotate_left 1; rfl; (obtain ⟨os1, d1, rfl⟩ := h1.more; go_simp; first | done | rfl))); try simp only [Act.put, zqA, zqB, zqC])
                  try simp only [Bool.not_true, Bool.not_false, Bool.or_true, Bool.or_false, Bool.true_or, Bool.false_or, Bool.and_true, Bool.and_false, Bool.true_and, Bool.false_and, decide_true, decide_false, kx']
                  (refine wpPl_read (v := ?_) rfl ?_ (fun _ h => ?_) ?_; rotate_left 1; rfl; (obtain ⟨_, _, rfl⟩ := h.more; go_simp; try rfl))
                  try simp only [Act.put, zqA, zqB, zqC]
                  try simp only [Bool.not_true, Bool.not_false, Bool.or_true, Bool.or_false, Bool.true_or, Bool.false_or, Bool.and_true, Bool.and_false, Bool.true_and, Bool.false_and, decide_true, decide_false, kx']
                  (refine wpPl_read (v := ?_) rfl ?_ (fun _ h => ?_) ?_; rotate_left 1; rfl; (obtain ⟨_, _, rfl⟩ := h.more; go_simp; try rfl))
                  try simp only [Act.put, zqA, zqB, zqC]
                  iterate 8 ((first | (refine wpPl_skip rfl rfl ?_) | (refine wpPl_read (v := ?_) rfl ?_ (fun w1 h1 => ?_) ?_; rotate_left 1; rfl; (obtain ⟨os1, d1, rfl⟩ := h1.more; go_simp; first | done | rfl))); try simp only [Act.put, zqA, zqB, zqC])
                  try simp only [Bool.not_true, Bool.not_false, Bool.or_true, Bool.or_false, Bool.true_or, Bool.false_or, Bool.and_true, Bool.and_false, Bool.true_and, Bool.false_and, decide_true, decide_false, kx']
                  (refine wpPl_read (v := ?_) rfl ?_ (fun _ h => ?_) ?_; rotate_left 1; rfl; (obtain ⟨_, _, rfl⟩ := h.more; go_simp; try rfl))
                  try simp only [Act.put, zqA, zqB, zqC]
                  try simp only [Bool.not_true, Bool.not_false, Bool.or_true, Bool.or_false, Bool.true_or, Bool.false_or, Bool.and_true, Bool.and_false, Bool.true_and, Bool.false_and, decide_true, decide_false, kx']
                  (refine wpPl_read (v := ?_) rfl ?_ (fun _ h => ?_) ?_; rotate_left 1; rfl; (obtain ⟨_, _, rfl⟩ := h.more; go_simp; try rfl))
                  try simp only [Act.put, zqA, zqB, zqC]
                  iterate 5 ((first | (refine wpPl_skip rfl rfl ?_) | (refine wpPl_read (v := ?_) rfl ?_ (fun w1 h1 => ?_) ?_; rotate_left 1; rfl; (obtain ⟨os1, d1, rfl⟩ := h1.more; go_simp; first | done | rfl))); try simp only [Act.put, zqA, zqB, zqC])
                  (refine wpPl_eff rfl ?_ (fun K hK => ?_); (first | with_reducible rfl | rfl | (go_simp; done)); go_simp; refine (hc _).mono ?_; rintro e w' ⟨rfl, hb⟩; obtain ⟨os7, d7, rfl⟩ := hb.more; clear hb; refine hK _ _ ?_ ?_; (repeat (first | (with_reducible (first | exact Ext.refl _ | exact ext_d _ _ _ _ | exact ext_app _ _ _ _ _ | exact ext_app2 _ _ _ _ _ _ | exact ext_app3 _ _ _ _ _ _ _ | exact ext_app4 _ _ _ _ _ _ _ _ | exact ext_app5 _ _ _ _ _ _ _ _ _)) | ((with_reducible refine ext_suffix ⟨_, ?_⟩); (try simp only [Array.append_assoc]); rfl) | (with_reducible (first | apply Ext.drew | apply Ext.alloc | apply Ext.more_)) | apply Ext.drew | apply Ext.alloc | apply Ext.more_)))
                  try simp only [Act.put, zqA, zqB, zqC]
                  first | (refine wpPl_skip rfl rfl ?_) | (refine wpPl_read (v := ?_) rfl ?_ (fun w1 h1 => ?_) ?_; rotate_left 1; rfl; (obtain ⟨os1, d1, rfl⟩ := h1.more; go_simp; first | done | rfl))
                  try simp only [Act.put, zqA, zqB, zqC]
                  try simp only [Bool.not_true, Bool.not_false, Bool.or_true, Bool.or_false, Bool.true_or, Bool.false_or, Bool.and_true, Bool.and_false, Bool.true_and, Bool.false_and, decide_true, decide_false, kx']
                  (refine wpPl_read (v := ?_) rfl ?_ (fun _ h => ?_) ?_; rotate_left 1; rfl; (obtain ⟨_, _, rfl⟩ := h.more; go_simp; try rfl))
                  try simp only [Act.put, zqA, zqB, zqC]
                  try simp only [Bool.not_true, Bool.not_false, Bool.or_true, Bool.or_false, Bool.true_or, Bool.false_or, Bool.and_true, Bool.and_false, Bool.true_and, Bool.false_and, decide_true, decide_false, kx']
                  (refine wpPl_read (v := ?_) rfl ?_ (fun _ h => ?_) ?_; rotate_left 1; rfl; (obtain ⟨_, _, rfl⟩ := h.more; go_simp; try rfl))
                  try simp only [Act.put, zqA, zqB, zqC]
                  iterate 2 ((first | (refine wpPl_skip rfl rfl ?_) | (refine wpPl_read (v := ?_) rfl ?_ (fun w1 h1 => ?_) ?_; rotate_left 1; rfl; (obtain ⟨os1, d1, rfl⟩ := h1.more; go_simp; first | done | rfl))); try simp only [Act.put, zqA, zqB, zqC])
                  (refine wpPl_eff rfl ?_ (fun K hK => ?_); (first | with_reducible rfl | rfl | (go_simp; done)); go_simp; refine (refSame_any _ _ _ _ _ _ _ _ _ _ [x'] [x'] _ (aD5.ext (by repeat (first | (with_reducible (first | exact Ext.refl _ | exact ext_d _ _ _ _ | exact ext_app _ _ _ _ _ | exact ext_app2 _ _ _ _ _ _ | exact ext_app3 _ _ _ _ _ _ _)) | ((with_reducible refine ext_suffix ⟨_, ?_⟩); (try simp only [Array.append_assoc]); rfl) | (with_reducible (first | apply Ext.drew | apply Ext.alloc | apply Ext.more_))))) (aD6.ext (by repeat (first | (with_reducible (first | exact Ext.refl _ | exact ext_d _ _ _ _ | exact ext_app _ _ _ _ _ | exact ext_app2 _ _ _ _ _ _ | exact ext_app3 _ _ _ _ _ _ _)) | ((with_reducible refine ext_suffix ⟨_, ?_⟩); (try simp only [Array.append_assoc]); rfl) | (with_reducible (first | apply Ext.drew | apply Ext.alloc | apply Ext.more_)))))).mono ?_; rintro e w' ⟨rfl, hb⟩; obtain ⟨os8, d8, rfl⟩ := hb.more; clear hb; refine hK _ _ ?_ ?_; (repeat (first | (with_reducible (first | exact Ext.refl _ | exact ext_d _ _ _ _ | exact ext_app _ _ _ _ _ | exact ext_app2 _ _ _ _ _ _ | exact ext_app3 _ _ _ _ _ _ _ | exact ext_app4 _ _ _ _ _ _ _ _ | exact ext_app5 _ _ _ _ _ _ _ _ _)) | ((with_reducible refine ext_suffix ⟨_, ?_⟩); (try simp only [Array.append_assoc]); rfl) | (with_reducible (first | apply Ext.drew | apply Ext.alloc | apply Ext.more_)) | apply Ext.drew | apply Ext.alloc | apply Ext.more_)))
                  try simp only [Act.put, zqA, zqB, zqC]
                  (refine wpPl_read (v := ?_) rfl ?_ (fun _ h => ?_) ?_; rotate_left 1; rfl; (obtain ⟨_, _, rfl⟩ := h.more; go_simp; try rfl))
                  try simp only [Act.put, zqA, zqB, zqC]
                  try simp only [Bool.not_true, Bool.not_false, Bool.or_true, Bool.or_false, Bool.true_or, Bool.false_or, Bool.and_true, Bool.and_false, Bool.true_and, Bool.false_and, decide_true, decide_false, kx']
                  (refine wpPl_read (v := ?_) rfl ?_ (fun _ h => ?_) ?_; rotate_left 1; rfl; (obtain ⟨_, _, rfl⟩ := h.more; go_simp; try rfl))
                  try simp only [Act.put, zqA, zqB, zqC]
                  refine wpPl_nil ?_
                  go_wp2_with fail
                  go_ret
                  exact ⟨rfl, (hx1.trans hx2).trans (by repeat (first | (with_reducible (first | exact Ext.refl _ | exact ext_d _ _ _ _ | exact ext_app _ _ _ _ _ | exact ext_app2 _ _ _ _ _ _ | exact ext_app3 _ _ _ _ _ _ _)) | ((with_reducible refine ext_suffix ⟨_, ?_⟩); (try simp only [Array.append_assoc]); rfl) | (with_reducible (first | apply Ext.drew | apply Ext.alloc | apply Ext.more_))))⟩
      · rw [hre, show valRight v = false by simpa using rv] at g1
        clear hre hlen
        go_enter Tryz.func4, Tryz.ntmps4
        go_wp2_with (first | (go_at_call 11; (with_reducible refine (awake14_any _ (HT.out.ext (by repeat (first | (with_reducible (first | exact Ext.refl _ | exact ext_d _ _ _ _ | exact ext_app _ _ _ _ _ | exact ext_app2 _ _ _ _ _ _ | exact ext_app3 _ _ _ _ _ _ _)) | ((with_reducible refine ext_suffix ⟨_, ?_⟩); (try simp only [Array.append_assoc]); rfl) | (with_reducible (first | apply Ext.drew | apply Ext.alloc | apply Ext.more_)))))).mono ?_); rintro e w' ⟨rfl, hb⟩; obtain ⟨os, d, rfl⟩ := hb.more; clear hb) | (go_at_call 12; (with_reducible refine (g1 _).mono ?_); rintro e w' ⟨rfl, hb⟩; obtain ⟨os, d, rfl⟩ := hb.more; clear hb))
        go_ret
        exact ⟨rfl, by repeat (first | (with_reducible (first | exact Ext.refl _ | exact ext_d _ _ _ _ | exact ext_app _ _ _ _ _ | exact ext_app2 _ _ _ _ _ _ | exact ext_app3 _ _ _ _ _ _ _)) | ((with_reducible refine ext_suffix ⟨_, ?_⟩); (try simp only [Array.append_assoc]); rfl) | (with_reducible (first | apply Ext.drew | apply Ext.alloc | apply Ext.more_)))⟩
end Go.Proofs.YteigcfflljoioaaGreatDoor
