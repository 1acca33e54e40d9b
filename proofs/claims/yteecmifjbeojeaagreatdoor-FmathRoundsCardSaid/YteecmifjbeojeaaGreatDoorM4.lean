/- What the rows' proofs lean on: the contracts of the functions that they reach, and plain facts (part M4). -/
import Derived.WalkKit
import Derived.WalkLawsBesides
import Derived.WalkSpells
import Derived.Outline
import Derived.Below
import Derived.Deep.RegionHeld3
import Derived.Deep.DeepCutAuto
import Derived.Deep.AppendLies
import Derived.Maps.AppendAt
import Derived.Lib.Hide
import Derived.OrdersHeld
import Derived.Test.YteecmifjbeojeaaGreatDoorProg
import Derived.Shelf.Strings.Builder1
import Derived.Shelf.Strings.Builder2
import Derived.Shelf.Small.Bits
import Derived.Shelf.Small.Strs
import Derived.Shelf.Small.Wraps
import Derived.Shelf.Strings.BuilderF
import Derived.Shelf.Strconv.Itoa0
import Derived.Shelf.Strconv.Itoa1
import Derived.Shelf.LaysM
import Derived.Shelf.Strconv.Itoa2
import Derived.Shelf.Strings.Prefix
import Derived.Shelf.Bits.Mul64
import Derived.Shelf.Strings.Repeat
import Derived.Ground.SlgmProg
import Derived.Shelf.SortM.Plain
import Derived.Shelf.SortM.SortNone
import Derived.Lib.ItoaMem
import Derived.Lib.OthersKept
import Derived.Deep.CutBlock
import Derived.Laws.Bits64b
import Derived.Lib.AppendZeros
import Derived.Lib.Bytealg
import Derived.Laws.RangeAny
import Derived.Maps.OwnSet
import Derived.Maps.Own
import Derived.Laws.EntriesVeiled
import Derived.Lib.ConvBytes
import Derived.Lib.SlBytesRow
import Derived.Lib.SmallJoins
import Derived.RegionTactic
import Derived.Test.YteecmifjbeojeaaGreatDoorM3
set_option linter.unusedSimpArgs false
set_option linter.unusedVariables false
set_option maxRecDepth 100000
namespace Go.Proofs.YteecmifjbeojeaaGreatDoor
open Go.RowKit NM
theorem cmpK_same {a b : Val} (h : a.kind = b.kind) : cmpK a b = if a.kind = 1 then cmpS a.mant a.exp b.mant b.exp else if a.kind = 2 then cmpT a.text b.text else if a.kind = 3 then sgB a.truth b.truth else if a.kind = 4 then sgI a.fault b.fault else 0 := by
  unfold cmpK
  rw [if_neg (fun h' => h' h)]
def Tri (n : Int) : Prop := n = -1 ∨ n = 0 ∨ n = 1
theorem sgI_tri (a b : Int) : Tri (sgI a b) := by
  unfold sgI Tri; split
  · exact Or.inl rfl
  · split
    · exact Or.inr (Or.inr rfl)
    · exact Or.inr (Or.inl rfl)
theorem cmpS_tri (a b c d : Int) : Tri (cmpS a b c d) := by
  have := cmp_bd a b c d
  unfold Tri; omega
theorem cmpK_tri (a b : Val) : Tri (cmpK a b) := by
  by_cases h : a.kind = b.kind
  · rw [cmpK_same h]
    by_cases h1 : a.kind = 1
    · rw [if_pos h1]; exact cmpS_tri _ _ _ _
    · rw [if_neg h1]
      by_cases h2 : a.kind = 2
      · rw [if_pos h2]; exact cb_vals _ _
      · rw [if_neg h2]
        by_cases h3 : a.kind = 3
        · rw [if_pos h3]
          cases a.truth <;> cases b.truth <;> (unfold Tri sgB; simp)
        · rw [if_neg h3]
          by_cases h4 : a.kind = 4
          · rw [if_pos h4]; exact sgI_tri _ _
          · rw [if_neg h4]; exact Or.inr (Or.inl rfl)
  · unfold cmpK
    rw [if_pos h]
    split
    · exact Or.inl rfl
    · exact Or.inr (Or.inr rfl)
theorem cmpV_tri (a b : Val) : Tri (cmpV a b) := cmpK_tri _ _
end Go.Proofs.YteecmifjbeojeaaGreatDoor
namespace Go.Proofs.YteecmifjbeojeaaGreatDoor
open Go.RowKit NM
set_option maxHeartbeats 1000000 in
theorem kfault_any (f : Int) (w : World) : Calls Tryz.prog 53 #[.int .i64 f] w fun e w' => ResA w (aloneO f) e w' := by
  go_enter Tryz.func53, Tryz.ntmps53
  go_wp2_with (go_at_call 121; (with_reducible refine (bad_any _ _).mono ?_); rintro e w' ⟨rfl, hb⟩; obtain ⟨os, d, rfl⟩ := hb.more; clear hb)
  go_at_call 71
  refine (one_res (bad_ f) _ (ok_bad f) (right_bad f)).mono ?_
  rintro e w' ⟨D, m, cc, rfl, hD, hb⟩
  obtain ⟨os2, d2, rfl⟩ := hb.more
  clear hb
  have hDr := hD.rd
  go_wp2_with fail
  exact bodyPost_ret (v := AV (oneA (bad_ f)).R (oneA (bad_ f)).C (.slice D m cc)) (by simp [results, Tryz.results53, go_sem]) rfl ⟨D, m, cc, rfl, ⟨(by (try simp only [more_more] at hDr); (try simp only [drew_more] at hDr); (try simp only [more_drew] at hDr); (try simp only [Array.append_assoc] at hDr); exact Rd.swap hDr (by first | (simp; done) | (simp; omega) | omega) (by first | (simp; done) | (simp; omega) | omega) (by first | (simp; done) | (simp; omega) | omega)), hD.len, hD.cap, hD.small, hD.ok⟩, by with_reducible repeat (first | exact Ext.refl _ | apply Ext.drew | apply Ext.alloc | apply Ext.more_)⟩
abbrev kfnE (lo hi : Int) (f : Value) : Value := .agg #[.int .i64 lo, .int .i64 hi, f]
abbrev kbx (t : TypeId) (fid : FuncId) : Obj := .cells #[fn0 fid] t
def fmathL (p : Nat → Nat) : Tab1 :=
  [([83, 85, 77], kfnE 1 32 (fn1 241 (p 0))),
   ([80, 82, 79, 68, 85, 67, 84], kfnE 1 32 (fn1 241 (p 1))),
   ([77, 73, 78], kfnE 1 32 (fn1 241 (p 2))),
   ([77, 65, 88], kfnE 1 32 (fn1 241 (p 3))),
   ([67, 79, 85, 78, 84], kfnE 1 32 (fn1 247 (p 4))),
   ([67, 79, 85, 78, 84, 65], kfnE 1 32 (fn1 247 (p 5))),
   ([65, 86, 69, 82, 65, 71, 69], kfnE 1 32 (fn1 241 (p 6))),
   ([77, 69, 68, 73, 65, 78], kfnE 1 32 (fn1 241 (p 7))),
   ([83, 85, 77, 80, 82, 79, 68, 85, 67, 84], kfnE 1 32 (fn0 137)),
   ([76, 65, 82, 71, 69], kfnE 2 2 (fn1 252 (p 8))),
   ([83, 77, 65, 76, 76], kfnE 2 2 (fn1 252 (p 9))),
   ([67, 79, 85, 78, 84, 73, 70], kfnE 2 2 (fn0 142)),
   ([83, 85, 77, 73, 70], kfnE 2 3 (fn0 143)),
   ([65, 66, 83], kfnE 1 1 (fn1 257 (p 10))),
   ([83, 73, 71, 78], kfnE 1 1 (fn1 257 (p 11))),
   ([73, 78, 84], kfnE 1 1 (fn1 257 (p 12))),
   ([82, 79, 85, 78, 68], kfnE 2 2 (fn1 262 (p 13))),
   ([77, 79, 68], kfnE 2 2 (fn1 262 (p 14))),
   ([80, 79, 87, 69, 82], kfnE 2 2 (fn0 151))]
def fmathB (p : Nat → Nat) : List (Nat × Obj) :=
  [(p 0, kbx 126 127), (p 1, kbx 126 128), (p 2, kbx 126 129), (p 3, kbx 126 131), (p 4, kbx 130 133), (p 5, kbx 130 134), (p 6, kbx 126 135), (p 7, kbx 126 136), (p 8, kbx 46 139), (p 9, kbx 46 141), (p 10, kbx 83 145), (p 11, kbx 83 146), (p 12, kbx 83 147), (p 13, kbx 70 149), (p 14, kbx 70 150)]
theorem fmath_pair (p : Nat → Nat) : (fmathL p).Pairwise (fun p q => p.1 ≠ q.1) := by simp [fmathL]
theorem zero_kfn (w : World) : (zeroValue 88).run Tryz.prog w = .ok (.agg #[.int .i64 0, .int .i64 0, .nilFunc]) w := by kernel_rfl
theorem kalloc_new (w : World) (o : Obj) : (w.alloc o).heap[w.heap.size]? = some o := Array.getElem?_push_size
theorem kofNumbers_mk (fid : FuncId) (capt : Array Value) (w : World) :
    Calls Tryz.prog 126 #[.func (.func fid) #[] capt] w fun e w' => e = .returned (fn1 241 w.heap.size) ∧ w' = w.alloc (.cells #[.func (.func fid) #[] capt] 126) := by
  go_enter Tryz.func126, Tryz.ntmps126
  go_wp2_with fail
  go_ret
  exact ⟨rfl, rfl⟩
theorem kcounted_mk (fid : FuncId) (capt : Array Value) (w : World) :
    Calls Tryz.prog 132 #[.func (.func fid) #[] capt] w fun e w' => e = .returned (fn1 247 w.heap.size) ∧ w' = w.alloc (.cells #[.func (.func fid) #[] capt] 130) := by
  go_enter Tryz.func132, Tryz.ntmps132
  go_wp2_with fail
  go_ret
  exact ⟨rfl, rfl⟩
theorem kranked_mk (fid : FuncId) (capt : Array Value) (w : World) :
    Calls Tryz.prog 138 #[.func (.func fid) #[] capt] w fun e w' => e = .returned (fn1 252 w.heap.size) ∧ w' = w.alloc (.cells #[.func (.func fid) #[] capt] 46) := by
  go_enter Tryz.func138, Tryz.ntmps138
  go_wp2_with fail
  go_ret
  exact ⟨rfl, rfl⟩
theorem kofEach_mk (fid : FuncId) (capt : Array Value) (w : World) :
    Calls Tryz.prog 144 #[.func (.func fid) #[] capt] w fun e w' => e = .returned (fn1 257 w.heap.size) ∧ w' = w.alloc (.cells #[.func (.func fid) #[] capt] 83) := by
  go_enter Tryz.func144, Tryz.ntmps144
  go_wp2_with fail
  go_ret
  exact ⟨rfl, rfl⟩
theorem kofBoth_mk (fid : FuncId) (capt : Array Value) (w : World) :
    Calls Tryz.prog 148 #[.func (.func fid) #[] capt] w fun e w' => e = .returned (fn1 262 w.heap.size) ∧ w' = w.alloc (.cells #[.func (.func fid) #[] capt] 70) := by
  go_enter Tryz.func148, Tryz.ntmps148
  go_wp2_with fail
  go_ret
  exact ⟨rfl, rfl⟩
def kP (l : List Nat) (i : Nat) : Nat := l.getD i 0
set_option maxHeartbeats 2000000 in
theorem functions_any (w : World) :
    Calls Tryz.prog 52 #[] w fun e w' => ∃ b, e = .returned (.map (some b)) ∧ ∃ p, TabS Tryz.prog 9 w b (fmathL p) (fmathB p) w' := by
  have hmm := @run_makeMap Tryz.prog
  have hT := TabS.start w Tryz.prog 9
  go_enter Tryz.func52, Tryz.ntmps52
  go_wp2_with (first | (go_at_call 126; (with_reducible refine (kofNumbers_mk _ _ _).mono ?_); rintro e w' ⟨rfl, hw⟩; have hT := hT.new (W' := w') (by rw [hw]; exact (Ext.refl _).alloc _) (by rw [hw]; exact kalloc_new _ _); clear hw; (try (rw [show (w.alloc (Obj.map #[] 0)).heap.size = w.heap.size + 1 by simp] at hT))) | (go_at_call 132; (with_reducible refine (kcounted_mk _ _ _).mono ?_); rintro e w' ⟨rfl, hw⟩; have hT := hT.new (W' := w') (by rw [hw]; exact (Ext.refl _).alloc _) (by rw [hw]; exact kalloc_new _ _); clear hw; (try (rw [show (w.alloc (Obj.map #[] 0)).heap.size = w.heap.size + 1 by simp] at hT))) | (go_at_call 138; (with_reducible refine (kranked_mk _ _ _).mono ?_); rintro e w' ⟨rfl, hw⟩; have hT := hT.new (W' := w') (by rw [hw]; exact (Ext.refl _).alloc _) (by rw [hw]; exact kalloc_new _ _); clear hw; (try (rw [show (w.alloc (Obj.map #[] 0)).heap.size = w.heap.size + 1 by simp] at hT))) | (go_at_call 144; (with_reducible refine (kofEach_mk _ _ _).mono ?_); rintro e w' ⟨rfl, hw⟩; have hT := hT.new (W' := w') (by rw [hw]; exact (Ext.refl _).alloc _) (by rw [hw]; exact kalloc_new _ _); clear hw; (try (rw [show (w.alloc (Obj.map #[] 0)).heap.size = w.heap.size + 1 by simp] at hT))) | (go_at_call 148; (with_reducible refine (kofBoth_mk _ _ _).mono ?_); rintro e w' ⟨rfl, hw⟩; have hT := hT.new (W' := w') (by rw [hw]; exact (Ext.refl _).alloc _) (by rw [hw]; exact kalloc_new _ _); clear hw; (try (rw [show (w.alloc (Obj.map #[] 0)).heap.size = w.heap.size + 1 by simp] at hT))) | (refine wpL_insert rfl _ _ _ _ rfl 9 88 Tryz.underlying9 Tryz.underlying90 _ _ rfl hT.tab (by simp only [List.length_append, List.length_nil, List.length_cons, maxLen]; omega) _ rfl (by simp only [maxLen, ByteArray.size, List.size_toArray, List.length_cons, List.length_nil]; omega) _ rfl ?_; intro w1 ht1 hg1; have hT := hT.put ht1 hg1; clear ht1 hg1))
  go_ret
  exact ⟨w.heap.size, rfl, kP [_, _, _, _, _, _, _, _, _, _, _, _, _, _, _], hT⟩
end Go.Proofs.YteecmifjbeojeaaGreatDoor
namespace Go.Proofs.YteecmifjbeojeaaGreatDoor
open Go.RowKit NM
def CS.str (c : CS) : ByteArray := ⟨c.key.toArray⟩
set_option maxHeartbeats 4000000 in
theorem kfits_any (c : CS) (x s : Val) (w : World) (hx : x.right) (hs : s.right) :
    Calls Tryz.prog 307 #[VV x.kind x.mant x.exp x.text x.truth x.fault, .string c.str, VV s.kind s.mant s.exp s.text s.truth s.fault] w fun e w' => e = .returned (.bool (kfitB c s x)) ∧ Ext w w' := by
  have hc := fun W => vcmp_any x s W hx.ok hs.ok
  have htri := cmpV_tri x s
  unfold kfitB
  by_cases hk : x.kind = s.kind
  · rw [if_pos hk]
    have hk' : (x.kind != s.kind) = false := by simpa using hk
    clear hk hx hs
    generalize cmpV x s = n at *
    cases c <;> (rcases htri with rfl | rfl | rfl) <;> (simp only [CS.str, CS.key]; go_enter Tryz.func307, Tryz.ntmps307; go_wp2_with (first | (go_at_call 238; (with_reducible refine (hc _).mono ?_); rintro e w' ⟨rfl, hb⟩; obtain ⟨os, d, rfl⟩ := hb.more; clear hb)); go_ret; exact ⟨rfl, by with_reducible repeat (first | exact Ext.refl _ | apply Ext.drew | apply Ext.alloc | apply Ext.more_)⟩)
  · rw [if_neg hk]
    have hk' : (x.kind != s.kind) = true := by simpa using hk
    clear hk hx hs hc htri
    cases c <;> (simp only [CS.str, CS.key]; go_enter Tryz.func307, Tryz.ntmps307; go_wp2_with fail; go_ret; exact ⟨rfl, by with_reducible repeat (first | exact Ext.refl _ | apply Ext.drew | apply Ext.alloc | apply Ext.more_)⟩)
/-- The signs, in the order in which they are sought. -/
def csL : List CS := [.ge, .le, .ne, .gt, .lt, .eq]
def csOf (s : ByteArray) : Option CS := csL.find? fun c => Lib.hasPrefix s.data.toList c.key
/-- A criterion: its sign, what is sought. -/
def critO (v : Val) : CS × Val := if v.kind = 2 then match csOf v.text with
  | some c => (c, readV ⟨(Lib.trimPrefix v.text.data.toList c.key).toArray⟩)
  | none => (.eq, v) else (.eq, v)
theorem csOf_at {s : ByteArray} {k : Nat} {c : CS} (h : ∀ j c', j < k → csL[j]? = some c' → Lib.hasPrefix s.data.toList c'.key = false) (hc : csL[k]? = some c) (hp : Lib.hasPrefix s.data.toList c.key = true) : csOf s = some c := by
  unfold csOf
  generalize csL = L at *
  induction L generalizing k with
  | nil => simp at hc
  | cons a L ih =>
    cases k with
    | zero =>
      obtain rfl : a = c := by simpa using hc
      rw [List.find?_cons_of_pos (by exact hp)]
    | succ k =>
      rw [List.find?_cons_of_neg (by rw [h 0 a (by omega) rfl]; simp)]
      exact ih (k := k) (fun j c' hj hc' => h (j + 1) c' (by omega) (by simpa using hc')) (by simpa using hc)
theorem csOf_none {s : ByteArray} (h : ∀ j c', j < 6 → csL[j]? = some c' → Lib.hasPrefix s.data.toList c'.key = false) : csOf s = none := by
  unfold csOf
  rw [List.find?_eq_none]
  intro c hc
  obtain ⟨j, hj, rfl⟩ := List.mem_iff_getElem.1 hc
  rw [h j _ (by simpa [csL] using hj) (List.getElem?_eq_getElem hj)]
  simp
theorem trim_size (s : ByteArray) (p : List UInt8) : (ByteArray.mk (Lib.trimPrefix s.data.toList p).toArray).size ≤ s.size := by
  show (Lib.trimPrefix s.data.toList p).toArray.size ≤ s.data.size
  rw [List.size_toArray]
  unfold Lib.trimPrefix
  split
  · rw [List.length_drop, Array.length_toList]; omega
  · rw [Array.length_toList]; omega
theorem cutPrefix_any (s p : ByteArray) (w : World) :
    Calls Tryz.prog 304 #[.string s, .string p] w fun e w' => e = .returned (.tuple #[.string ⟨(Lib.trimPrefix s.data.toList p.data.toList).toArray⟩, .bool (Lib.hasPrefix s.data.toList p.data.toList)]) ∧ Ext w w' :=
  (Tryz.strings_CutPrefix s p w).mono fun e w' ⟨h1, h2⟩ => ⟨h1, by rw [h2]; exact Ext.refl _⟩
/-- The variables of a criterion's function. -/
structure CritAt (w : World) (p1 p2 : Nat) (c : CS) (s : Val) : Prop where
  sign : w.cell? ⟨p1, 0, none⟩ = some (.string c.str)
  val : ValAt w p2 0 s
theorem CritAt.ext {w w' : World} {p1 p2 : Nat} {c : CS} {s : Val} (h : CritAt w p1 p2 c s) (hx : Ext w w') : CritAt w' p1 p2 c s := ⟨hx.cell_some h.sign, h.val.ext hx⟩
theorem criterion_bad (x : Val) (w : World) (h4 : x.kind = 4) :
    Calls Tryz.prog 256 #[VV x.kind x.mant x.exp x.text x.truth x.fault] w fun e w' => e = .returned (.tuple #[.nilFunc, .int .i64 x.fault]) ∧ Ext w w' := by
  obtain ⟨xk, xm, xe, xt, xb, xf⟩ := x
  simp only at h4
  subst h4
  simp only
  go_enter Tryz.func256, Tryz.ntmps256
  go_upto_region 2 with fail
  go_region
  all_goals
    go_wp2_with fail
    exact bodyPost_ret (v := .tuple #[.nilFunc, .int .i64 xf]) (by simp [results, Tryz.results256, go_sem]) rfl ⟨rfl, by with_reducible repeat (first | exact Ext.refl _ | apply Ext.drew | apply Ext.alloc | apply Ext.more_)⟩
set_option maxHeartbeats 4000000 in
theorem criterion_any (x : Val) (w : World) (hx : x.right) (h4 : x.kind ≠ 4) (hft : FTab w) :
    Calls Tryz.prog 256 #[VV x.kind x.mant x.exp x.text x.truth x.fault] w fun e w' => ∃ p1 p2, e = .returned (.tuple #[.func (.func 306) #[] #[.pointer (some ⟨p1, 0, none⟩), .pointer (some ⟨p2, 0, none⟩)], .int .i64 0]) ∧ CritAt w' p1 p2 (critO x).1 (critO x).2 ∧ w.heap.size ≤ p1 ∧ w.heap.size ≤ p2 ∧ Ext w w' := by
  have h4' : (x.kind == 4) = false := by simpa using h4
  have hts : x.kind = 2 → x.text.size ≤ 255 := (right_cases hx).2.2.1
  have HT := Lib.hid hft
  obtain ⟨X, hX⟩ : ∃ X, critO x = X := ⟨_, rfl⟩
  rw [hX]
  have HX := Lib.hid hX
  obtain ⟨xk, xm, xe, xt, xb, xf⟩ := x
  simp only at h4' hts
  clear hx h4 hft hX
  go_enter Tryz.func256, Tryz.ntmps256
  go_upto_region 3 with fail
  go_cut [4, 5] (fun s4 s5 wx => ∃ pa pb : Nat, s4 = .pointer (some ⟨pa, 0, none⟩) ∧ s5 = .pointer (some ⟨pb, 0, none⟩) ∧ Ext w wx ∧ w.heap.size < pa ∧ w.heap.size < pb ∧ pa ≠ pb ∧ wx.cell? ⟨pa, 0, none⟩ = some (.string ⟨#[61]⟩) ∧ wx.frozen? ⟨pa, 0, none⟩ = false ∧ VS pb xk xm xe xt xb xf wx ∧ (∀ j, j < 6 → wx.frozen? ⟨pb, j, none⟩ = false) ∧ VS w.heap.size xk xm xe xt xb xf wx)
  case first =>
    go_region
    · go_wp2_with fail
      go_meet
      refine ⟨_, _, rfl, rfl, by with_reducible repeat (first | exact Ext.refl _ | apply Ext.drew | apply Ext.alloc | apply Ext.more_), ?_, ?_, ?_, ?_, ?_, ?_, ?_, ?_⟩
      all_goals first | (simp; done) | (simp; omega) | (simp [go_sem]; done) | (refine ⟨by first | (simp; done) | (simp; omega), ?_, ?_, ?_, ?_, ?_, ?_⟩ <;> (simp [go_sem]; done)) | (intro j hj; simp [go_sem]; done)
    · go_wp2_with fail
      go_meet
      refine ⟨_, _, rfl, rfl, by with_reducible repeat (first | exact Ext.refl _ | apply Ext.drew | apply Ext.alloc | apply Ext.more_), ?_, ?_, ?_, ?_, ?_, ?_, ?_, ?_⟩
      all_goals first | (simp; done) | (simp; omega) | (simp [go_sem]; done) | (refine ⟨by first | (simp; done) | (simp; omega), ?_, ?_, ?_, ?_, ?_, ?_⟩ <;> (simp [go_sem]; done)) | (intro j hj; simp [go_sem]; done)
  case rest =>
  obtain ⟨pa, pb, rfl, rfl, hxU, ha, hb, hne, c0, f0, ⟨lb, e0, e1, e2, e3, e4, e5⟩, fb, ⟨lw, g0, g1, g2, g3, g4, g5⟩⟩ := hcut
  have la := lt_of_cell c0
  have fb0 := fb 0 (by omega)
  have fb1 := fb 1 (by omega)
  have fb2 := fb 2 (by omega)
  have fb3 := fb 3 (by omega)
  have fb4 := fb 4 (by omega)
  have fb5 := fb 5 (by omega)
  have hne' := Ne.symm hne
  by_cases k2 : xk = 2
  · subst k2
    have hts2 := hts rfl
    have hXo := HX.out
    unfold critO at hXo
    rw [if_pos rfl] at hXo
    simp only at hXo
    have HXo := Lib.hid hXo
    clear hts HX hXo fb
    go_upto_region 6 with fail
    refine wp_world fun U hU => ?_
    have hx0 : Ext wc U := by rw [hU]; exact (by with_reducible repeat (first | exact Ext.refl _ | apply Ext.drew | apply Ext.alloc | apply Ext.more_))
    have hrow : U.heap[wc.heap.size]? = some (.cells (csL.map fun c => Value.string c.str).toArray 9) := by rw [hU]; exact kalloc_new _ _
    have hrd := Rd.of_row hrow 0 (Nat.zero_le _)
    have hbs := lt_block hrow
    have HLA := Lib.hid la
    have HLB := Lib.hid lb
    generalize wc.heap.size = bs at hrow hrd hbs la lb lw ⊢
    clear hU hrow
    go_loopw [21] (fun i wr => ∃ k : Nat, k ≤ 6 ∧ i = .int .i64 (k : Int) ∧ Hid (∀ j c', j < k → csL[j]? = some c' → Lib.hasPrefix xt.data.toList c'.key = false) ∧ Ext U wr) (fun i _ => 6 - (intOf i).toNat)
    case atStart => exact ⟨0, by omega, rfl, fun j c' hj => absurd hj (by omega), Ext.refl _⟩
    case round =>
      obtain ⟨k, hk, rfl, HN, hxr⟩ := hrel
      have hx1 : Ext wc wr := hx0.trans hxr
      replace f0 : wr.frozen? ⟨pa, 0, none⟩ = false := by rw [hx1.frozen (p := ⟨pa, 0, none⟩) HLA.out]; exact f0
      replace fb0 : wr.frozen? ⟨pb, 0, none⟩ = false := by rw [hx1.frozen (p := ⟨pb, 0, none⟩) HLB.out]; exact fb0
      replace fb1 : wr.frozen? ⟨pb, 1, none⟩ = false := by rw [hx1.frozen (p := ⟨pb, 1, none⟩) HLB.out]; exact fb1
      replace fb2 : wr.frozen? ⟨pb, 2, none⟩ = false := by rw [hx1.frozen (p := ⟨pb, 2, none⟩) HLB.out]; exact fb2
      replace fb3 : wr.frozen? ⟨pb, 3, none⟩ = false := by rw [hx1.frozen (p := ⟨pb, 3, none⟩) HLB.out]; exact fb3
      replace fb4 : wr.frozen? ⟨pb, 4, none⟩ = false := by rw [hx1.frozen (p := ⟨pb, 4, none⟩) HLB.out]; exact fb4
      replace fb5 : wr.frozen? ⟨pb, 5, none⟩ = false := by rw [hx1.frozen (p := ⟨pb, 5, none⟩) HLB.out]; exact fb5
      replace c0 := hx1.cell_some c0
      replace e0 := hx1.cell_some e0
      replace e1 := hx1.cell_some e1
      replace e2 := hx1.cell_some e2
      replace e3 := hx1.cell_some e3
      replace e4 := hx1.cell_some e4
      replace e5 := hx1.cell_some e5
      replace g2 := hx1.cell_some g3
      clear g0 g1 g3 g4 g5
      replace la := lt_of_cell c0
      replace lb := lt_of_cell e0
      replace lw := lt_of_cell g2
      replace hbs := Nat.lt_of_lt_of_le hbs hxr.size
      have HT2 := Lib.hid ((HT.out.ext hxU).ext hx1)
      by_cases hlt : k < 6
      · have hc : csL[k]? = some (csL[k]'(by simpa [csL] using hlt)) := List.getElem?_eq_getElem _
        generalize csL[k]'(by simpa [csL] using hlt) = c at hc
        obtain ⟨b', off', he, _, qk⟩ := hrd k (.string c.str) (by simp [hc])
        simp only [Option.some.injEq, Addr.mk.injEq, and_true] at he
        obtain ⟨rfl, rfl⟩ := he
        rw [Nat.zero_add] at qk
        replace qk := hxr.cell_some qk
        have hcp := fun W => cutPrefix_any xt c.str W
        rw [show c.str.data.toList = c.key from rfl] at hcp
        have hts3 := trim_size xt c.key
        generalize hr : (ByteArray.mk (Lib.trimPrefix xt.data.toList c.key).toArray) = rest at *
        have HX2 := HXo.out
        cases hp : Lib.hasPrefix xt.data.toList c.key with
        | true =>
          rw [csOf_at HN.out hc hp] at HX2
          simp only [hr] at HX2
          rw [hp] at hcp
          have hrdv := fun W h => vread_any rest W (by omega) h
          have HX3 := Lib.hid HX2
          generalize readV rest = y at *
          generalize hcs : c.str = cs at *
          have HCS := Lib.hid hcs
          clear hcs
          clear HN hc hp HX2 hr hrd HXo
          go_wp2_with (first | (go_at_call 304; (with_reducible refine (hcp _).mono ?_); rintro e w' ⟨rfl, hb⟩; obtain ⟨os1, d1, rfl⟩ := hb.more; clear hb) | (go_at_call 305; (with_reducible refine (hrdv _ (HT2.out.ext (by with_reducible repeat (first | exact Ext.refl _ | apply Ext.drew | apply Ext.alloc | apply Ext.more_)))).mono ?_); rintro e w' ⟨rfl, hb⟩; obtain ⟨os2, d2, rfl⟩ := hb.more; clear hb))
          refine bodyPost_ret (v := .tuple #[.func (.func 306) #[] #[.pointer (some ⟨pa, 0, none⟩), .pointer (some ⟨pb, 0, none⟩)], .int .i64 0]) (by simp [results, Tryz.results256, go_sem]) rfl ⟨pa, pb, rfl, ?_, by omega, by omega, Ext.more_ (Ext.set (Ext.set (Ext.set (Ext.set (Ext.set (Ext.set (Ext.set (hxU.trans hx1) _ (by first | omega | (simp; omega))) _ (by first | omega | (simp; omega))) _ (by first | omega | (simp; omega))) _ (by first | omega | (simp; omega))) _ (by first | omega | (simp; omega))) _ (by first | omega | (simp; omega))) _ (by first | omega | (simp; omega))) _ _⟩
          rw [← HX3.out]
          refine ⟨?_, ?_, ?_, ?_, ?_, ?_, ?_⟩
          · rw [HCS.out]; go_simp
          all_goals go_simp
        | false =>
          rw [hp] at hcp
          have HN2 : Hid (∀ j c', j < k + 1 → csL[j]? = some c' → Lib.hasPrefix xt.data.toList c'.key = false) := fun j c' hj hc' => by
            by_cases e : j = k
            · subst e; rw [hc] at hc'; obtain rfl := Option.some.inj hc'; exact hp
            · exact HN.out j c' (by omega) hc'
          clear HN hc hp HX2 hr hrd HXo
          generalize c.str = cs at *
          go_wp2_with (first | (go_at_call 304; (with_reducible refine (hcp _).mono ?_); rintro e w' ⟨rfl, hb⟩; obtain ⟨os1, d1, rfl⟩ := hb.more; clear hb))
          exact ⟨⟨k + 1, by omega, by go_num, HN2, hxr.trans (by with_reducible repeat (first | exact Ext.refl _ | apply Ext.drew | apply Ext.alloc | apply Ext.more_))⟩, by simp [intOf]; omega⟩
      · obtain rfl : k = 6 := by omega
        have HX2 := HXo.out
        rw [csOf_none HN.out] at HX2
        simp only at HX2
        clear hrd HN HXo
        go_wp2_with fail
        exact bodyPost_ret (v := .tuple #[.func (.func 306) #[] #[.pointer (some ⟨pa, 0, none⟩), .pointer (some ⟨pb, 0, none⟩)], .int .i64 0]) (by simp [results, Tryz.results256, go_sem]) rfl ⟨pa, pb, rfl, by rw [← HX2]; exact ⟨c0, e0, e1, e2, e3, e4, e5⟩, by omega, by omega, hxU.trans hx1⟩
  · have k2' : (xk == 2) = false := by simpa using k2
    have hXo : (CS.eq, (⟨xk, xm, xe, xt, xb, xf⟩ : Val)) = X := by rw [← HX.out]; unfold critO; rw [if_neg k2]
    clear hts HX fb k2
    go_wp2_with fail
    exact bodyPost_ret (v := .tuple #[.func (.func 306) #[] #[.pointer (some ⟨pa, 0, none⟩), .pointer (some ⟨pb, 0, none⟩)], .int .i64 0]) (by simp [results, Tryz.results256, go_sem]) rfl ⟨pa, pb, rfl, by rw [← hXo]; exact ⟨c0, e0, e1, e2, e3, e4, e5⟩, by omega, by omega, hxU⟩
end Go.Proofs.YteecmifjbeojeaaGreatDoor
namespace Go.Proofs.YteecmifjbeojeaaGreatDoor
open Go.RowKit NM
abbrev CallG (w : World) (X : NA) : Ending → World → Prop := fun e w' => ∃ D m cc, e = .returned (.tuple #[AV X.R X.C (.slice D m cc), .bool true]) ∧ ArrN w.heap.size w' D m cc X.l ∧ Ext w w'
theorem all_at {gs : List GA} (h : ∀ j g, j < gs.length → gs[j]? = some g → g.right = true) : ∀ g ∈ gs, g.right = true := by
  intro g hg
  obtain ⟨j, hj, rfl⟩ := List.mem_iff_getElem.1 hg
  exact h j _ hj (List.getElem?_eq_getElem hj)
end Go.Proofs.YteecmifjbeojeaaGreatDoor
namespace Go.Proofs.YteecmifjbeojeaaGreatDoor
open Go.RowKit NM
@[go_sem] theorem run_field_L (r c : Int) (s : Value) (w : World) : (Instr.field 35 (AV r c s) 2).run Tryz.prog w = .ok s w := by
  first | rfl | kernel_rfl
end Go.Proofs.YteecmifjbeojeaaGreatDoor
namespace Go.Proofs.YteecmifjbeojeaaGreatDoor
open Go.RowKit NM
/-- Is the argument of that place given? -/
def givenB (xs : List Ar) (k : Nat) : Bool := match xs[k]? with
  | none => false
  | some a => !(a.x.R == 1 && a.x.C == 1 && (getV a.x.l 0).kind == 0)
def argV (xs : List Ar) (k : Nat) : Val := match xs[k]? with
  | none => Val.zero
  | some a => getV a.x.l 0
def argN (xs : List Ar) (k : Nat) : NA := match xs[k]? with
  | none => ⟨0, 0, []⟩
  | some a => a.x
end Go.Proofs.YteecmifjbeojeaaGreatDoor
namespace Go.Proofs.YteecmifjbeojeaaGreatDoor
open Go.RowKit NM
/-- An argument, and its first value. -/
theorem ArgsIn.first {w : World} {A : Option Addr} {n cap : Nat} {xs : List Ar} (h : ArgsIn w A n cap xs) {k : Nat} (hk : k < n) :
    ∃ (R C : Nat) (l : List Val) (b1 off1 n1 cap1 b off : Nat) (x : Val), xs[k]? = some ⟨⟨R, C, l⟩, some ⟨b1, off1, none⟩, n1, cap1⟩ ∧ A = some ⟨b, off, none⟩ ∧ ArAt w b (off + k * 3) ⟨⟨R, C, l⟩, some ⟨b1, off1, none⟩, n1, cap1⟩ ∧ 0 < n1 ∧ n1 ≤ cap1 ∧ ValAt w b1 off1 x ∧ getV l 0 = x ∧ x.right ∧ b < w.heap.size ∧ b1 < w.heap.size ∧ argV xs k = x ∧ givenB xs k = !(R == 1 && C == 1 && x.kind == 0) ∧ ArrIn w (some ⟨b1, off1, none⟩) n1 cap1 l ∧ l[0]? = some x := by
  obtain ⟨⟨⟨R, C, l⟩, A1, n1, cap1⟩, b, off, ha, rfl, hat, hok⟩ := h.at hk
  obtain ⟨r1, r2, r3, r4, r5⟩ := rightA_nat.1 hok.right
  have hl : l.length = n1 := hok.arr.len
  have hn1 : 0 < n1 := by rw [← hl, r4]; exact Nat.mul_pos r1 r2
  obtain ⟨x, b1, off1, hx, _, hA, hv⟩ := hok.arr.at hn1
  rw [Nat.zero_mul, Nat.add_zero] at hv
  have hA' : A1 = some ⟨b1, off1, none⟩ := hA
  subst hA'
  have hgv : getV l 0 = x := by unfold getV; rw [hx]; rfl
  have hxr : x.right := r5 x (List.mem_of_getElem? hx)
  have hav : argV xs k = x := by unfold argV; rw [ha]; exact hgv
  have hgb : givenB xs k = !(R == 1 && C == 1 && x.kind == 0) := by unfold givenB; rw [ha, ← hgv]
  exact ⟨R, C, l, b1, off1, n1, cap1, b, off, x, ha, rfl, hat, hn1, hok.arr.cap, hv, hgv, hxr, lt_of_cell hat.1, lt_of_cell hv.1, hav, hgb, hok.arr, hx⟩
end Go.Proofs.YteecmifjbeojeaaGreatDoor
namespace Go.Proofs.YteecmifjbeojeaaGreatDoor
open Go.RowKit NM
theorem cnt_ok {n : Int} (h : n.natAbs < T 15) : (cntV n).ok := (right_num (wholex h).2.1).ok
theorem cnt_right15 {n : Int} (h : n.natAbs < T 15) : (cntV n).right := right_num (wholex h).2.1
end Go.Proofs.YteecmifjbeojeaaGreatDoor
namespace Go.Proofs.YteecmifjbeojeaaGreatDoor
open Go.RowKit NM
theorem ext_grownN {X W w3 : World} {ty : TypeId} {size n : Nat} {v : Value} {xs : List Value} (hx : Ext X W) (ho : W.ownsRow X.heap.size ty size v n xs) (hg : W.grownBy w3 v.ownBlock) : Ext X w3 :=
  ⟨hg.os.trans hx.os, hg.tape.trans hx.tape, hg.output.trans hx.output, Nat.le_trans hx.size hg.size, fun b hb => (hg.block b (Nat.lt_of_lt_of_le hb hx.size) (fun e => by have := own_block ho _ e.symm; omega)).trans (hx.block hb)⟩
end Go.Proofs.YteecmifjbeojeaaGreatDoor
namespace Go.Proofs.YteecmifjbeojeaaGreatDoor
open Go.RowKit NM
set_option maxHeartbeats 1000000 in
theorem kwhole_any (n : Int) (w : World) (htab : Tab w) (hn : n.natAbs < T 15) :
    Calls Tryz.prog 248 #[.int .i64 n] w fun e w' => e = .returned (NV (wholeN n).1 (wholeN n).2) ∧ Ext w w' := by
  have hi : I64 n := by have : T 15 = 1000000000000000 := (by decide); unfold I64; omega
  have hm := fun W h => make_any n 0 W h hi (by unfold I64; omega)
  rw [show rnd (decide (n < 0)) n.natAbs false 0 = some (wholeN n) from (wholex hn).1] at hm
  simp only [rnV, rm, re, Option.getD_some, Option.isSome_some] at hm
  have HT := Lib.hid htab
  clear htab hn hi
  generalize (wholeN n).1 = m1 at *
  generalize (wholeN n).2 = m2 at *
  go_enter Tryz.func248, Tryz.ntmps248
  go_wp2_with (first | (go_at_call 182; (with_reducible refine (hm _ (HT.out.ext (by with_reducible repeat (first | exact Ext.refl _ | apply Ext.drew | apply Ext.alloc | apply Ext.more_)))).mono ?_); rintro e w' ⟨rfl, hb⟩; obtain ⟨os, d, rfl⟩ := hb.more; clear hb))
  exact bodyPost_ret (v := NV m1 m2) (by simp [results, Tryz.results248, go_sem]) rfl ⟨rfl, by with_reducible repeat (first | exact Ext.refl _ | apply Ext.drew | apply Ext.alloc | apply Ext.more_)⟩
set_option maxHeartbeats 1000000 in
theorem ktold_any (r : Option Nm) (w : World) :
    Calls Tryz.prog 244 #[NV (rm r) (re r), .bool r.isSome] w fun e w' => e = .returned (VV (numRes r).kind (numRes r).mant (numRes r).exp (numRes r).text (numRes r).truth (numRes r).fault) ∧ Ext w w' := by
  cases r with
  | none =>
    show Calls _ _ #[NV 0 0, .bool false] w fun e w' => e = .returned (VV 4 0 0 ⟨#[]⟩ false 5) ∧ Ext w w'
    have hb := fun W => bad_any 5 W
    simp only [show badF 5 = 5 by decide] at hb
    go_enter Tryz.func244, Tryz.ntmps244
    go_wp2_with (first | (go_at_call 121; (with_reducible refine (hb _).mono ?_); rintro e w' ⟨rfl, hb⟩; obtain ⟨os, d, rfl⟩ := hb.more; clear hb))
    exact bodyPost_ret (v := VV 4 0 0 ⟨#[]⟩ false 5) (by simp [results, Tryz.results244, go_sem]) rfl ⟨rfl, by with_reducible repeat (first | exact Ext.refl _ | apply Ext.drew | apply Ext.alloc | apply Ext.more_)⟩
  | some p =>
    obtain ⟨m, e⟩ := p
    show Calls _ _ #[NV m e, .bool true] w fun e' w' => e' = .returned (VV 1 m e ⟨#[]⟩ false 0) ∧ Ext w w'
    go_enter Tryz.func244, Tryz.ntmps244
    go_wp2_with (first | (go_at_call 183; (with_reducible refine (of_any _ _ _).mono ?_); rintro e w' ⟨rfl, hb⟩; obtain ⟨os, d, rfl⟩ := hb.more; clear hb))
    exact bodyPost_ret (v := VV 1 m e ⟨#[]⟩ false 0) (by simp [results, Tryz.results244, go_sem]) rfl ⟨rfl, by with_reducible repeat (first | exact Ext.refl _ | apply Ext.drew | apply Ext.alloc | apply Ext.more_)⟩
end Go.Proofs.YteecmifjbeojeaaGreatDoor
namespace Go.Proofs.YteecmifjbeojeaaGreatDoor
open Go.RowKit
/-- Blocks below lo but pa, and those from W0 on, are as they were. -/
structure Still (lo pa : Nat) (W0 W W' : World) : Prop where
  os : W'.os = W.os
  tape : W'.tape = W.tape
  output : W'.output = W.output
  size : W.heap.size ≤ W'.heap.size
  block : ∀ b, b < W.heap.size → (b < lo ∧ b ≠ pa) ∨ W0.heap.size ≤ b → W'.heap[b]? = W.heap[b]?
theorem Still.of_ext {lo pa : Nat} {W0 W W' : World} (h : Ext W W') : Still lo pa W0 W W' := ⟨h.os, h.tape, h.output, h.size, fun _ hb _ => h.block hb⟩
theorem Still.trans {lo pa : Nat} {W0 a b c : World} (h : Still lo pa W0 a b) (k : Still lo pa W0 b c) : Still lo pa W0 a c :=
  ⟨k.os.trans h.os, k.tape.trans h.tape, k.output.trans h.output, Nat.le_trans h.size k.size, fun i hi hc => (k.block i (Nat.lt_of_lt_of_le hi h.size) hc).trans (h.block i hi hc)⟩
theorem Still.set {lo pa : Nat} {W0 W W' : World} (h : Still lo pa W0 W W') {p : Addr} (v : Value) (hp : W.heap.size ≤ p.block) : Still lo pa W0 W (W'.setCell p v) :=
  ⟨h.os, h.tape, h.output, by simp only [World.setCell, Array.size_modify]; exact h.size, fun b hb hc => (Below.heap_setCell _ _ _ _ (by omega)).trans (h.block b hb hc)⟩
/-- All is as it was, but in the blocks from lo to hi. -/
structure Aside (lo hi : Nat) (W W' : World) : Prop where
  os : W'.os = W.os
  tape : W'.tape = W.tape
  output : W'.output = W.output
  size : W.heap.size ≤ W'.heap.size
  block : ∀ b, b < W.heap.size → ¬ (lo ≤ b ∧ b < hi) → W'.heap[b]? = W.heap[b]?
theorem Aside.of_ext {lo hi : Nat} {W W' : World} (h : Ext W W') : Aside lo hi W W' := ⟨h.os, h.tape, h.output, h.size, fun _ hb _ => h.block hb⟩
theorem Aside.trans {lo hi : Nat} {a b c : World} (h : Aside lo hi a b) (k : Aside lo hi b c) : Aside lo hi a c :=
  ⟨k.os.trans h.os, k.tape.trans h.tape, k.output.trans h.output, Nat.le_trans h.size k.size, fun i hi' hc => (k.block i (Nat.lt_of_lt_of_le hi' h.size) hc).trans (h.block i hi' hc)⟩
theorem Aside.set {lo hi : Nat} (W : World) {p : Addr} (v : Value) (h1 : lo ≤ p.block) (h2 : p.block < hi) : Aside lo hi W (W.setCell p v) :=
  ⟨rfl, rfl, rfl, by simp [World.setCell], fun b hb hc => Below.heap_setCell _ _ _ _ (by omega)⟩
/-- A function of one value, told by what was asked before: its state lies in the variable pa, and in blocks from lo on. -/
structure FSpec (fid : FuncId) (capt : Array Value) (t : Val → Val) (base lo pa : Nat) (J : List Val → World → Prop) : Prop where
  ext : ∀ L W W', Ext W W' → J L W → J L W'
  keep : ∀ L W W', Keep (lo - 3) W W' → J L W → J L W'
  call : ∀ L x W0 W, J L W0 → Ext W0 W → lo ≤ W0.heap.size → x.ok → valRight x = true → L.length < 4096 →
    Calls Tryz.prog fid (#[VV x.kind x.mant x.exp x.text x.truth x.fault] ++ capt) W fun e W' => e = .returned (VV (t x).kind (t x).mant (t x).exp (t x).text (t x).truth (t x).fault) ∧ (∀ W'', Aside W0.heap.size W.heap.size W' W'' → J (L ++ [x]) W'') ∧ Still lo pa W0 W W'
  ok : ∀ x, x.ok → valRight x = true → (t x).ok
  far : ∀ L W (p : Addr) v, base ≤ p.block → p.block < lo → J L W → J L (W.setCell p v)
end Go.Proofs.YteecmifjbeojeaaGreatDoor
namespace Go.Proofs.YteecmifjbeojeaaGreatDoor
open Go.RowKit
theorem func_nil (fid : FuncId) (capt : Array Value) (W : World) : (binOp .eql 119 (.func (.func fid) #[] capt) .nilFunc).run Tryz.prog W = .ok (.bool false) W := by
  first
  | kernel_rfl
  | rfl
/-- What the function at one place reads. -/
def EachS (pf px b off : Nat) (F : Value) (r c : Int) (A : Option Addr) (n cap : Nat) (x : Val) (W : World) : Prop :=
  W.heap[pf]? = some (.cells #[F] 119) ∧ W.heap[px]? = some (.cells #[.int .i64 r, .int .i64 c, .slice A n cap] 35) ∧ ValAt W b off x
theorem ValAt.block {w w' : World} {b o : Nat} {x : Val} (h : ValAt w b o x) (hb : w'.heap[b]? = w.heap[b]?) : ValAt w' b o x := by
  unfold ValAt at *
  rw [World.cell?_of_block (a := ⟨b, o, none⟩) hb, World.cell?_of_block (a := ⟨b, o + 1, none⟩) hb, World.cell?_of_block (a := ⟨b, o + 2, none⟩) hb, World.cell?_of_block (a := ⟨b, o + 3, none⟩) hb, World.cell?_of_block (a := ⟨b, o + 4, none⟩) hb, World.cell?_of_block (a := ⟨b, o + 5, none⟩) hb]
  exact h
theorem EachS.blocks {pf px b off : Nat} {F : Value} {r c : Int} {A : Option Addr} {n cap : Nat} {x : Val} {W W' : World} (h : EachS pf px b off F r c A n cap x W) (h1 : W'.heap[pf]? = W.heap[pf]?) (h2 : W'.heap[px]? = W.heap[px]?) (h3 : W'.heap[b]? = W.heap[b]?) : EachS pf px b off F r c A n cap x W' :=
  ⟨h1.trans h.1, h2.trans h.2.1, h.2.2.block h3⟩
theorem EachS.ext {pf px b off : Nat} {F : Value} {r c : Int} {A : Option Addr} {n cap : Nat} {x : Val} {W W' : World} (h : EachS pf px b off F r c A n cap x W) (hx : Ext W W') : EachS pf px b off F r c A n cap x W' :=
  h.blocks (hx.block (lt_of_block h.1)) (hx.block (lt_of_block h.2.1)) (hx.block h.2.2.lt)
set_option maxHeartbeats 1000000 in
theorem each1_any (fid : FuncId) (capt : Array Value) (t : Val → Val) (base s0 pa : Nat) (J : List Val → World → Prop) (spec : FSpec fid capt t base (s0 + 3) pa J) (hent : ∀ (args : Array Value) (W : World), (callFunc fid args).run Tryz.prog W = .ok (.enter fid args) W)
    (R C i j n cap pf px b off : Nat) (x : Val) (L : List Val) (W : World) (hJ : J L W) (hs : s0 + 3 ≤ W.heap.size) (hL : L.length < 4096) (hE : EachS pf px b (off + (i * C + j) * 6) (.func (.func fid) #[] capt) R C (some ⟨b, off, none⟩) n cap x W)
    (hpf : pf < s0) (hpx : px < s0) (hb : b < s0) (npf : pf ≠ pa) (npx : px ≠ pa) (nb : b ≠ pa) (hxo : x.ok) (hxr : valRight x = true) (hn : n = R * C) (hN : n ≤ 4096) (hi : i < R) (hj : j < C) :
    Calls Tryz.prog 308 #[.int .i64 i, .int .i64 j, .pointer (some ⟨pf, 0, none⟩), .pointer (some ⟨px, 0, none⟩)] W fun e W' => e = .returned (VV (oneV (t x)).kind (oneV (t x)).mant (oneV (t x)).exp (oneV (t x)).text (oneV (t x)).truth (oneV (t x)).fault) ∧ J (L ++ [x]) W' ∧ Still (s0 + 3) pa W W W' := by
  obtain ⟨hk, hk2⟩ := cell_prod R hi hj (by omega)
  have hkn : i * C + j < n := by omega
  have w1 : IntKind.i64.wrap ((i : Int) * (C : Int)) = ((i * C : Nat) : Int) := by rw [IntKind.wrap_i64, Int.natCast_mul]; omega
  have w2 : IntKind.i64.wrap (((i * C : Nat) : Int) + (j : Int)) = ((i * C + j : Nat) : Int) := by rw [IntKind.wrap_i64]; omega
  have HE := Lib.hid hE
  have k0 := cell_of_row _ _ 0 _ _ _ hE.1
  have z0 := lt_of_block hE.1
  generalize hjc : i * C = jc at *
  clear hjc hn hk hE
  have e1 : (0 : Int) ≤ (jc : Int) + (j : Int) := by omega
  have e2 : (jc : Int) + (j : Int) < (n : Int) := by omega
  have e3 : ((jc : Int) + (j : Int)).toNat = jc + j := by omega
  have hfn := func_nil fid capt
  have HC := Lib.hid (spec.call L x W)
  have hok := spec.ok x hxo hxr
  generalize hy : oneV (t x) = y
  have HY := Lib.hid hy
  clear hy
  go_enter Tryz.func308, Tryz.ntmps308
  go_wp2
  clear k0
  refine wp_plan (S := EachS pf px b (off + (jc + j) * 6) (.func (.func fid) #[] capt) R C (some ⟨b, off, none⟩) n cap x) [(0, 0), (1, 0), (2, 0), (3, 0), (4, 0), (5, 0), (6, 0), (7, 0), (8, 0), (9, 0), (10, 0), (11, 1), (12, 1), (13, 2)] [13] (by kernel_rfl) (by kernel_rfl) (by kernel_rfl) (fun _ _ d _ _ h => by cases d <;> exact h) (HE.out.ext (by repeat (first | (with_reducible (first | exact Ext.refl _ | exact hX | exact ext_d _ _ _ _ | exact ext_app _ _ _ _ _)) | ((with_reducible refine ext_suffix ⟨_, ?_⟩); (try simp only [Array.append_assoc]); rfl) | (with_reducible (first | apply Ext.drew | apply Ext.alloc | apply Ext.more_))))) ?_
  iterate 11 ((refine wpPl_read (v := ?_) rfl ?_ (fun w1 h1 => ?_) ?_; rotate_left 1; rfl; (obtain ⟨g1, g2, g3⟩ := h1; have k0 := cell_of_row _ _ 0 _ _ _ g1; have a1 := cell_of_row _ _ 1 _ _ _ g2; have a2 := cell_of_row _ _ 2 _ _ _ g2; obtain ⟨v0, v1, v2, v3, v4, v5⟩ := g3; clear g1 g2; go_simp; first | done | rfl)); try simp only [Act.put, zqA, zqB, zqC])
  (refine wpPl_eff rfl ?_ (fun K hK => ?_); rfl; go_simp)
  refine (HC.out _ hJ (by repeat (first | (with_reducible (first | exact Ext.refl _ | exact hX | exact ext_d _ _ _ _ | exact ext_app _ _ _ _ _)) | ((with_reducible refine ext_suffix ⟨_, ?_⟩); (try simp only [Array.append_assoc]); rfl) | (with_reducible (first | apply Ext.drew | apply Ext.alloc | apply Ext.more_)))) hs hxo hxr hL).mono ?_
  rintro e w1' ⟨rfl, hJ1, hst⟩
  have hr : w1'.heap[W.heap.size]? = some (.cells #[.int .i64 0, .int .i64 0, .int .i64 0, .string ⟨#[]⟩, .bool false, .int .i64 0] 31) := by
    rw [hst.block W.heap.size (by simp) (.inr (Nat.le_refl _))]
    exact heap_alloc_new _ _
  have HS1 : Hid (EachS pf px b (off + (jc + j) * 6) (.func (.func fid) #[] capt) R C (some ⟨b, off, none⟩) n cap x w1') := by
    refine (HE.out.ext (W' := (W.alloc (.cells #[.int .i64 0, .int .i64 0, .int .i64 0, .string ⟨#[]⟩, .bool false, .int .i64 0] 31)).drew) (by repeat (first | (with_reducible (first | exact Ext.refl _ | exact hX | exact ext_d _ _ _ _ | exact ext_app _ _ _ _ _)) | ((with_reducible refine ext_suffix ⟨_, ?_⟩); (try simp only [Array.append_assoc]); rfl) | (with_reducible (first | apply Ext.drew | apply Ext.alloc | apply Ext.more_))))).blocks ?_ ?_ ?_
    · exact hst.block pf (by simp; omega) (.inl ⟨by omega, npf⟩)
    · exact hst.block px (by simp; omega) (.inl ⟨by omega, npx⟩)
    · exact hst.block b (by simp; omega) (.inl ⟨by omega, nb⟩)
  refine hK _ _ HS1.out ?_
  try simp only [Act.put, zqA, zqB, zqC]
  (refine wpPl_eff rfl ?_ (fun K hK => ?_); rfl; go_simp)
  refine (sound_any _ _ _ _ _ _ _ hok.2.1 hok.2.2.2.1 y HY.out).mono ?_
  rintro e w' ⟨rfl, hb⟩
  obtain ⟨os5, d5, rfl⟩ := hb.more
  clear hb
  refine hK _ _ (HS1.out.ext (by repeat (first | (with_reducible (first | exact Ext.refl _ | exact hX | exact ext_d _ _ _ _ | exact ext_app _ _ _ _ _)) | ((with_reducible refine ext_suffix ⟨_, ?_⟩); (try simp only [Array.append_assoc]); rfl) | (with_reducible (first | apply Ext.drew | apply Ext.alloc | apply Ext.more_))))) ?_
  try simp only [Act.put, zqA, zqB, zqC]
  have hsz := hst.size
  have hz : W.heap.size < w1'.heap.size := by simp at hsz; omega
  have q0 := cell_of_row _ _ 0 _ _ _ hr
  have q1 := cell_of_row _ _ 1 _ _ _ hr
  have q2 := cell_of_row _ _ 2 _ _ _ hr
  have q3 := cell_of_row _ _ 3 _ _ _ hr
  have q4 := cell_of_row _ _ 4 _ _ _ hr
  have q5 := cell_of_row _ _ 5 _ _ _ hr
  have f0 := frozen_of_row _ _ 0 _ _ hr
  have f1 := frozen_of_row _ _ 1 _ _ hr
  have f2 := frozen_of_row _ _ 2 _ _ hr
  have f3 := frozen_of_row _ _ 3 _ _ hr
  have f4 := frozen_of_row _ _ 4 _ _ hr
  have f5 := frozen_of_row _ _ 5 _ _ hr
  (refine wpPl_tail rfl ?_ (fun K hK => ?_); rfl; go_simp)
  refine hK _ _ ?_
  try simp only [Act.put, zqA, zqB, zqC]
  refine wpPl_nil ?_
  go_wp2
  refine bodyPost_ret (v := VV y.kind y.mant y.exp y.text y.truth y.fault) (by simp [results, Tryz.results308, go_sem, q0, q1, q2, q3, q4, q5, hz]) rfl ⟨rfl, ?_, ?_⟩
  · have h1 : W.heap.size ≤ W.heap.size := Nat.le_refl _
    have h2 : W.heap.size < ((W.alloc (.cells #[.int .i64 0, .int .i64 0, .int .i64 0, .string ⟨#[]⟩, .bool false, .int .i64 0] 31)).drew).heap.size := by simp
    exact hJ1 _ (((((((Aside.set _ _ h1 h2).trans (Aside.set _ _ h1 h2)).trans (Aside.set _ _ h1 h2)).trans (Aside.set _ _ h1 h2)).trans (Aside.set _ _ h1 h2)).trans (Aside.set _ _ h1 h2)).trans (Aside.of_ext (by repeat (first | (with_reducible (first | exact Ext.refl _ | exact hX | exact ext_d _ _ _ _ | exact ext_app _ _ _ _ _)) | ((with_reducible refine ext_suffix ⟨_, ?_⟩); (try simp only [Array.append_assoc]); rfl) | (with_reducible (first | apply Ext.drew | apply Ext.alloc | apply Ext.more_))))))
  · have hq : W.heap.size ≤ W.heap.size := Nat.le_refl _
    exact (((((((Still.trans (Still.of_ext (by repeat (first | (with_reducible (first | exact Ext.refl _ | exact hX | exact ext_d _ _ _ _ | exact ext_app _ _ _ _ _)) | ((with_reducible refine ext_suffix ⟨_, ?_⟩); (try simp only [Array.append_assoc]); rfl) | (with_reducible (first | apply Ext.drew | apply Ext.alloc | apply Ext.more_))))) hst).set _ hq).set _ hq).set _ hq).set _ hq).set _ hq).set _ hq).trans (Still.of_ext (by repeat (first | (with_reducible (first | exact Ext.refl _ | exact hX | exact ext_d _ _ _ _ | exact ext_app _ _ _ _ _)) | ((with_reducible refine ext_suffix ⟨_, ?_⟩); (try simp only [Array.append_assoc]); rfl) | (with_reducible (first | apply Ext.drew | apply Ext.alloc | apply Ext.more_)))))
/-- Nothing that was there turned, but the block pa. -/
structure ExtBut (pa : Nat) (W W' : World) : Prop where
  os : W'.os = W.os
  tape : W'.tape = W.tape
  output : W'.output = W.output
  size : W.heap.size ≤ W'.heap.size
  block : ∀ b, b < W.heap.size → b ≠ pa → W'.heap[b]? = W.heap[b]?
theorem ExtBut.of_ext {pa : Nat} {W W' : World} (h : Ext W W') : ExtBut pa W W' := ⟨h.os, h.tape, h.output, h.size, fun _ hb _ => h.block hb⟩
theorem ExtBut.trans {pa : Nat} {a b c : World} (h : ExtBut pa a b) (k : ExtBut pa b c) : ExtBut pa a c :=
  ⟨k.os.trans h.os, k.tape.trans h.tape, k.output.trans h.output, Nat.le_trans h.size k.size, fun i hi hc => (k.block i (Nat.lt_of_lt_of_le hi h.size) hc).trans (h.block i hi hc)⟩
theorem ExtBut.set {pa : Nat} {W W' : World} (h : ExtBut pa W W') {p : Addr} (v : Value) (hp : W.heap.size ≤ p.block) : ExtBut pa W (W'.setCell p v) :=
  ⟨h.os, h.tape, h.output, by simp only [World.setCell, Array.size_modify]; exact h.size, fun b hb hc => (Below.heap_setCell _ _ _ _ (by omega)).trans (h.block b hb hc)⟩
theorem ArrIn.but {pa : Nat} {W W' : World} {A : Option Addr} {n cap : Nat} {l : List Val} (h : ArrIn W A n cap l) (hk : ExtBut pa W W') (hA : ∀ b off, A = some ⟨b, off, none⟩ → b ≠ pa) : ArrIn W' A n cap l := by
  refine ⟨fun j u hu => ?_, h.len, h.cap, h.small, h.ok⟩
  obtain ⟨b, off, e, hb, hc⟩ := h.rd j u hu
  refine ⟨b, off, e, hb, ?_⟩
  rw [World.cell?_of_block (a := ⟨b, off + j, none⟩) (hk.block b (lt_of_cell hc) (hA b off e))]; exact hc
theorem vals_map (f : Val → Val) (R C : Nat) (l : List Val) (h : l.length = R * C) : vals (fun i j => f (getV l (i * C + j))) C (R * C) = l.map f := by
  conv => rhs; rw [← vals_self R C l h]
  unfold vals
  rw [List.map_map]
  rfl
theorem take_getV {l : List Val} {k : Nat} (h : k < l.length) : l.take (k + 1) = l.take k ++ [getV l k] := by
  rw [List.take_succ_eq_append_getElem h, getV_lt h]
set_option maxHeartbeats 1000000 in
theorem each_yes (R C n cap pa : Nat) (A : Option Addr) (l : List Val) (fid : FuncId) (capt : Array Value) (t : Val → Val) (Js : Nat → List Val → World → Prop) (w : World) (h : ArrIn w A n cap l) (hr : rightA R C l = true) (hpa : pa < w.heap.size) (hA : ∀ b off, A = some ⟨b, off, none⟩ → b ≠ pa)
    (hent : ∀ (args : Array Value) (W : World), (callFunc fid args).run Tryz.prog W = .ok (.enter fid args) W) (spec : ∀ s0, w.heap.size ≤ s0 → FSpec fid capt t w.heap.size (s0 + 3) pa (Js s0)) (hJ0 : ∀ s0, w.heap.size ≤ s0 → Js s0 [] w) :
    Calls Tryz.prog 258 #[AV R C (.slice A n cap), .func (.func fid) #[] capt] w fun e w' => ∃ D c s0, e = .returned (AV R C (.slice D n c)) ∧ SlV w.heap.size w' D (l.map fun x => oneV (t x)) ∧ n ≤ c ∧ w.heap.size ≤ s0 ∧ Js s0 l w' ∧ ExtBut pa w w' := by
  obtain ⟨r1, r2, r3, r4, r5, r6⟩ := right_bd hr
  have HRR := Lib.hid (rightA_nat.1 hr).2.2.2.2
  have hln := h.len
  have HN := Lib.hid (show n = R * C by omega)
  have HL := Lib.hid r4
  have hN : n ≤ 4096 := by omega
  clear r4 hln
  have HS := Lib.hid spec
  have HJ := Lib.hid hJ0
  have HA := Lib.hid hA
  clear spec hJ0 hA
  go_enter Tryz.func258, Tryz.ntmps258
  go_wp2_with fail
  refine (right_any _ _ _ _ _ _ _ (h.ext (by repeat (first | (with_reducible (first | exact Ext.refl _ | exact hX | exact ext_d _ _ _ _ | exact ext_app _ _ _ _ _)) | ((with_reducible refine ext_suffix ⟨_, ?_⟩); (try simp only [Array.append_assoc]); rfl) | (with_reducible (first | apply Ext.drew | apply Ext.alloc | apply Ext.more_)))))).mono ?_; rintro e w' ⟨rfl, hb⟩; obtain ⟨os1, d1, rfl⟩ := hb.more; clear hb
  go_wp2_with fail
  refine calls_world fun W hW => ?_
  have hX : Ext w W := by rw [hW]; exact by repeat (first | (with_reducible (first | exact Ext.refl _ | exact hX | exact ext_d _ _ _ _ | exact ext_app _ _ _ _ _)) | ((with_reducible refine ext_suffix ⟨_, ?_⟩); (try simp only [Array.append_assoc]); rfl) | (with_reducible (first | apply Ext.drew | apply Ext.alloc | apply Ext.more_)))
  have hbx : W.heap[w.heap.size]? = some (.cells #[.int .i64 R, .int .i64 C, .slice A n cap] 35) := by
    rw [hW, (ext_more _ _ _).block (by simp; omega), Below.heap_alloc _ _ _ (by simp; omega), Below.heap_alloc _ _ _ (by simp)]
    exact heap_alloc_new _ _
  have hfx : W.heap[w.heap.size + 1]? = some (.cells #[.func (.func fid) #[] capt] 119) := by
    rw [hW, (ext_more _ _ _).block (by simp), Below.heap_alloc _ _ _ (by simp)]
    have := heap_alloc_new (w.alloc (.cells #[.int .i64 R, .int .i64 C, .slice A n cap] 35)) (.cells #[.func (.func fid) #[] capt] 119)
    simpa using this
  have hrx : W.heap[w.heap.size + 1 + 1]? = some (.cells #[.int .i64 0, .int .i64 0, .slice none 0 0] 35) := by
    rw [hW, (ext_more _ _ _).block (by simp)]
    have := heap_alloc_new ((w.alloc (.cells #[.int .i64 R, .int .i64 C, .slice A n cap] 35)).alloc (.cells #[.func (.func fid) #[] capt] 119)) (.cells #[.int .i64 0, .int .i64 0, .slice none 0 0] 35)
    simpa using this
  clear hW
  have hws := hX.size
  have sp := HS.out W.heap.size hws
  have z0 := lt_of_block hrx
  have hl1 : l.length = R * C := HL.out
  refine (build_any R C 308 #[.pointer (some ⟨w.heap.size + 1, 0, none⟩), .pointer (some ⟨w.heap.size, 0, none⟩)] (fun i j => oneV (t (getV l (i * C + j)))) W (fun k V => Js W.heap.size (l.take k) V ∧ ExtBut pa W V) r1 r2 r3 r5 r6 (fun _ _ => by kernel_rfl) ⟨?_, ?_⟩ ?_ ?_).mono ?_
  · rw [List.take_zero]; exact sp.ext _ _ _ hX (HJ.out _ hws)
  · exact ExtBut.of_ext (Ext.refl _)
  · rintro k V V' hk ⟨g1, g2⟩
    refine ⟨sp.keep _ _ _ (by simpa using hk) g1, hk.os.trans g2.os, hk.tape.trans g2.tape, hk.output.trans g2.output, Nat.le_trans g2.size hk.size, fun b hb hne => ?_⟩
    exact (hk.block b (Nat.lt_of_lt_of_le hb g2.size) (by omega) (by omega) (by omega)).trans (g2.block b hb hne)
  · rintro i j V hi hj ⟨g1, g2⟩ hsz
    have hkk := cell_prod R hi hj r3
    obtain ⟨b, off, hAe, hv, hxo⟩ := h.get (k := i * C + j) (by have := HN.out; omega)
    have hbl := hv.lt
    have hba := HA.out b off hAe
    subst hAe
    have hE : EachS (w.heap.size + 1) w.heap.size b (off + (i * C + j) * 6) (.func (.func fid) #[] capt) R C (some ⟨b, off, none⟩) n cap (getV l (i * C + j)) V :=
      ⟨(g2.block _ (by omega) (by omega)).trans hfx, (g2.block _ (by omega) (by omega)).trans hbx, (hv.ext hX).block (g2.block b (by omega) hba)⟩
    refine (each1_any fid capt t w.heap.size W.heap.size pa (Js W.heap.size) sp hent R C i j n cap (w.heap.size + 1) w.heap.size b off (getV l (i * C + j)) (l.take (i * C + j)) V g1 hsz (by rw [List.length_take]; omega) hE (by omega) (by omega) (by omega) (by omega) (by omega) hba hxo (HRR.out _ (getV_mem (by omega))) HN.out hN hi hj).mono ?_
    rintro e V' ⟨he, hJ1, hst⟩
    refine ⟨he, ⟨by rw [take_getV (by omega)]; exact hJ1, ⟨hst.os.trans g2.os, hst.tape.trans g2.tape, hst.output.trans g2.output, Nat.le_trans g2.size hst.size, fun b' hb' hne => (hst.block b' (Nat.lt_of_lt_of_le hb' g2.size) (.inl ⟨by omega, hne⟩)).trans (g2.block b' hb' hne)⟩⟩, ?_⟩
    exact ⟨hst.size, hst.block _ (by omega) (.inl ⟨by omega, by omega⟩), hst.block _ (by omega) (.inl ⟨by omega, by omega⟩), hst.block _ (by omega) (.inl ⟨by omega, by omega⟩)⟩
  rintro e w' ⟨D, c, he, hs, hc, g1, g2⟩
  rw [vals_map (fun x => oneV (t x)) R C l hl1] at hs
  rw [List.take_of_length_le (by omega)] at g1
  rw [← HN.out] at he hc
  subst he
  have hr' : w'.heap[w.heap.size + 1 + 1]? = some (.cells #[.int .i64 0, .int .i64 0, .slice none 0 0] 35) := (g2.block _ (by omega) (by omega)).trans hrx
  have q0 := cell_of_row _ _ 0 _ _ _ hr'
  have q1 := cell_of_row _ _ 1 _ _ _ hr'
  have q2 := cell_of_row _ _ 2 _ _ _ hr'
  have f0 := frozen_of_row _ _ 0 _ _ hr'
  have f1 := frozen_of_row _ _ 1 _ _ hr'
  have f2 := frozen_of_row _ _ 2 _ _ hr'
  have hg2 := Lib.hid g2
  clear g2 hbx hfx hrx
  go_wp2
  refine bodyPost_ret (v := AV R C (.slice D n c)) (by simp [results, Tryz.results258, go_sem, q0, q1, q2]) rfl ⟨D, c, W.heap.size, rfl, ?_, hc, hws, ?_, ?_⟩
  · exact Rd.mono (((hs.set_far _ (by simp; omega)).set_far _ (by simp; omega)).set_far _ (by simp; omega)) (by omega)
  · exact sp.far _ _ _ _ (by simp only; omega) (by simp only; omega) (sp.far _ _ _ _ (by simp only; omega) (by simp only; omega) (sp.far _ _ _ _ (by simp only; omega) (by simp only; omega) g1))
  · exact ((((ExtBut.of_ext hX).trans hg2.out).set _ (by simp only; omega)).set _ (by simp only; omega)).set _ (by simp only; omega)
end Go.Proofs.YteecmifjbeojeaaGreatDoor
namespace Go.Proofs.YteecmifjbeojeaaGreatDoor
open Go.RowKit
set_option maxHeartbeats 400000 in
theorem each_no (r c : Int) (A : Option Addr) (n cap : Nat) (l : List Val) (fid : FuncId) (capt : Array Value) (w : World) (h : ArrIn w A n cap l) (hr : rightA r c l = false) :
    Calls Tryz.prog 258 #[AV r c (.slice A n cap), .func (.func fid) #[] capt] w fun e w' => ArrO w.heap.size w' e 1 1 [bad9] ∧ Ext w w' := by
  go_enter Tryz.func258, Tryz.ntmps258
  go_wp2_with fail
  refine (right_any _ _ _ _ _ _ _ (h.ext (by repeat (first | (with_reducible (first | exact Ext.refl _ | exact hX | exact ext_d _ _ _ _ | exact ext_app _ _ _ _ _)) | ((with_reducible refine ext_suffix ⟨_, ?_⟩); (try simp only [Array.append_assoc]); rfl) | (with_reducible (first | apply Ext.drew | apply Ext.alloc | apply Ext.more_)))))).mono ?_; rintro e w' ⟨rfl, hb⟩; obtain ⟨os1, d1, rfl⟩ := hb.more; clear hb
  go_wp2_with fail
  refine (broken_any _).mono ?_
  rintro e w' ⟨⟨D, c, rfl, hs, hc⟩, hb⟩
  obtain ⟨os2, d2, rfl⟩ := hb.more
  clear hb
  go_wp2
  exact bodyPost_ret (v := AV 1 1 (.slice D 1 c)) (by simp [results, Tryz.results258, go_sem]) rfl ⟨⟨_, _, rfl, (by (try simp only [more_more] at hs); (try simp only [drew_more] at hs); (try simp only [more_drew] at hs); (try simp only [Array.append_assoc] at hs); exact Rd.swap hs (by first | (simp; done) | (simp; omega) | omega) (by first | (simp; done) | (simp; omega) | omega) (by first | (simp; done) | (simp; omega) | omega)), hc⟩, by repeat (first | (with_reducible (first | exact Ext.refl _ | exact hX | exact ext_d _ _ _ _ | exact ext_app _ _ _ _ _)) | ((with_reducible refine ext_suffix ⟨_, ?_⟩); (try simp only [Array.append_assoc]); rfl) | (with_reducible (first | apply Ext.drew | apply Ext.alloc | apply Ext.more_)))⟩
/-- All that lay in w lies in W. -/
def Low (w W : World) : Prop := ∀ b, b < w.heap.size → W.heap[b]? = w.heap[b]?
theorem Low.refl (w : World) : Low w w := fun _ _ => rfl
theorem Low.lt {w W : World} (h : Low w W) {b : Nat} (hb : b < w.heap.size) : b < W.heap.size := by
  have h1 := h b hb
  rw [Array.getElem?_eq_getElem hb] at h1
  exact lt_of_block h1
theorem Low.ext {w W W' : World} (h : Low w W) (hx : Ext W W') : Low w W' := fun b hb => (hx.block (h.lt hb)).trans (h b hb)
/-- A function that keeps nothing, as Each asks it. -/
theorem low_spec1 {fid : FuncId} {capt : Array Value} {t : Val → Val} {w : World}
    (hsp : ∀ x W, Low w W → x.ok → valRight x = true → Calls Tryz.prog fid (#[VV x.kind x.mant x.exp x.text x.truth x.fault] ++ capt) W fun e W' => e = .returned (VV (t x).kind (t x).mant (t x).exp (t x).text (t x).truth (t x).fault) ∧ Ext W W')
    (hok : ∀ x, x.ok → valRight x = true → (t x).ok) (s0 pa : Nat) (hs : w.heap.size ≤ s0) :
    FSpec fid capt t w.heap.size (s0 + 3) pa (fun _ W => Low w W) := by
  refine ⟨fun _ W W' hx h => h.ext hx, fun _ W W' hk h b hb => ?_, fun L x W0 W h hx hlo hxo hxr hL => ?_, hok, fun _ W p v h1 _ h b hb => ?_⟩
  · rw [Nat.add_sub_cancel] at hk
    rw [hk.block b (h.lt hb) (by omega) (by omega) (by omega)]; exact h b hb
  · have h1 := h.ext hx
    refine (hsp x W h1 hxo hxr).mono ?_
    rintro e W' ⟨he, hX⟩
    refine ⟨he, fun W'' hk' b hb => ?_, Still.of_ext hX⟩
    have h2 := h1.ext hX
    rw [hk'.block b (h2.lt hb) (by have := h.lt hb; omega)]; exact h2 b hb
  · rw [Below.heap_setCell _ _ _ _ (by omega)]; exact h b hb
def eachRes (t : Val → Val) (r c : Int) (l : List Val) : NA := if rightA r c l then ⟨r.toNat, c.toNat, l.map fun x => oneV (t x)⟩ else ⟨1, 1, [bad9]⟩
theorem each_low {fid : FuncId} {capt : Array Value} {t : Val → Val} (w : World) (pa : Nat) (hpa : pa < w.heap.size)
    (hsp : ∀ x W, Low w W → x.ok → valRight x = true → Calls Tryz.prog fid (#[VV x.kind x.mant x.exp x.text x.truth x.fault] ++ capt) W fun e W' => e = .returned (VV (t x).kind (t x).mant (t x).exp (t x).text (t x).truth (t x).fault) ∧ Ext W W')
    (hok : ∀ x, x.ok → valRight x = true → (t x).ok) (hent : ∀ (args : Array Value) (W : World), (callFunc fid args).run Tryz.prog W = .ok (.enter fid args) W) (r c : Int) (A : Option Addr) (n cap : Nat) (l : List Val) (h : ArrIn w A n cap l)
    (hA : 0 < n → ∀ b off, A = some ⟨b, off, none⟩ → b ≠ pa) (x : NA) (hx : eachRes t r c l = x) :
    Calls Tryz.prog 258 #[AV r c (.slice A n cap), .func (.func fid) #[] capt] w fun e w' => ∃ D m cc, e = .returned (AV x.R x.C (.slice D m cc)) ∧ ArrN w.heap.size w' D m cc x.l ∧ Ext w w' := by
  cases hr : rightA r c l with
  | false =>
    obtain rfl : x = ⟨1, 1, [bad9]⟩ := by rw [← hx]; simp [eachRes, hr]
    refine (each_no r c A n cap l fid _ w h hr).mono ?_
    rintro e w' ⟨⟨D, cc, rfl, hs, hc⟩, hX⟩
    exact ⟨D, 1, cc, rfl, ⟨hs, rfl, hc, by omega, by simpa using bad9_ok⟩, hX⟩
  | true =>
    have hr2 := hr
    obtain ⟨R, C, rfl, rfl, _⟩ := right_parts hr
    obtain rfl : x = ⟨R, C, l.map fun x => oneV (t x)⟩ := by rw [← hx]; simp [eachRes, hr]
    obtain ⟨q1, q2, _, q4, _, _⟩ := right_bd hr
    have e1 : 0 < n := by
      have := Nat.mul_le_mul q1 q2; have := h.len; omega
    refine (each_yes R C n cap pa A l fid capt t (fun _ _ W => Low w W) w h hr2 hpa (hA e1) hent (fun s0 hs => low_spec1 hsp hok s0 pa hs) (fun _ _ => Low.refl w)).mono ?_
    rintro e w' ⟨D, cc, s0, rfl, hs, hc, hs0, hJ, hbut⟩
    exact ⟨D, _, cc, rfl, ⟨hs, by rw [List.length_map]; exact h.len, hc, h.small, fun y hy => by
      obtain ⟨z, hz, rfl⟩ := List.mem_map.1 hy
      exact oneV_ok (hok z (h.ok z hz) ((rightA_nat.1 hr2).2.2.2.2 z hz)) _ (by simp)⟩, ⟨hbut.os, hbut.tape, hbut.output, hbut.size, fun b hb => hJ b hb⟩⟩
end Go.Proofs.YteecmifjbeojeaaGreatDoor
namespace Go.Proofs.YteecmifjbeojeaaGreatDoor
open Go.RowKit NM
theorem allV_succ {xs : List Ar} {k : Nat} {a : Ar} (ha : xs[k]? = some a) : allV (xs.take (k + 1)) = allV (xs.take k) ++ a.x.l := by
  rw [List.take_add_one, ha]; simp [allV]
theorem allV_right {w : World} {A : Option Addr} {n cap : Nat} {xs : List Ar} (h : ArgsIn w A n cap xs) : ∀ x ∈ allV xs, x.right := by
  intro x hx
  obtain ⟨a, ha, hx⟩ := List.mem_flatMap.1 hx
  exact (rightA_nat.1 (h.all a ha).right).2.2.2.2 x hx
set_option maxHeartbeats 2000000 in
theorem kall_any (A : Option Addr) (n cap : Nat) (xs : List Ar) (w : World) (h : ArgsIn w A n cap xs) (hn : n ≤ 100) :
    Calls Tryz.prog 243 #[.slice A n cap] w fun e w' => ∃ D m c, e = .returned (.slice D m c) ∧ ArrN w.heap.size w' D m c (allV xs) ∧ m ≤ 409600 ∧ Ext w w' := by
  obtain ⟨i0, hi0, hz0, hz1, hz2⟩ := info_parts info_val
  have H := Lib.hid h
  have HL := Lib.hid h.len
  have hR := Lib.hid (allV_right h)
  clear h
  go_enter Tryz.func243, Tryz.ntmps243
  go_wp2_with fail
  go_loopw [3, 8] (fun v i wr => ∃ k : Nat, k ≤ n ∧ i = .int .i64 (k : Int) ∧ (allV (xs.take k)).length ≤ k * 4096 ∧ Hid (wr.ownsRow w.heap.size 31 6 v (allV (xs.take k)).length (vcells (allV (xs.take k)))) ∧ Ext w wr) (fun _ i _ => n - (intOf i).toNat)
  case atStart => exact ⟨0, Nat.zero_le _, rfl, Nat.zero_le _, World.ownsRow_nil _ _ _ _, Ext.refl _⟩
  case round =>
    obtain ⟨k, hk, rfl, hle, HW, hxr⟩ := hrel
    have hsz := hxr.size
    by_cases hlt : k < n
    · obtain ⟨R, C, l, b1, off1, n1, cap1, b, off, x, ha, rfl, ⟨v0, v1, v2⟩, hn1, hc1, _, _, _, hbl, _, _, _, harr, _⟩ := H.out.first hlt
      obtain ⟨r1, r2, r3, r4, _⟩ := rightA_nat.1 (H.out.all _ (List.mem_of_getElem? ha)).right
      have hln := harr.len
      have hcap := H.out.cap
      simp only at v0 v1 v2 r3 r4
      replace v0 := hxr.cell_some v0
      replace v1 := hxr.cell_some v1
      replace v2 := hxr.cell_some v2
      replace hbl := lt_of_cell v0
      have hle1 : n1 ≤ 4096 := by omega
      have hrd := (harr.rd : Rd 0 w _ (vcells l)).ext hxr
      have HS := Lib.hid (allV_succ ha)
      have hlen : (vcells l).length = n1 * 6 := by rw [vcells_length, hln]
      have HLN := Lib.hid hln
      clear ha r3 r4 harr hln
      generalize hO : allV (xs.take k) = O at *
      go_wp2_with (at_builtin; refine wpList_append_own _ rfl _ _ _ rfl w.heap.size 31 i0 (VV 0 0 0 ⟨#[]⟩ false 0) 6 56 Tryz.underlying33 hi0 hz0 hz1 hz2 rfl (by decide) _ O.length (vcells O) rfl (own_ext HW.out (by with_reducible repeat (first | exact Ext.refl _ | apply Ext.drew | apply Ext.alloc | apply Ext.more_))) _ n1 _ (vcells l) rfl hlen (fun j u hu => (hrd.ext (by with_reducible repeat (first | exact Ext.refl _ | apply Ext.drew | apply Ext.alloc | apply Ext.more_))).add j u hu) vcells_one (by simp only [maxLen]; omega) (by omega) (by simp; omega) ?_; intro v4 w4 ho4 hg4 _)
      have hx4 := ext_grownN (hxr.trans (by with_reducible repeat (first | exact Ext.refl _ | apply Ext.drew | apply Ext.alloc | apply Ext.more_))) (own_ext HW.out (by with_reducible repeat (first | exact Ext.refl _ | apply Ext.drew | apply Ext.alloc | apply Ext.more_))) hg4
      refine ⟨⟨k + 1, by omega, by go_num, ?_, ?_, hx4⟩, by simp [intOf]; omega⟩
      · rw [HS.out, List.length_append, HLN.out]; omega
      · show World.ownsRow _ _ _ _ _ _ _
        rw [HS.out, vcells_append, List.length_append, HLN.out]
        exact ho4
    · obtain rfl : k = n := by omega
      have htk : xs.take k = xs := by rw [← HL.out]; exact List.take_length
      rw [htk] at hle HW
      obtain ⟨D, c, rfl, hrd, hc⟩ := Rd.of_own HW.out
      go_wp2_with fail
      exact bodyPost_ret (v := .slice D (allV xs).length c) (by simp [results, Tryz.results243, go_sem]) rfl ⟨_, _, _, rfl, ⟨hrd, rfl, hc, by omega, fun y hy => (hR.out y hy).ok⟩, by omega, hxr⟩
theorem mulS_rt_ {a b c d : Int} {p : Int × Int} (h : mulS a b c d = some p) : Rt p.1 p.2 := by
  unfold mulS at h
  split at h
  · exact rnd_right h
  · cases h
/-- A function that tells of each value whether it counts. -/
def Tells (w : World) (fid : FuncId) (capt : Array Value) (q : Val → Bool) : Prop :=
  ∀ x W, Low w W → x.right → Calls Tryz.prog fid (#[VV x.kind x.mant x.exp x.text x.truth x.fault] ++ capt) W fun e W' => e = .returned (.bool (q x)) ∧ Ext W W'
theorem filter_succ {l : List Val} {k : Nat} {x : Val} (q : Val → Bool) (hx : l[k]? = some x) : ((l.take (k + 1)).filter q).length = ((l.take k).filter q).length + if q x then 1 else 0 := by
  rw [List.take_add_one, hx, List.filter_append, List.length_append]
  congr 1
  cases h : q x <;> simp [h]
theorem klow_ext {w W : World} (h : Ext w W) : Low w W := fun b hb => h.block hb
set_option maxHeartbeats 2000000 in
theorem kcounted_any (A : Option Addr) (n cap : Nat) (xs : List Ar) (fid : FuncId) (capt : Array Value) (q : Val → Bool) (p : Nat) (w : World) (htab : Tab w) (h : ArgsIn w A n cap xs) (hn : n ≤ 100)
    (hp : w.cell? ⟨p, 0, none⟩ = some (.func (.func fid) #[] capt)) (hq : Tells w fid capt q) (hent : ∀ (args : Array Value) (W : World), (callFunc fid args).run Tryz.prog W = .ok (.enter fid args) W) :
    Calls Tryz.prog 247 #[.slice A n cap, .pointer (some ⟨p, 0, none⟩)] w fun e w' => ResA w (countedO q (allV xs)) e w' := by
  have hR := Lib.hid (allV_right h)
  have HT := Lib.hid htab
  have H := Lib.hid h
  have HQ := Lib.hid hq
  have hpl := lt_of_cell hp
  have hall := fun W (hW : ArgsIn W A n cap xs) => kall_any A n cap xs W hW hn
  obtain ⟨X, hX⟩ : ∃ X, countedO q (allV xs) = X := ⟨_, rfl⟩
  rw [hX]
  have HX := Lib.hid hX
  clear htab h hq hX
  go_enter Tryz.func247, Tryz.ntmps247
  go_upto_region 3 with (go_at_call 243; (with_reducible refine (hall _ (H.out.ext (by with_reducible repeat (first | exact Ext.refl _ | apply Ext.drew | apply Ext.alloc | apply Ext.more_)))).mono ?_); rintro e w' ⟨D, m, c, rfl, hN, hm, hb⟩; have harr := hN.arr; obtain ⟨os1, d1, rfl⟩ := hb.more; clear hb hN)
  clear hall
  have hlen := Lib.hid harr.len
  have hle : ∀ k, ((((allV xs).take k).filter q).length : Int) ≤ m := fun k => by
    have h1 := List.length_filter_le q ((allV xs).take k)
    have h2 := hlen.out
    rw [List.length_take] at h1; omega
  have hcapm := harr.cap
  have HA := Lib.hid harr
  clear harr
  go_loopw [4, 10] (fun c i wr => ∃ k : Nat, k ≤ m ∧ i = .int .i64 (k : Int) ∧ c = .int .i64 ((((allV xs).take k).filter q).length : Int) ∧ Ext (more (w.alloc (Obj.cells #[.int .i64 0, .int .i64 0, .slice none 0 0] 35)) os1 d1) wr) (fun _ i _ => m - (intOf i).toNat)
  case atStart => exact ⟨0, Nat.zero_le _, rfl, rfl, Ext.refl _⟩
  case round =>
    obtain ⟨k, hk, rfl, rfl, hxr⟩ := hrel
    by_cases hlt : k < m
    · obtain ⟨x, b, off, hx, hxo, rfl, hat⟩ := HA.out.at hlt
      obtain ⟨v0, v1, v2, v3, v4, v5⟩ := hat.ext hxr
      have hbl := lt_of_cell v0
      have hxR := hR.out x (List.mem_of_getElem? hx)
      have HS := Lib.hid (filter_succ q hx)
      have hle1 := hle (k + 1)
      rw [HS.out] at hle1
      have hpc : wr.cell? ⟨p, 0, none⟩ = some (.func (.func fid) #[] capt) := hxr.cell_some ((show Ext w _ from by with_reducible repeat (first | exact Ext.refl _ | apply Ext.drew | apply Ext.alloc | apply Ext.more_)).cell_some hp)
      have hpl2 := lt_of_cell hpc
      have hx0 : Ext w wr := (show Ext w _ from by with_reducible repeat (first | exact Ext.refl _ | apply Ext.drew | apply Ext.alloc | apply Ext.more_)).trans hxr
      have hcall := fun W (hW : Ext w W) => HQ.out x W (klow_ext hW) hxR
      clear hx hxR hat hp hpl
      generalize ((allV xs).take k).filter q = F at *
      cases hqx : q x with
      | true =>
        rw [hqx] at hcall hle1 HS
        rw [if_pos rfl] at hle1
        go_wp2_with (refine (hcall _ (hx0.trans (by with_reducible repeat (first | exact Ext.refl _ | apply Ext.drew | apply Ext.alloc | apply Ext.more_)))).mono ?_; rintro e w' ⟨rfl, hb⟩; obtain ⟨os2, d2, rfl⟩ := hb.more; clear hb)
        refine ⟨⟨k + 1, by omega, by go_num, ?_, hxr.trans (by with_reducible repeat (first | exact Ext.refl _ | apply Ext.drew | apply Ext.alloc | apply Ext.more_))⟩, by simp [intOf]; omega⟩
        rw [HS.out]; simp
      | false =>
        rw [hqx] at hcall hle1 HS
        go_wp2_with (refine (hcall _ (hx0.trans (by with_reducible repeat (first | exact Ext.refl _ | apply Ext.drew | apply Ext.alloc | apply Ext.more_)))).mono ?_; rintro e w' ⟨rfl, hb⟩; obtain ⟨os2, d2, rfl⟩ := hb.more; clear hb)
        refine ⟨⟨k + 1, by omega, by go_num, ?_, hxr.trans (by with_reducible repeat (first | exact Ext.refl _ | apply Ext.drew | apply Ext.alloc | apply Ext.more_))⟩, by simp [intOf]; omega⟩
        rw [HS.out]; simp
    · obtain rfl : k = m := by omega
      have htk : (allV xs).take k = allV xs := by rw [← hlen.out]; exact List.take_length
      have hlk := hle k
      rw [htk] at hlk ⊢
      have hXo := HX.out
      unfold countedO at hXo
      have hz0 : (0 : Int) ≤ (((allV xs).filter q).length : Int) := by omega
      generalize (((allV xs).filter q).length : Int) = z at *
      have hz : z.natAbs < T 15 := by have : T 15 = 1000000000000000 := (by decide); omega
      have hwh := fun W h => kwhole_any z W h hz
      have hone : ∀ W, Calls Tryz.prog 71 #[VV 1 (wholeN z).1 (wholeN z).2 ⟨#[]⟩ false 0] W (ResA W X) := fun W => by rw [← hXo]; exact one_res (cntV z) W (cnt_ok hz) (cnt_right15 hz)
      obtain ⟨os, d, rfl⟩ := hxr.more
      clear hxr hXo HX hlk hle hz hz0
      generalize (wholeN z).1 = m1 at *
      generalize (wholeN z).2 = e1 at *
      go_wp2_with (first | (go_at_call 248; (with_reducible refine (hwh _ (HT.out.ext (by with_reducible repeat (first | exact Ext.refl _ | apply Ext.drew | apply Ext.alloc | apply Ext.more_)))).mono ?_); rintro e w' ⟨rfl, hb⟩; obtain ⟨os2, d2, rfl⟩ := hb.more; clear hb) | (go_at_call 183; (with_reducible refine (of_any _ _ _).mono ?_); rintro e w' ⟨rfl, hb⟩; obtain ⟨os3, d3, rfl⟩ := hb.more; clear hb) | (go_at_call 71; (with_reducible refine (hone _).mono ?_); rintro e w' ⟨D2, m2, cc2, rfl, hD, hb⟩; obtain ⟨os5, d5, rfl⟩ := hb.more; clear hb; have hDr := hD.rd))
      exact bodyPost_ret (v := AV X.R X.C (.slice D2 m2 cc2)) (by simp [results, Tryz.results247, go_sem]) rfl ⟨D2, m2, cc2, rfl, ⟨(by (try simp only [more_more] at hDr); (try simp only [drew_more] at hDr); (try simp only [more_drew] at hDr); (try simp only [Array.append_assoc] at hDr); exact Rd.swap hDr (by first | (simp; done) | (simp; omega) | omega) (by first | (simp; done) | (simp; omega) | omega) (by first | (simp; done) | (simp; omega) | omega)), hD.len, hD.cap, hD.small, hD.ok⟩, by with_reducible repeat (first | exact Ext.refl _ | apply Ext.drew | apply Ext.alloc | apply Ext.more_)⟩
end Go.Proofs.YteecmifjbeojeaaGreatDoor
namespace Go.Proofs.YteecmifjbeojeaaGreatDoor
open Go.RowKit NM
def GA.toAr (g : GA) : Ar := ⟨⟨g.r.toNat, g.c.toNat, g.l⟩, g.A, g.n, g.cap⟩
def arsOf (gs : List GA) : List Ar := gs.map GA.toAr
theorem toAr_toG {g : GA} (h : g.right = true) : (GA.toAr g).toG = g ∧ (GA.toAr g).x.right := by
  have h' : rightA g.r g.c g.l = true := h
  obtain ⟨R, C, e1, e2⟩ := rightA_shape h'
  obtain ⟨r, c, A, n, cap, l⟩ := g
  simp only at e1 e2 h'
  subst e1 e2
  exact ⟨rfl, h'⟩
theorem arsOf_in {w : World} {A : Option Addr} {n cap : Nat} {gs : List GA} (h : ArgsG w A n cap gs) (hr : ∀ g ∈ gs, g.right = true) : ArgsIn w A n cap (arsOf gs) := by
  have e : (arsOf gs).map Ar.toG = gs := by
    unfold arsOf
    rw [List.map_map]
    conv => rhs; rw [← List.map_id gs]
    exact List.map_congr_left fun g hg => (toAr_toG (hr g hg)).1
  refine ArgsG.toIn (xs := arsOf gs) (by rw [e]; exact h) fun a ha => ?_
  obtain ⟨g, hg, rfl⟩ := List.mem_map.1 ha
  exact (toAr_toG (hr g hg)).2
theorem one_arg {w : World} {A : Option Addr} {cap n : Nat} {xs : List Ar} (h : ArgsIn w A n cap xs) (h1 : 1 ≤ n) (h2 : n ≤ 1) : ∃ a, xs = [a] ∧ n = 1 ∧ argN xs 0 = a.x := by
  have hl := h.len
  obtain rfl : n = 1 := by omega
  obtain ⟨a, rfl⟩ := List.length_eq_one_iff.1 hl
  exact ⟨a, rfl, rfl, rfl⟩
/-- Arguments that may be. -/
theorem arsOf_toG {xs : List Ar} : arsOf (xs.map Ar.toG) = xs := by
  unfold arsOf
  rw [List.map_map]
  conv => rhs; rw [← List.map_id xs]
  refine List.map_congr_left fun a _ => ?_
  obtain ⟨⟨R, C, l⟩, A, n, cap⟩ := a
  rfl
theorem callX_in {lo hi : Nat} {xs : List Ar} (F : NA) (h1 : lo ≤ xs.length) (h2 : xs.length ≤ hi) (hr : ∀ a ∈ xs, a.x.right) : callX lo hi (xs.map Ar.toG) F = F := by
  unfold callX
  rw [if_neg (by rw [List.length_map]; omega), if_pos]
  rw [List.all_eq_true]
  intro g hg
  obtain ⟨a, ha, rfl⟩ := List.mem_map.1 hg
  exact hr a ha
end Go.Proofs.YteecmifjbeojeaaGreatDoor
namespace Go.Proofs.YteecmifjbeojeaaGreatDoor
open Go.RowKit NM
theorem low_at {w W : World} (h : Low w W) {p : Addr} {v : Value} (hp : w.cell? p = some v) : W.cell? p = some v := by
  rw [← hp]; exact World.cell?_of_block (h _ (lt_of_cell hp))
theorem right_crit {x : Val} (hx : x.right) : (critO x).2.right := by
  unfold critO
  split
  · split
    · exact right_read _
    · exact hx
  · exact hx
set_option maxHeartbeats 1000000 in
theorem crit_tells {w : World} {p1 p2 : Nat} {c : CS} {s : Val} (h : CritAt w p1 p2 c s) (hs : s.right) : Tells w 306 #[.pointer (some ⟨p1, 0, none⟩), .pointer (some ⟨p2, 0, none⟩)] (kfitB c s) := by
  intro x W hl hx
  have hf := fun V => kfits_any c x s V hx hs
  obtain ⟨h1, h2, h3, h4, h5, h6, h7⟩ := h
  replace h1 := low_at hl h1
  replace h2 := low_at hl h2
  replace h3 := low_at hl h3
  replace h4 := low_at hl h4
  replace h5 := low_at hl h5
  replace h6 := low_at hl h6
  replace h7 := low_at hl h7
  have l1 := lt_of_cell h1
  have l2 := lt_of_cell h2
  generalize kfitB c s x = r at *
  generalize c.str = cs at *
  clear hl hx hs
  show Calls Tryz.prog 306 #[VV x.kind x.mant x.exp x.text x.truth x.fault, .pointer (some ⟨p1, 0, none⟩), .pointer (some ⟨p2, 0, none⟩)] W _
  go_enter Tryz.func306, Tryz.ntmps306
  go_wp2_with (first | (go_at_call 307; (with_reducible refine (hf _).mono ?_); rintro e w' ⟨rfl, hb⟩; obtain ⟨os, d, rfl⟩ := hb.more; clear hb))
  exact bodyPost_ret (v := .bool r) (by simp [results, Tryz.results306, go_sem]) rfl ⟨rfl, by with_reducible repeat (first | exact Ext.refl _ | apply Ext.drew | apply Ext.alloc | apply Ext.more_)⟩
def countIfO (xs : List Ar) : NA := if (argV xs 1).kind = 4 then aloneO (argV xs 1).fault else countedO (kfitB (critO (argV xs 1)).1 (critO (argV xs 1)).2) (argN xs 0).l
theorem ArgsIn.one {w : World} {A : Option Addr} {n cap : Nat} {a : Ar} {xs : List Ar} (h : ArgsIn w A n cap (a :: xs)) : ArgsIn w A 1 cap [a] := by
  refine ⟨fun j u hu => h.rd j u ?_, rfl, by have := h.len; have := h.cap; simp at *; omega, by omega, fun b hb => h.all b (by rw [List.mem_singleton.1 hb]; simp)⟩
  have e : acells (a :: xs) = acells [a] ++ acells xs := by simp [acells]
  rw [e, List.getElem?_append_left (List.getElem?_eq_some_iff.1 hu).1]
  exact hu
theorem allV_one (a : Ar) : allV [a] = a.x.l := by simp [allV]
set_option maxHeartbeats 2000000 in
theorem kcountIf_any (A : Option Addr) (n cap : Nat) (xs : List Ar) (w : World) (htab : Tab w) (hft : FTab w) (h : ArgsIn w A n cap xs) (hn : n = 2) :
    Calls Tryz.prog 142 #[.slice A n cap] w fun e w' => ResA w (countIfO xs) e w' := by
  subst hn
  obtain ⟨R, C, l, b1, off1, n1, cap1, b, off, x, ha, rfl, ⟨v0, v1, v2⟩, hn1, hc1, ⟨y0, y1, y2, y3, y4, y5⟩, hgv, hxr, hbl, hb1, hav, _, _, _⟩ := h.first (k := 1) (by omega)
  have hcap := h.cap
  simp only [Nat.one_mul] at v0 v1 v2
  obtain ⟨a, xs', rfl⟩ : ∃ a xs', xs = a :: xs' := by
    cases xs with
    | nil => have := h.len; simp at this
    | cons a xs' => exact ⟨a, xs', rfl⟩
  have hone := h.one
  have h0 : argN (a :: xs') 0 = a.x := rfl
  obtain ⟨X, hX⟩ : ∃ X, countIfO (a :: xs') = X := ⟨_, rfl⟩
  rw [hX]
  unfold countIfO at hX
  rw [hav, h0] at hX
  have HT := Lib.hid htab
  have HF := Lib.hid hft
  have H1 := Lib.hid hone
  clear h hone htab hft ha hgv hav h0
  by_cases h4 : x.kind = 4
  · rw [if_pos h4] at hX
    have hcb := fun W => criterion_bad x W h4
    have hfa := fun W => kfault_any x.fault W
    rw [hX] at hfa
    have hne : (x.fault != 0) = true := by have := (right_cases hxr).2.2.2 h4; simp; omega
    clear hX h4 hxr
    go_enter Tryz.func142, Tryz.ntmps142
    go_wp2_with (first | (go_at_call 256; (with_reducible refine (hcb _).mono ?_); rintro e w' ⟨rfl, hb⟩; obtain ⟨os1, d1, rfl⟩ := hb.more; clear hb) | (go_at_call 53; (with_reducible refine (hfa _).mono ?_); rintro e w' ⟨D2, m2, cc2, rfl, hD, hb⟩; obtain ⟨os5, d5, rfl⟩ := hb.more; clear hb; have hDr := hD.rd))
    exact bodyPost_ret (v := AV X.R X.C (.slice D2 m2 cc2)) (by simp [results, Tryz.results142, go_sem]) rfl ⟨D2, m2, cc2, rfl, ⟨(by (try simp only [more_more] at hDr); (try simp only [drew_more] at hDr); (try simp only [more_drew] at hDr); (try simp only [Array.append_assoc] at hDr); exact Rd.swap hDr (by first | (simp; done) | (simp; omega) | omega) (by first | (simp; done) | (simp; omega) | omega) (by first | (simp; done) | (simp; omega) | omega)), hD.len, hD.cap, hD.small, hD.ok⟩, by with_reducible repeat (first | exact Ext.refl _ | apply Ext.drew | apply Ext.alloc | apply Ext.more_)⟩
  · rw [if_neg h4] at hX
    have hcr := fun W hW => criterion_any x W hxr h4 hW
    have hcnt := fun W hT hA p q hp hq => kcounted_any (some ⟨b, off, none⟩) 1 cap [a] 306 q (kfitB (critO x).1 (critO x).2) p W hT hA (by decide) hp hq (fun args W => by go_simp)
    rw [allV_one, hX] at hcnt
    have hsr := right_crit hxr
    have hcapI : (1 : Int) ≤ (cap : Int) := by omega
    clear hX h4 hxr
    go_enter Tryz.func142, Tryz.ntmps142
    go_upto_region 4 with (first | (go_at_call 256; (with_reducible refine (hcr _ (HF.out.ext (by with_reducible repeat (first | exact Ext.refl _ | apply Ext.drew | apply Ext.alloc | apply Ext.more_)))).mono ?_); rintro e w' ⟨p1, p2, rfl, hc, hp1, hp2, hb⟩; obtain ⟨os1, d1, rfl⟩ := hb.more; clear hb))
    refine wp_plan (S := Ext _) [(0, 0), (2, 0), (3, 0), (1, 1), (4, 1), (5, 2)] [5] (by kernel_rfl) (by kernel_rfl) (by kernel_rfl) (fun _ _ d _ _ h => by cases d <;> exact h) (Ext.drew (Ext.refl _)) ?_
    iterate 3 ((refine wpPl_read (v := ?_) rfl ?_ (fun _ h => ?_) ?_; rotate_left 1; rfl; (obtain ⟨_, _, rfl⟩ := h.more; go_simp; try rfl)); try simp only [Act.put, zqA, zqB, zqC])
    (refine wpPl_eff rfl ?_ (fun K hK => ?_); rfl; go_simp; refine (kcounted_mk _ _ _).mono ?_; rintro e w' ⟨rfl, rfl⟩; refine hK _ _ ?_ ?_; (repeat (first | (with_reducible (first | exact Ext.refl _ | exact ext_d _ _ _ _ | exact ext_app _ _ _ _ _ | exact ext_app2 _ _ _ _ _ _ | exact ext_app3 _ _ _ _ _ _ _ | exact ext_app4 _ _ _ _ _ _ _ _ | exact ext_app5 _ _ _ _ _ _ _ _ _)) | ((with_reducible refine ext_suffix ⟨_, ?_⟩); (try simp only [Array.append_assoc]); rfl) | (with_reducible (first | apply Ext.drew | apply Ext.alloc | apply Ext.more_)) | apply Ext.drew | apply Ext.alloc | apply Ext.more_)))
    try simp only [Act.put, zqA, zqB, zqC]
    (refine wpPl_eff rfl ?_ (fun K hK => ?_); rfl; go_simp; refine (hcnt _ ?_ ?_ _ #[.pointer (some ⟨p1, 0, none⟩), .pointer (some ⟨p2, 0, none⟩)] ?_ ?_).mono ?_; exact HT.out.ext (by with_reducible repeat (first | exact Ext.refl _ | apply Ext.drew | apply Ext.alloc | apply Ext.more_)); exact H1.out.ext (by with_reducible repeat (first | exact Ext.refl _ | apply Ext.drew | apply Ext.alloc | apply Ext.more_)); go_simp; exact crit_tells (hc.ext (by repeat (first | (with_reducible (first | exact Ext.refl _ | exact ext_d _ _ _ _ | exact ext_app _ _ _ _ _ | exact ext_app2 _ _ _ _ _ _)) | ((with_reducible refine ext_suffix ⟨_, ?_⟩); (try simp only [Array.append_assoc]); rfl) | (with_reducible (first | apply Ext.drew | apply Ext.alloc | apply Ext.more_))))) hsr; rintro e w' ⟨D2, m2, cc2, rfl, hD, hb⟩; obtain ⟨os5, d5, rfl⟩ := hb.more; clear hb; have hDr := hD.rd; refine hK _ _ ?_ ?_; (repeat (first | (with_reducible (first | exact Ext.refl _ | exact ext_d _ _ _ _ | exact ext_app _ _ _ _ _ | exact ext_app2 _ _ _ _ _ _ | exact ext_app3 _ _ _ _ _ _ _ | exact ext_app4 _ _ _ _ _ _ _ _ | exact ext_app5 _ _ _ _ _ _ _ _ _)) | ((with_reducible refine ext_suffix ⟨_, ?_⟩); (try simp only [Array.append_assoc]); rfl) | (with_reducible (first | apply Ext.drew | apply Ext.alloc | apply Ext.more_)) | apply Ext.drew | apply Ext.alloc | apply Ext.more_)))
    try simp only [Act.put, zqA, zqB, zqC]
    (refine wpPl_tail rfl ?_ (fun K hK => ?_); rfl; go_simp; refine hK _ _ ?_)
    try simp only [Act.put]
    refine wpPl_nil ?_
    go_wp2_with fail
    exact bodyPost_ret (v := AV X.R X.C (.slice D2 m2 cc2)) (by simp [results, Tryz.results142, go_sem]) rfl ⟨D2, m2, cc2, rfl, ⟨(by (try simp only [more_more] at hDr); (try simp only [drew_more] at hDr); (try simp only [more_drew] at hDr); (try simp only [Array.append_assoc] at hDr); exact Rd.swap hDr (by first | (simp; done) | (simp; omega) | omega) (by first | (simp; done) | (simp; omega) | omega) (by first | (simp; done) | (simp; omega) | omega)), hD.len, hD.cap, hD.small, hD.ok⟩, by with_reducible repeat (first | exact Ext.refl _ | apply Ext.drew | apply Ext.alloc | apply Ext.more_)⟩
end Go.Proofs.YteecmifjbeojeaaGreatDoor
namespace Go.Proofs.YteecmifjbeojeaaGreatDoor
open Go.RowKit NM
/-- oper.numbers. -/
def nbV (x y : Val) : Value :=
  if tnF x ≠ 0 then .tuple #[NV 0 0, NV 0 0, .int .i64 (tnF x)] else if tnF y ≠ 0 then .tuple #[NV 0 0, NV 0 0, .int .i64 (tnF y)] else .tuple #[NV (tnP x).1 (tnP x).2, NV (tnP y).1 (tnP y).2, .int .i64 0]
set_option maxHeartbeats 1000000 in
theorem numbers_any (x y : Val) (w : World) (hx : x.right) (hy : y.right) :
    Calls Tryz.prog 229 #[VV x.kind x.mant x.exp x.text x.truth x.fault, VV y.kind y.mant y.exp y.text y.truth y.fault] w fun e w' => e = .returned (nbV x y) ∧ Ext w w' := by
  have h1 := fun W => toNum_any x W hx
  have h2 := fun W => toNum_any y W hy
  unfold nbV
  simp only [tnV] at h1 h2
  generalize tnP x = p at *
  generalize tnP y = q at *
  generalize tnF x = f at *
  generalize tnF y = g at *
  obtain ⟨p1, p2⟩ := p
  obtain ⟨q1, q2⟩ := q
  simp only at h1 h2 ⊢
  generalize x.kind = k at *
  generalize x.mant = m at *
  generalize x.exp = ex at *
  generalize x.text = t at *
  generalize x.truth = b at *
  generalize x.fault = fl at *
  generalize y.kind = k' at *
  generalize y.mant = m' at *
  generalize y.exp = ex' at *
  generalize y.text = t' at *
  generalize y.truth = b' at *
  generalize y.fault = fl' at *
  clear hx hy
  by_cases hf : f = 0
  · subst hf
    rw [if_neg (show ¬ ((0 : Int) ≠ 0) from fun h => h rfl)]
    by_cases hg : g = 0
    · subst hg
      rw [if_neg (show ¬ ((0 : Int) ≠ 0) from fun h => h rfl)]
      go_enter Tryz.func229, Tryz.ntmps229
      go_upto_region 7 with (go_at_call 196; first | ((with_reducible refine (h1 _).mono ?_); rintro e w' ⟨rfl, hb⟩; obtain ⟨os1, d1, rfl⟩ := hb.more; clear hb) | ((with_reducible refine (h2 _).mono ?_); rintro e w' ⟨rfl, hb⟩; obtain ⟨os2, d2, rfl⟩ := hb.more; clear hb))
      go_region
      all_goals
        go_wp2_with fail
        exact bodyPost_ret (v := .tuple #[NV p1 p2, NV q1 q2, .int .i64 0]) (by simp [results, Tryz.results229, go_sem]) rfl ⟨rfl, by with_reducible repeat (first | exact Ext.refl _ | apply Ext.drew | apply Ext.alloc | apply Ext.more_)⟩
    · rw [if_pos hg]
      have q0 : (g != 0) = true := by simpa using hg
      go_enter Tryz.func229, Tryz.ntmps229
      go_wp2_with (go_at_call 196; first | ((with_reducible refine (h1 _).mono ?_); rintro e w' ⟨rfl, hb⟩; obtain ⟨os1, d1, rfl⟩ := hb.more; clear hb) | ((with_reducible refine (h2 _).mono ?_); rintro e w' ⟨rfl, hb⟩; obtain ⟨os2, d2, rfl⟩ := hb.more; clear hb))
      exact bodyPost_ret (v := .tuple #[NV 0 0, NV 0 0, .int .i64 g]) (by simp [results, Tryz.results229, go_sem]) rfl ⟨rfl, by with_reducible repeat (first | exact Ext.refl _ | apply Ext.drew | apply Ext.alloc | apply Ext.more_)⟩
  · rw [if_pos hf]
    have q0 : (f != 0) = true := by simpa using hf
    go_enter Tryz.func229, Tryz.ntmps229
    go_wp2_with (go_at_call 196; ((with_reducible refine (h1 _).mono ?_); rintro e w' ⟨rfl, hb⟩; obtain ⟨os1, d1, rfl⟩ := hb.more; clear hb))
    exact bodyPost_ret (v := .tuple #[NV 0 0, NV 0 0, .int .i64 f]) (by simp [results, Tryz.results229, go_sem]) rfl ⟨rfl, by with_reducible repeat (first | exact Ext.refl _ | apply Ext.drew | apply Ext.alloc | apply Ext.more_)⟩
theorem told_no (m e : Int) (w : World) :
    Calls Tryz.prog 230 #[NV m e, .bool false] w fun r w' => r = .returned (VV 4 0 0 ⟨#[]⟩ false 5) ∧ Ext w w' := by
  have hbad := fun W => bad_any 5 W
  rw [show badF 5 = 5 by decide] at hbad
  go_enter Tryz.func230, Tryz.ntmps230
  go_wp2_with (go_at_call 121; (with_reducible refine (hbad _).mono ?_); rintro e w' ⟨rfl, hb⟩; obtain ⟨os, d, rfl⟩ := hb.more; clear hb)
  exact bodyPost_ret (v := VV 4 0 0 ⟨#[]⟩ false 5) (by simp [results, Tryz.results230, go_sem]) rfl ⟨rfl, by with_reducible repeat (first | exact Ext.refl _ | apply Ext.drew | apply Ext.alloc | apply Ext.more_)⟩
theorem told_yes (m e : Int) (w : World) :
    Calls Tryz.prog 230 #[NV m e, .bool true] w fun r w' => r = .returned (VV 1 m e ⟨#[]⟩ false 0) ∧ Ext w w' := by
  have hof := fun W => of_any m e W
  go_enter Tryz.func230, Tryz.ntmps230
  go_wp2_with (go_at_call 183; (with_reducible refine (hof _).mono ?_); rintro e w' ⟨rfl, hb⟩; obtain ⟨os, d, rfl⟩ := hb.more; clear hb)
  exact bodyPost_ret (v := VV 1 m e ⟨#[]⟩ false 0) (by simp [results, Tryz.results230, go_sem]) rfl ⟨rfl, by with_reducible repeat (first | exact Ext.refl _ | apply Ext.drew | apply Ext.alloc | apply Ext.more_)⟩
theorem oper_told_any (r : Option (Int × Int)) (w : World) :
    Calls Tryz.prog 230 #[NV (rm r) (re r), .bool r.isSome] w fun e w' => e = .returned (VV (numRes r).kind (numRes r).mant (numRes r).exp (numRes r).text (numRes r).truth (numRes r).fault) ∧ Ext w w' := by
  cases r with
  | none => exact told_no _ _ w
  | some p => exact told_yes _ _ w
/-- What a function on two numbers tells. -/
def NumFn (fid : FuncId) (F : Int → Int → Int → Int → Option (Int × Int)) : Prop :=
  ∀ a b c d W, Tab W → I64 a → I64 c → Calls Tryz.prog fid #[NV a b, NV c d] W fun e W' => e = .returned (rnV (F a b c d)) ∧ Ext W W'
theorem fn_add : NumFn 102 addS := fun a b c d W h h1 h2 => add_any a b c d W h h1 h2
theorem fn_sub : NumFn 103 subS := fun a b c d W h h1 h2 => sub_any a b c d W h h1 h2
theorem fn_mul : NumFn 104 mulS := fun a b c d W h h1 h2 => mul_any a b c d W h h1 h2
theorem fn_div : NumFn 231 divS := fun a b c d W h h1 h2 => div_any a b c d W h h1 h2
theorem reck_cases (F : Int → Int → Int → Int → Option (Int × Int)) (x y : Val) : (tnF x ≠ 0 ∧ nbV x y = .tuple #[NV 0 0, NV 0 0, .int .i64 (tnF x)] ∧ reckV F x y = bad_ (tnF x)) ∨ (tnF x = 0 ∧ tnF y ≠ 0 ∧ nbV x y = .tuple #[NV 0 0, NV 0 0, .int .i64 (tnF y)] ∧ reckV F x y = bad_ (tnF y)) ∨ (tnF x = 0 ∧ tnF y = 0 ∧ nbV x y = .tuple #[NV (tnP x).1 (tnP x).2, NV (tnP y).1 (tnP y).2, .int .i64 0] ∧ reckV F x y = numRes (F (tnP x).1 (tnP x).2 (tnP y).1 (tnP y).2)) := by
  unfold nbV reckV
  by_cases h1 : tnF x = 0
  · by_cases h2 : tnF y = 0
    · exact Or.inr (Or.inr ⟨h1, h2, by simp [h1, h2], by simp [h1, h2]⟩)
    · exact Or.inr (Or.inl ⟨h1, h2, by simp [h1, h2], by simp [h1, h2]⟩)
  · exact Or.inl ⟨h1, by simp [h1], by simp [h1]⟩
set_option maxHeartbeats 1000000 in
theorem reckoned_add (x y : Val) (w : World) (htab : Tab w) (hx : x.right) (hy : y.right) :
    Calls Tryz.prog 218 #[VV x.kind x.mant x.exp x.text x.truth x.fault, VV y.kind y.mant y.exp y.text y.truth y.fault, .func (.func 102) #[] #[]] w fun e w' => e = .returned (VV (reckV addS x y).kind (reckV addS x y).mant (reckV addS x y).exp (reckV addS x y).text (reckV addS x y).truth (reckV addS x y).fault) ∧ Ext w w' := by
  have hnb := fun W => numbers_any x y W hx hy
  have HT := Lib.hid htab
  clear htab
  rcases reck_cases addS x y with ⟨h1, h2, h3⟩ | ⟨h0, h1, h2, h3⟩ | ⟨h0, h1, h2, h3⟩
  · rw [h3]
    rw [h2] at hnb
    have hbad := fun W => bad_any (tnF x) W
    have q0 : (tnF x != 0) = true := by simpa using h1
    generalize tnF x = f at *
    simp only [bad_, badV]
    clear h1 h2 h3 hx hy
    generalize x.kind = xk at *; generalize x.mant = xm at *; generalize x.exp = xe at *; generalize x.text = xt at *; generalize x.truth = xb at *; generalize x.fault = xf at *
    generalize y.kind = yk at *; generalize y.mant = ym at *; generalize y.exp = ye at *; generalize y.text = yt at *; generalize y.truth = yb at *; generalize y.fault = yf at *
    go_enter Tryz.func218, Tryz.ntmps218
    go_wp2_with (first | (go_at_call 229; (with_reducible refine (hnb _).mono ?_); rintro e w' ⟨rfl, hb⟩; obtain ⟨os, d, rfl⟩ := hb.more; clear hb) | (go_at_call 121; (with_reducible refine (hbad _).mono ?_); rintro e w' ⟨rfl, hb⟩; obtain ⟨os, d, rfl⟩ := hb.more; clear hb))
    exact bodyPost_ret (v := VV 4 0 0 ⟨#[]⟩ false (badF f)) (by simp [results, Tryz.results218, go_sem]) rfl ⟨rfl, by with_reducible repeat (first | exact Ext.refl _ | apply Ext.drew | apply Ext.alloc | apply Ext.more_)⟩
  · rw [h3]
    rw [h2] at hnb
    have hbad := fun W => bad_any (tnF y) W
    have q0 : (tnF y != 0) = true := by simpa using h1
    generalize tnF y = f at *
    simp only [bad_, badV]
    clear h0 h1 h2 h3 hx hy
    generalize x.kind = xk at *; generalize x.mant = xm at *; generalize x.exp = xe at *; generalize x.text = xt at *; generalize x.truth = xb at *; generalize x.fault = xf at *
    generalize y.kind = yk at *; generalize y.mant = ym at *; generalize y.exp = ye at *; generalize y.text = yt at *; generalize y.truth = yb at *; generalize y.fault = yf at *
    go_enter Tryz.func218, Tryz.ntmps218
    go_wp2_with (first | (go_at_call 229; (with_reducible refine (hnb _).mono ?_); rintro e w' ⟨rfl, hb⟩; obtain ⟨os, d, rfl⟩ := hb.more; clear hb) | (go_at_call 121; (with_reducible refine (hbad _).mono ?_); rintro e w' ⟨rfl, hb⟩; obtain ⟨os, d, rfl⟩ := hb.more; clear hb))
    exact bodyPost_ret (v := VV 4 0 0 ⟨#[]⟩ false (badF f)) (by simp [results, Tryz.results218, go_sem]) rfl ⟨rfl, by with_reducible repeat (first | exact Ext.refl _ | apply Ext.drew | apply Ext.alloc | apply Ext.more_)⟩
  · rw [h3]
    rw [h2] at hnb
    have hfn := fun W hW => fn_add (tnP x).1 (tnP x).2 (tnP y).1 (tnP y).2 W hW (Rt_i64 (tn_rt hx)).1 (Rt_i64 (tn_rt hy)).1
    have htd := fun W => oper_told_any (addS (tnP x).1 (tnP x).2 (tnP y).1 (tnP y).2) W
    generalize addS (tnP x).1 (tnP x).2 (tnP y).1 (tnP y).2 = R at *
    generalize (tnP x).1 = a at *
    generalize (tnP x).2 = b at *
    generalize (tnP y).1 = c at *
    generalize (tnP y).2 = d at *
    generalize numRes R = z at *
    simp only [rnV] at hfn
    clear h0 h1 h2 h3 hx hy
    generalize x.kind = xk at *; generalize x.mant = xm at *; generalize x.exp = xe at *; generalize x.text = xt at *; generalize x.truth = xb at *; generalize x.fault = xf at *
    generalize y.kind = yk at *; generalize y.mant = ym at *; generalize y.exp = ye at *; generalize y.text = yt at *; generalize y.truth = yb at *; generalize y.fault = yf at *
    generalize z.kind = zk at *; generalize z.mant = zm at *; generalize z.exp = ze at *; generalize z.text = zt at *; generalize z.truth = zb at *; generalize z.fault = zf at *
    go_enter Tryz.func218, Tryz.ntmps218
    go_wp2_with (first | (go_at_call 229; (with_reducible refine (hnb _).mono ?_); rintro e w' ⟨rfl, hb⟩; obtain ⟨os, d, rfl⟩ := hb.more; clear hb) | (go_at_call 102; (with_reducible refine (hfn _ (HT.out.ext (by with_reducible repeat (first | exact Ext.refl _ | apply Ext.drew | apply Ext.alloc | apply Ext.more_)))).mono ?_); rintro e w' ⟨rfl, hb⟩; obtain ⟨os, d, rfl⟩ := hb.more; clear hb) | (go_at_call 230; (with_reducible refine (htd _).mono ?_); rintro e w' ⟨rfl, hb⟩; obtain ⟨os, d, rfl⟩ := hb.more; clear hb))
    exact bodyPost_ret (v := VV zk zm ze zt zb zf) (by simp [results, Tryz.results218, go_sem]) rfl ⟨rfl, by with_reducible repeat (first | exact Ext.refl _ | apply Ext.drew | apply Ext.alloc | apply Ext.more_)⟩
set_option maxHeartbeats 1000000 in
theorem reckoned_sub (x y : Val) (w : World) (htab : Tab w) (hx : x.right) (hy : y.right) :
    Calls Tryz.prog 218 #[VV x.kind x.mant x.exp x.text x.truth x.fault, VV y.kind y.mant y.exp y.text y.truth y.fault, .func (.func 103) #[] #[]] w fun e w' => e = .returned (VV (reckV subS x y).kind (reckV subS x y).mant (reckV subS x y).exp (reckV subS x y).text (reckV subS x y).truth (reckV subS x y).fault) ∧ Ext w w' := by
  have hnb := fun W => numbers_any x y W hx hy
  have HT := Lib.hid htab
  clear htab
  rcases reck_cases subS x y with ⟨h1, h2, h3⟩ | ⟨h0, h1, h2, h3⟩ | ⟨h0, h1, h2, h3⟩
  · rw [h3]
    rw [h2] at hnb
    have hbad := fun W => bad_any (tnF x) W
    have q0 : (tnF x != 0) = true := by simpa using h1
    generalize tnF x = f at *
    simp only [bad_, badV]
    clear h1 h2 h3 hx hy
    generalize x.kind = xk at *; generalize x.mant = xm at *; generalize x.exp = xe at *; generalize x.text = xt at *; generalize x.truth = xb at *; generalize x.fault = xf at *
    generalize y.kind = yk at *; generalize y.mant = ym at *; generalize y.exp = ye at *; generalize y.text = yt at *; generalize y.truth = yb at *; generalize y.fault = yf at *
    go_enter Tryz.func218, Tryz.ntmps218
    go_wp2_with (first | (go_at_call 229; (with_reducible refine (hnb _).mono ?_); rintro e w' ⟨rfl, hb⟩; obtain ⟨os, d, rfl⟩ := hb.more; clear hb) | (go_at_call 121; (with_reducible refine (hbad _).mono ?_); rintro e w' ⟨rfl, hb⟩; obtain ⟨os, d, rfl⟩ := hb.more; clear hb))
    exact bodyPost_ret (v := VV 4 0 0 ⟨#[]⟩ false (badF f)) (by simp [results, Tryz.results218, go_sem]) rfl ⟨rfl, by with_reducible repeat (first | exact Ext.refl _ | apply Ext.drew | apply Ext.alloc | apply Ext.more_)⟩
  · rw [h3]
    rw [h2] at hnb
    have hbad := fun W => bad_any (tnF y) W
    have q0 : (tnF y != 0) = true := by simpa using h1
    generalize tnF y = f at *
    simp only [bad_, badV]
    clear h0 h1 h2 h3 hx hy
    generalize x.kind = xk at *; generalize x.mant = xm at *; generalize x.exp = xe at *; generalize x.text = xt at *; generalize x.truth = xb at *; generalize x.fault = xf at *
    generalize y.kind = yk at *; generalize y.mant = ym at *; generalize y.exp = ye at *; generalize y.text = yt at *; generalize y.truth = yb at *; generalize y.fault = yf at *
    go_enter Tryz.func218, Tryz.ntmps218
    go_wp2_with (first | (go_at_call 229; (with_reducible refine (hnb _).mono ?_); rintro e w' ⟨rfl, hb⟩; obtain ⟨os, d, rfl⟩ := hb.more; clear hb) | (go_at_call 121; (with_reducible refine (hbad _).mono ?_); rintro e w' ⟨rfl, hb⟩; obtain ⟨os, d, rfl⟩ := hb.more; clear hb))
    exact bodyPost_ret (v := VV 4 0 0 ⟨#[]⟩ false (badF f)) (by simp [results, Tryz.results218, go_sem]) rfl ⟨rfl, by with_reducible repeat (first | exact Ext.refl _ | apply Ext.drew | apply Ext.alloc | apply Ext.more_)⟩
  · rw [h3]
    rw [h2] at hnb
    have hfn := fun W hW => fn_sub (tnP x).1 (tnP x).2 (tnP y).1 (tnP y).2 W hW (Rt_i64 (tn_rt hx)).1 (Rt_i64 (tn_rt hy)).1
    have htd := fun W => oper_told_any (subS (tnP x).1 (tnP x).2 (tnP y).1 (tnP y).2) W
    generalize subS (tnP x).1 (tnP x).2 (tnP y).1 (tnP y).2 = R at *
    generalize (tnP x).1 = a at *
    generalize (tnP x).2 = b at *
    generalize (tnP y).1 = c at *
    generalize (tnP y).2 = d at *
    generalize numRes R = z at *
    simp only [rnV] at hfn
    clear h0 h1 h2 h3 hx hy
    generalize x.kind = xk at *; generalize x.mant = xm at *; generalize x.exp = xe at *; generalize x.text = xt at *; generalize x.truth = xb at *; generalize x.fault = xf at *
    generalize y.kind = yk at *; generalize y.mant = ym at *; generalize y.exp = ye at *; generalize y.text = yt at *; generalize y.truth = yb at *; generalize y.fault = yf at *
    generalize z.kind = zk at *; generalize z.mant = zm at *; generalize z.exp = ze at *; generalize z.text = zt at *; generalize z.truth = zb at *; generalize z.fault = zf at *
    go_enter Tryz.func218, Tryz.ntmps218
    go_wp2_with (first | (go_at_call 229; (with_reducible refine (hnb _).mono ?_); rintro e w' ⟨rfl, hb⟩; obtain ⟨os, d, rfl⟩ := hb.more; clear hb) | (go_at_call 103; (with_reducible refine (hfn _ (HT.out.ext (by with_reducible repeat (first | exact Ext.refl _ | apply Ext.drew | apply Ext.alloc | apply Ext.more_)))).mono ?_); rintro e w' ⟨rfl, hb⟩; obtain ⟨os, d, rfl⟩ := hb.more; clear hb) | (go_at_call 230; (with_reducible refine (htd _).mono ?_); rintro e w' ⟨rfl, hb⟩; obtain ⟨os, d, rfl⟩ := hb.more; clear hb))
    exact bodyPost_ret (v := VV zk zm ze zt zb zf) (by simp [results, Tryz.results218, go_sem]) rfl ⟨rfl, by with_reducible repeat (first | exact Ext.refl _ | apply Ext.drew | apply Ext.alloc | apply Ext.more_)⟩
set_option maxHeartbeats 1000000 in
theorem reckoned_mul (x y : Val) (w : World) (htab : Tab w) (hx : x.right) (hy : y.right) :
    Calls Tryz.prog 218 #[VV x.kind x.mant x.exp x.text x.truth x.fault, VV y.kind y.mant y.exp y.text y.truth y.fault, .func (.func 104) #[] #[]] w fun e w' => e = .returned (VV (reckV mulS x y).kind (reckV mulS x y).mant (reckV mulS x y).exp (reckV mulS x y).text (reckV mulS x y).truth (reckV mulS x y).fault) ∧ Ext w w' := by
  have hnb := fun W => numbers_any x y W hx hy
  have HT := Lib.hid htab
  clear htab
  rcases reck_cases mulS x y with ⟨h1, h2, h3⟩ | ⟨h0, h1, h2, h3⟩ | ⟨h0, h1, h2, h3⟩
  · rw [h3]
    rw [h2] at hnb
    have hbad := fun W => bad_any (tnF x) W
    have q0 : (tnF x != 0) = true := by simpa using h1
    generalize tnF x = f at *
    simp only [bad_, badV]
    clear h1 h2 h3 hx hy
    generalize x.kind = xk at *; generalize x.mant = xm at *; generalize x.exp = xe at *; generalize x.text = xt at *; generalize x.truth = xb at *; generalize x.fault = xf at *
    generalize y.kind = yk at *; generalize y.mant = ym at *; generalize y.exp = ye at *; generalize y.text = yt at *; generalize y.truth = yb at *; generalize y.fault = yf at *
    go_enter Tryz.func218, Tryz.ntmps218
    go_wp2_with (first | (go_at_call 229; (with_reducible refine (hnb _).mono ?_); rintro e w' ⟨rfl, hb⟩; obtain ⟨os, d, rfl⟩ := hb.more; clear hb) | (go_at_call 121; (with_reducible refine (hbad _).mono ?_); rintro e w' ⟨rfl, hb⟩; obtain ⟨os, d, rfl⟩ := hb.more; clear hb))
    exact bodyPost_ret (v := VV 4 0 0 ⟨#[]⟩ false (badF f)) (by simp [results, Tryz.results218, go_sem]) rfl ⟨rfl, by with_reducible repeat (first | exact Ext.refl _ | apply Ext.drew | apply Ext.alloc | apply Ext.more_)⟩
  · rw [h3]
    rw [h2] at hnb
    have hbad := fun W => bad_any (tnF y) W
    have q0 : (tnF y != 0) = true := by simpa using h1
    generalize tnF y = f at *
    simp only [bad_, badV]
    clear h0 h1 h2 h3 hx hy
    generalize x.kind = xk at *; generalize x.mant = xm at *; generalize x.exp = xe at *; generalize x.text = xt at *; generalize x.truth = xb at *; generalize x.fault = xf at *
    generalize y.kind = yk at *; generalize y.mant = ym at *; generalize y.exp = ye at *; generalize y.text = yt at *; generalize y.truth = yb at *; generalize y.fault = yf at *
    go_enter Tryz.func218, Tryz.ntmps218
    go_wp2_with (first | (go_at_call 229; (with_reducible refine (hnb _).mono ?_); rintro e w' ⟨rfl, hb⟩; obtain ⟨os, d, rfl⟩ := hb.more; clear hb) | (go_at_call 121; (with_reducible refine (hbad _).mono ?_); rintro e w' ⟨rfl, hb⟩; obtain ⟨os, d, rfl⟩ := hb.more; clear hb))
    exact bodyPost_ret (v := VV 4 0 0 ⟨#[]⟩ false (badF f)) (by simp [results, Tryz.results218, go_sem]) rfl ⟨rfl, by with_reducible repeat (first | exact Ext.refl _ | apply Ext.drew | apply Ext.alloc | apply Ext.more_)⟩
  · rw [h3]
    rw [h2] at hnb
    have hfn := fun W hW => fn_mul (tnP x).1 (tnP x).2 (tnP y).1 (tnP y).2 W hW (Rt_i64 (tn_rt hx)).1 (Rt_i64 (tn_rt hy)).1
    have htd := fun W => oper_told_any (mulS (tnP x).1 (tnP x).2 (tnP y).1 (tnP y).2) W
    generalize mulS (tnP x).1 (tnP x).2 (tnP y).1 (tnP y).2 = R at *
    generalize (tnP x).1 = a at *
    generalize (tnP x).2 = b at *
    generalize (tnP y).1 = c at *
    generalize (tnP y).2 = d at *
    generalize numRes R = z at *
    simp only [rnV] at hfn
    clear h0 h1 h2 h3 hx hy
    generalize x.kind = xk at *; generalize x.mant = xm at *; generalize x.exp = xe at *; generalize x.text = xt at *; generalize x.truth = xb at *; generalize x.fault = xf at *
    generalize y.kind = yk at *; generalize y.mant = ym at *; generalize y.exp = ye at *; generalize y.text = yt at *; generalize y.truth = yb at *; generalize y.fault = yf at *
    generalize z.kind = zk at *; generalize z.mant = zm at *; generalize z.exp = ze at *; generalize z.text = zt at *; generalize z.truth = zb at *; generalize z.fault = zf at *
    go_enter Tryz.func218, Tryz.ntmps218
    go_wp2_with (first | (go_at_call 229; (with_reducible refine (hnb _).mono ?_); rintro e w' ⟨rfl, hb⟩; obtain ⟨os, d, rfl⟩ := hb.more; clear hb) | (go_at_call 104; (with_reducible refine (hfn _ (HT.out.ext (by with_reducible repeat (first | exact Ext.refl _ | apply Ext.drew | apply Ext.alloc | apply Ext.more_)))).mono ?_); rintro e w' ⟨rfl, hb⟩; obtain ⟨os, d, rfl⟩ := hb.more; clear hb) | (go_at_call 230; (with_reducible refine (htd _).mono ?_); rintro e w' ⟨rfl, hb⟩; obtain ⟨os, d, rfl⟩ := hb.more; clear hb))
    exact bodyPost_ret (v := VV zk zm ze zt zb zf) (by simp [results, Tryz.results218, go_sem]) rfl ⟨rfl, by with_reducible repeat (first | exact Ext.refl _ | apply Ext.drew | apply Ext.alloc | apply Ext.more_)⟩
end Go.Proofs.YteecmifjbeojeaaGreatDoor
namespace Go.Proofs.YteecmifjbeojeaaGreatDoor
open Go.RowKit NM
theorem textL_len {m e : Int} (h : Rt m e) : (textL m e).length ≤ 100 := by
  obtain ⟨b1, b2, b3⟩ := Rt_bd h
  have hn : (Lib.decDigits m.natAbs).length ≤ 15 := by
    have := decB_size m.natAbs
    have h1 : (decB m.natAbs).size = (Lib.decDigits m.natAbs).length := rfl
    have hnd : nd m.natAbs ≤ 15 := (nd_le_iff _ _).2 (by have : T 15 = 1000000000000000 := by decide
                                                         omega)
    omega
  unfold textL
  rw [List.length_append]
  have h1 : (if m < 0 then [(45 : UInt8)] else []).length ≤ 1 := by split <;> simp
  generalize (if m < 0 then [(45 : UInt8)] else []) = sg at *
  split
  · simp; omega
  · split
    · simp; omega
    · simp; omega
theorem textS_size {m e : Int} (h : Rt m e) : (textS m e).size ≤ 100 := by
  unfold textS
  rw [if_pos h]
  exact textL_len h
end Go.Proofs.YteecmifjbeojeaaGreatDoor
namespace Go.Proofs.YteecmifjbeojeaaGreatDoor
open Go.RowKit NM
set_option maxHeartbeats 1000000 in
theorem quotient_any (x y : Val) (w : World) (htab : Tab w) (hx : x.right) (hy : y.right) (z : Val) (hz : quotV x y = z) :
    Calls Tryz.prog 105 #[VV x.kind x.mant x.exp x.text x.truth x.fault, VV y.kind y.mant y.exp y.text y.truth y.fault] w fun e w' => e = .returned (VV z.kind z.mant z.exp z.text z.truth z.fault) ∧ Ext w w' := by
  have hnb := fun W => numbers_any x y W hx hy
  have HT := Lib.hid htab
  clear htab
  by_cases h1 : tnF x = 0
  · by_cases h2 : tnF y = 0
    · have hnv : nbV x y = .tuple #[NV (tnP x).1 (tnP x).2, NV (tnP y).1 (tnP y).2, .int .i64 0] := by unfold nbV; simp [h1, h2]
      rw [hnv] at hnb
      have rx := tn_rt hx
      have ry := tn_rt hy
      by_cases h0 : (tnP y).1 = 0
      · obtain rfl : z = badV 1 := by rw [← hz]; unfold quotV; simp [h1, h2, h0]
        have hbad := fun W => bad_any 1 W
        rw [show badF 1 = 1 by decide] at hbad
        have q1 : ((tnP y).1 == 0) = true := by simp [h0]
        simp only [badV]
        clear h1 h2 hnv hz hx hy rx ry h0
        generalize (tnP x).1 = a at *
        generalize (tnP x).2 = b at *
        generalize (tnP y).1 = c at *
        generalize (tnP y).2 = d at *
        generalize x.kind = xk at *; generalize x.mant = xm at *; generalize x.exp = xe at *; generalize x.text = xt at *; generalize x.truth = xb at *; generalize x.fault = xf at *
        generalize y.kind = yk at *; generalize y.mant = ym at *; generalize y.exp = ye at *; generalize y.text = yt at *; generalize y.truth = yb at *; generalize y.fault = yf at *
        go_enter Tryz.func105, Tryz.ntmps105
        go_wp2_with (first | (go_at_call 229; (with_reducible refine (hnb _).mono ?_); rintro e w' ⟨rfl, hb⟩; obtain ⟨os, d, rfl⟩ := hb.more; clear hb) | (go_at_call 121; (with_reducible refine (hbad _).mono ?_); rintro e w' ⟨rfl, hb⟩; obtain ⟨os, d, rfl⟩ := hb.more; clear hb))
        exact bodyPost_ret (v := VV 4 0 0 ⟨#[]⟩ false 1) (by simp [results, Tryz.results105, go_sem]) rfl ⟨rfl, by with_reducible repeat (first | exact Ext.refl _ | apply Ext.drew | apply Ext.alloc | apply Ext.more_)⟩
      · have hzz : z = numRes (divS (tnP x).1 (tnP x).2 (tnP y).1 (tnP y).2) := by rw [← hz]; unfold quotV; simp [h1, h2, h0]
        have hfn := fun W hW => fn_div (tnP x).1 (tnP x).2 (tnP y).1 (tnP y).2 W hW (Rt_i64 rx).1 (Rt_i64 ry).1
        have htd := fun W => oper_told_any (divS (tnP x).1 (tnP x).2 (tnP y).1 (tnP y).2) W
        rw [← hzz] at htd
        have q1 : ((tnP y).1 == 0) = false := by simp [h0]
        clear h1 h2 hnv hz hx hy rx ry h0 hzz
        generalize divS (tnP x).1 (tnP x).2 (tnP y).1 (tnP y).2 = R at *
        generalize (tnP x).1 = a at *
        generalize (tnP x).2 = b at *
        generalize (tnP y).1 = c at *
        generalize (tnP y).2 = d at *
        simp only [rnV] at hfn
        generalize x.kind = xk at *; generalize x.mant = xm at *; generalize x.exp = xe at *; generalize x.text = xt at *; generalize x.truth = xb at *; generalize x.fault = xf at *
        generalize y.kind = yk at *; generalize y.mant = ym at *; generalize y.exp = ye at *; generalize y.text = yt at *; generalize y.truth = yb at *; generalize y.fault = yf at *
        generalize z.kind = zk at *; generalize z.mant = zm at *; generalize z.exp = ze at *; generalize z.text = zt at *; generalize z.truth = zb at *; generalize z.fault = zf at *
        go_enter Tryz.func105, Tryz.ntmps105
        go_wp2_with (first | (go_at_call 229; (with_reducible refine (hnb _).mono ?_); rintro e w' ⟨rfl, hb⟩; obtain ⟨os, d, rfl⟩ := hb.more; clear hb) | (go_at_call 231; (with_reducible refine (hfn _ (HT.out.ext (by with_reducible repeat (first | exact Ext.refl _ | apply Ext.drew | apply Ext.alloc | apply Ext.more_)))).mono ?_); rintro e w' ⟨rfl, hb⟩; obtain ⟨os, d, rfl⟩ := hb.more; clear hb) | (go_at_call 230; (with_reducible refine (htd _).mono ?_); rintro e w' ⟨rfl, hb⟩; obtain ⟨os, d, rfl⟩ := hb.more; clear hb))
        exact bodyPost_ret (v := VV zk zm ze zt zb zf) (by simp [results, Tryz.results105, go_sem]) rfl ⟨rfl, by with_reducible repeat (first | exact Ext.refl _ | apply Ext.drew | apply Ext.alloc | apply Ext.more_)⟩
    · have hnv : nbV x y = .tuple #[NV 0 0, NV 0 0, .int .i64 (tnF y)] := by unfold nbV; simp [h1, h2]
      rw [hnv] at hnb
      obtain rfl : z = bad_ (tnF y) := by rw [← hz]; unfold quotV; simp [h1, h2]
      have h1' := h1
      clear h1
      have h1 : tnF y ≠ 0 := h2
      have hbad := fun W => bad_any (tnF y) W
      have q0 : (tnF y != 0) = true := by simpa using h1
      generalize tnF y = f at *
      simp only [bad_, badV]
      clear h1 h1' h2 hnv hz hx hy
      generalize x.kind = xk at *; generalize x.mant = xm at *; generalize x.exp = xe at *; generalize x.text = xt at *; generalize x.truth = xb at *; generalize x.fault = xf at *
      generalize y.kind = yk at *; generalize y.mant = ym at *; generalize y.exp = ye at *; generalize y.text = yt at *; generalize y.truth = yb at *; generalize y.fault = yf at *
      go_enter Tryz.func105, Tryz.ntmps105
      go_wp2_with (first | (go_at_call 229; (with_reducible refine (hnb _).mono ?_); rintro e w' ⟨rfl, hb⟩; obtain ⟨os, d, rfl⟩ := hb.more; clear hb) | (go_at_call 121; (with_reducible refine (hbad _).mono ?_); rintro e w' ⟨rfl, hb⟩; obtain ⟨os, d, rfl⟩ := hb.more; clear hb))
      exact bodyPost_ret (v := VV 4 0 0 ⟨#[]⟩ false (badF f)) (by simp [results, Tryz.results105, go_sem]) rfl ⟨rfl, by with_reducible repeat (first | exact Ext.refl _ | apply Ext.drew | apply Ext.alloc | apply Ext.more_)⟩
  · have hnv : nbV x y = .tuple #[NV 0 0, NV 0 0, .int .i64 (tnF x)] := by unfold nbV; simp [h1]
    rw [hnv] at hnb
    obtain rfl : z = bad_ (tnF x) := by rw [← hz]; unfold quotV; simp [h1]
    have hbad := fun W => bad_any (tnF x) W
    have q0 : (tnF x != 0) = true := by simpa using h1
    generalize tnF x = f at *
    simp only [bad_, badV]
    clear h1 hnv hz hx hy
    generalize x.kind = xk at *; generalize x.mant = xm at *; generalize x.exp = xe at *; generalize x.text = xt at *; generalize x.truth = xb at *; generalize x.fault = xf at *
    generalize y.kind = yk at *; generalize y.mant = ym at *; generalize y.exp = ye at *; generalize y.text = yt at *; generalize y.truth = yb at *; generalize y.fault = yf at *
    go_enter Tryz.func105, Tryz.ntmps105
    go_wp2_with (first | (go_at_call 229; (with_reducible refine (hnb _).mono ?_); rintro e w' ⟨rfl, hb⟩; obtain ⟨os, d, rfl⟩ := hb.more; clear hb) | (go_at_call 121; (with_reducible refine (hbad _).mono ?_); rintro e w' ⟨rfl, hb⟩; obtain ⟨os, d, rfl⟩ := hb.more; clear hb))
    exact bodyPost_ret (v := VV 4 0 0 ⟨#[]⟩ false (badF f)) (by simp [results, Tryz.results105, go_sem]) rfl ⟨rfl, by with_reducible repeat (first | exact Ext.refl _ | apply Ext.drew | apply Ext.alloc | apply Ext.more_)⟩
theorem intGo_i64 : ∀ (k : Nat) (n m : Int), I64 n → intGo n k = some m → I64 m
  | 0, n, m, h, e => by cases e; exact h
  | k + 1, n, m, h, e => by
    unfold intGo at e
    split at e
    · cases e
    · exact intGo_i64 k (n * 10) m (by unfold I64; omega) e
theorem intS_i64 {m e n : Int} (h : intS m e = some n) : I64 n := by
  unfold intS at h
  split at h
  · cases h
  · rename_i h1
    refine intGo_i64 _ m n ?_ h
    have : Rt m e := Decidable.byContradiction fun h2 => h1 (Or.inl h2)
    exact (Rt_i64 this).1
set_option maxHeartbeats 1000000 in
theorem power_op_any (x y : Val) (w : World) (htab : Tab w) (hx : x.right) (hy : y.right) (z : Val) (hz : powV x y = z) :
    Calls Tryz.prog 106 #[VV x.kind x.mant x.exp x.text x.truth x.fault, VV y.kind y.mant y.exp y.text y.truth y.fault] w fun e w' => e = .returned (VV z.kind z.mant z.exp z.text z.truth z.fault) ∧ Ext w w' := by
  have hnb := fun W => numbers_any x y W hx hy
  have HT := Lib.hid htab
  clear htab
  by_cases h1 : tnF x = 0
  · by_cases h2 : tnF y = 0
    · have hnv : nbV x y = .tuple #[NV (tnP x).1 (tnP x).2, NV (tnP y).1 (tnP y).2, .int .i64 0] := by unfold nbV; simp [h1, h2]
      rw [hnv] at hnb
      have rx := tn_rt hx
      have ry := tn_rt hy
      have hfl := fun W => floor_any (tnP y).1 (tnP y).2 W (Rt_i64 ry).1
      have hbad5 := fun W => bad_any 5 W
      rw [show badF 5 = 5 by decide] at hbad5
      by_cases h0 : floorS (tnP y).1 (tnP y).2 = tnP y
      · rw [h0] at hfl
        by_cases h3 : (tnP x).1 = 0 ∧ (tnP y).1 < 0
        · obtain rfl : z = badV 1 := by rw [← hz]; unfold powV; simp [h1, h2, h0, h3]
          have hbad := fun W => bad_any 1 W
          rw [show badF 1 = 1 by decide] at hbad
          simp only [badV]
          obtain ⟨h3, h4⟩ := h3
          have q1 : ((tnP x).1 == 0) = true := by simp [h3]
          clear h1 h2 hnv hz hx hy rx ry h0 h3
          generalize (tnP x).1 = a at *
          generalize (tnP x).2 = b at *
          generalize (tnP y).1 = c at *
          generalize (tnP y).2 = d at *
          generalize x.kind = xk at *; generalize x.mant = xm at *; generalize x.exp = xe at *; generalize x.text = xt at *; generalize x.truth = xb at *; generalize x.fault = xf at *
          generalize y.kind = yk at *; generalize y.mant = ym at *; generalize y.exp = ye at *; generalize y.text = yt at *; generalize y.truth = yb at *; generalize y.fault = yf at *
          go_enter Tryz.func106, Tryz.ntmps106
          go_upto_region 4 with (go_at_call 229; (with_reducible refine (hnb _).mono ?_); rintro e w' ⟨rfl, hb⟩; obtain ⟨os, d, rfl⟩ := hb.more; clear hb)
          refine wp_plan (S := Ext _) [(0, 0), (2, 0), (1, 1), (3, 0), (4, 0)] [] (by kernel_rfl) (by kernel_rfl) (by kernel_rfl) (fun _ _ d _ _ h => by cases d <;> exact h) (Ext.drew (Ext.refl _)) ?_
          iterate 2 ((refine wpPl_read (v := ?_) rfl ?_ (fun _ h => ?_) ?_; rotate_left 1; rfl; (obtain ⟨_, _, rfl⟩ := h.more; go_simp; try rfl)); try simp only [Act.put, zqA, zqB, zqC])
          (refine wpPl_eff rfl ?_ (fun K hK => ?_); rfl; go_simp; refine (hfl _).mono ?_; rintro e w' ⟨rfl, hb⟩; obtain ⟨os4, d4, rfl⟩ := hb.more; clear hb; refine hK _ _ ?_ ?_; (repeat (first | (with_reducible (first | exact Ext.refl _ | exact ext_d _ _ _ _ | exact ext_app _ _ _ _ _ | exact ext_app2 _ _ _ _ _ _ | exact ext_app3 _ _ _ _ _ _ _ | exact ext_app4 _ _ _ _ _ _ _ _ | exact ext_app5 _ _ _ _ _ _ _ _ _)) | ((with_reducible refine ext_suffix ⟨_, ?_⟩); (try simp only [Array.append_assoc]); rfl) | (with_reducible (first | apply Ext.drew | apply Ext.alloc | apply Ext.more_)) | apply Ext.drew | apply Ext.alloc | apply Ext.more_)))
          try simp only [Act.put, zqA, zqB, zqC]
          iterate 2 ((refine wpPl_read (v := ?_) rfl ?_ (fun _ h => ?_) ?_; rotate_left 1; rfl; (obtain ⟨_, _, rfl⟩ := h.more; go_simp; try rfl)); try simp only [Act.put, zqA, zqB, zqC])
          refine wpPl_nil ?_
          go_wp2_with (go_at_call 121; (with_reducible refine (hbad _).mono ?_); rintro e w' ⟨rfl, hb⟩; obtain ⟨os, d, rfl⟩ := hb.more; clear hb)
          exact bodyPost_ret (v := VV 4 0 0 ⟨#[]⟩ false 1) (by simp [results, Tryz.results106, go_sem]) rfl ⟨rfl, by with_reducible repeat (first | exact Ext.refl _ | apply Ext.drew | apply Ext.alloc | apply Ext.more_)⟩
        · have hin := fun W => int_any (tnP y).1 (tnP y).2 W (Rt_i64 ry).1
          have q2 : ((tnP x).1 == 0) = false ∨ ((tnP x).1 == 0) = true ∧ ¬ (tnP y).1 < 0 := by
            by_cases h4 : (tnP x).1 = 0
            · exact Or.inr ⟨by simp [h4], fun h => h3 ⟨h4, h⟩⟩
            · exact Or.inl (by simp [h4])
          cases hI : intS (tnP y).1 (tnP y).2 with
          | none =>
            obtain rfl : z = badV 5 := by rw [← hz]; unfold powV; simp [h1, h2, h0, h3, hI]
            rw [hI] at hin
            simp only [inV, Option.getD_none, Option.isSome_none] at hin
            simp only [badV]
            clear h1 h2 hnv hz hx hy rx ry h0 h3 hI
            generalize (tnP x).1 = a at *
            generalize (tnP x).2 = b at *
            generalize (tnP y).1 = c at *
            generalize (tnP y).2 = d at *
            generalize x.kind = xk at *; generalize x.mant = xm at *; generalize x.exp = xe at *; generalize x.text = xt at *; generalize x.truth = xb at *; generalize x.fault = xf at *
            generalize y.kind = yk at *; generalize y.mant = ym at *; generalize y.exp = ye at *; generalize y.text = yt at *; generalize y.truth = yb at *; generalize y.fault = yf at *
            rcases q2 with q2 | ⟨q2, q3⟩
            · go_enter Tryz.func106, Tryz.ntmps106
              go_upto_region 4 with (go_at_call 229; (with_reducible refine (hnb _).mono ?_); rintro e w' ⟨rfl, hb⟩; obtain ⟨os, d, rfl⟩ := hb.more; clear hb)
              refine wp_plan (S := Ext _) [(0, 0), (2, 0), (1, 1), (3, 0), (4, 0)] [] (by kernel_rfl) (by kernel_rfl) (by kernel_rfl) (fun _ _ d _ _ h => by cases d <;> exact h) (Ext.drew (Ext.refl _)) ?_
              iterate 2 ((refine wpPl_read (v := ?_) rfl ?_ (fun _ h => ?_) ?_; rotate_left 1; rfl; (obtain ⟨_, _, rfl⟩ := h.more; go_simp; try rfl)); try simp only [Act.put, zqA, zqB, zqC])
              (refine wpPl_eff rfl ?_ (fun K hK => ?_); rfl; go_simp; refine (hfl _).mono ?_; rintro e w' ⟨rfl, hb⟩; obtain ⟨os4, d4, rfl⟩ := hb.more; clear hb; refine hK _ _ ?_ ?_; (repeat (first | (with_reducible (first | exact Ext.refl _ | exact ext_d _ _ _ _ | exact ext_app _ _ _ _ _ | exact ext_app2 _ _ _ _ _ _ | exact ext_app3 _ _ _ _ _ _ _ | exact ext_app4 _ _ _ _ _ _ _ _ | exact ext_app5 _ _ _ _ _ _ _ _ _)) | ((with_reducible refine ext_suffix ⟨_, ?_⟩); (try simp only [Array.append_assoc]); rfl) | (with_reducible (first | apply Ext.drew | apply Ext.alloc | apply Ext.more_)) | apply Ext.drew | apply Ext.alloc | apply Ext.more_)))
              try simp only [Act.put, zqA, zqB, zqC]
              iterate 2 ((refine wpPl_read (v := ?_) rfl ?_ (fun _ h => ?_) ?_; rotate_left 1; rfl; (obtain ⟨_, _, rfl⟩ := h.more; go_simp; try rfl)); try simp only [Act.put, zqA, zqB, zqC])
              refine wpPl_nil ?_
              go_wp2_with (first | (go_at_call 121; (with_reducible refine (hbad5 _).mono ?_); rintro e w' ⟨rfl, hb⟩; obtain ⟨os, d, rfl⟩ := hb.more; clear hb) | (go_at_call 232; (with_reducible refine (hin _).mono ?_); rintro e w' ⟨rfl, hb⟩; obtain ⟨os, d, rfl⟩ := hb.more; clear hb))
              exact bodyPost_ret (v := VV 4 0 0 ⟨#[]⟩ false 5) (by simp [results, Tryz.results106, go_sem]) rfl ⟨rfl, by with_reducible repeat (first | exact Ext.refl _ | apply Ext.drew | apply Ext.alloc | apply Ext.more_)⟩
            · go_enter Tryz.func106, Tryz.ntmps106
              go_upto_region 4 with (go_at_call 229; (with_reducible refine (hnb _).mono ?_); rintro e w' ⟨rfl, hb⟩; obtain ⟨os, d, rfl⟩ := hb.more; clear hb)
              refine wp_plan (S := Ext _) [(0, 0), (2, 0), (1, 1), (3, 0), (4, 0)] [] (by kernel_rfl) (by kernel_rfl) (by kernel_rfl) (fun _ _ d _ _ h => by cases d <;> exact h) (Ext.drew (Ext.refl _)) ?_
              iterate 2 ((refine wpPl_read (v := ?_) rfl ?_ (fun _ h => ?_) ?_; rotate_left 1; rfl; (obtain ⟨_, _, rfl⟩ := h.more; go_simp; try rfl)); try simp only [Act.put, zqA, zqB, zqC])
              (refine wpPl_eff rfl ?_ (fun K hK => ?_); rfl; go_simp; refine (hfl _).mono ?_; rintro e w' ⟨rfl, hb⟩; obtain ⟨os4, d4, rfl⟩ := hb.more; clear hb; refine hK _ _ ?_ ?_; (repeat (first | (with_reducible (first | exact Ext.refl _ | exact ext_d _ _ _ _ | exact ext_app _ _ _ _ _ | exact ext_app2 _ _ _ _ _ _ | exact ext_app3 _ _ _ _ _ _ _ | exact ext_app4 _ _ _ _ _ _ _ _ | exact ext_app5 _ _ _ _ _ _ _ _ _)) | ((with_reducible refine ext_suffix ⟨_, ?_⟩); (try simp only [Array.append_assoc]); rfl) | (with_reducible (first | apply Ext.drew | apply Ext.alloc | apply Ext.more_)) | apply Ext.drew | apply Ext.alloc | apply Ext.more_)))
              try simp only [Act.put, zqA, zqB, zqC]
              iterate 2 ((refine wpPl_read (v := ?_) rfl ?_ (fun _ h => ?_) ?_; rotate_left 1; rfl; (obtain ⟨_, _, rfl⟩ := h.more; go_simp; try rfl)); try simp only [Act.put, zqA, zqB, zqC])
              refine wpPl_nil ?_
              go_wp2_with (first | (go_at_call 121; (with_reducible refine (hbad5 _).mono ?_); rintro e w' ⟨rfl, hb⟩; obtain ⟨os, d, rfl⟩ := hb.more; clear hb) | (go_at_call 232; (with_reducible refine (hin _).mono ?_); rintro e w' ⟨rfl, hb⟩; obtain ⟨os, d, rfl⟩ := hb.more; clear hb))
              exact bodyPost_ret (v := VV 4 0 0 ⟨#[]⟩ false 5) (by simp [results, Tryz.results106, go_sem]) rfl ⟨rfl, by with_reducible repeat (first | exact Ext.refl _ | apply Ext.drew | apply Ext.alloc | apply Ext.more_)⟩
          | some n =>
            have hzz : z = numRes (powS (tnP x).1 (tnP x).2 n) := by rw [← hz]; unfold powV; simp [h1, h2, h0, h3, hI]
            rw [hI] at hin
            simp only [inV, Option.getD_some, Option.isSome_some] at hin
            have hn : I64 n := intS_i64 hI
            have hfn := fun W hW => pow_any (tnP x).1 (tnP x).2 n W hW (Rt_i64 rx).1 hn
            have htd := fun W => oper_told_any (powS (tnP x).1 (tnP x).2 n) W
            rw [← hzz] at htd
            clear h1 h2 hnv hz hx hy rx ry h0 h3 hI hzz hn
            generalize powS (tnP x).1 (tnP x).2 n = R at *
            simp only [rnV] at hfn
            generalize (tnP x).1 = a at *
            generalize (tnP x).2 = b at *
            generalize (tnP y).1 = c at *
            generalize (tnP y).2 = d at *
            generalize x.kind = xk at *; generalize x.mant = xm at *; generalize x.exp = xe at *; generalize x.text = xt at *; generalize x.truth = xb at *; generalize x.fault = xf at *
            generalize y.kind = yk at *; generalize y.mant = ym at *; generalize y.exp = ye at *; generalize y.text = yt at *; generalize y.truth = yb at *; generalize y.fault = yf at *
            generalize z.kind = zk at *; generalize z.mant = zm at *; generalize z.exp = ze at *; generalize z.text = zt at *; generalize z.truth = zb at *; generalize z.fault = zf at *
            rcases q2 with q2 | ⟨q2, q3⟩
            · go_enter Tryz.func106, Tryz.ntmps106
              go_upto_region 4 with (go_at_call 229; (with_reducible refine (hnb _).mono ?_); rintro e w' ⟨rfl, hb⟩; obtain ⟨os, d, rfl⟩ := hb.more; clear hb)
              refine wp_plan (S := Ext _) [(0, 0), (2, 0), (1, 1), (3, 0), (4, 0)] [] (by kernel_rfl) (by kernel_rfl) (by kernel_rfl) (fun _ _ d _ _ h => by cases d <;> exact h) (Ext.drew (Ext.refl _)) ?_
              iterate 2 ((refine wpPl_read (v := ?_) rfl ?_ (fun _ h => ?_) ?_; rotate_left 1; rfl; (obtain ⟨_, _, rfl⟩ := h.more; go_simp; try rfl)); try simp only [Act.put, zqA, zqB, zqC])
              (refine wpPl_eff rfl ?_ (fun K hK => ?_); rfl; go_simp; refine (hfl _).mono ?_; rintro e w' ⟨rfl, hb⟩; obtain ⟨os4, d4, rfl⟩ := hb.more; clear hb; refine hK _ _ ?_ ?_; (repeat (first | (with_reducible (first | exact Ext.refl _ | exact ext_d _ _ _ _ | exact ext_app _ _ _ _ _ | exact ext_app2 _ _ _ _ _ _ | exact ext_app3 _ _ _ _ _ _ _ | exact ext_app4 _ _ _ _ _ _ _ _ | exact ext_app5 _ _ _ _ _ _ _ _ _)) | ((with_reducible refine ext_suffix ⟨_, ?_⟩); (try simp only [Array.append_assoc]); rfl) | (with_reducible (first | apply Ext.drew | apply Ext.alloc | apply Ext.more_)) | apply Ext.drew | apply Ext.alloc | apply Ext.more_)))
              try simp only [Act.put, zqA, zqB, zqC]
              iterate 2 ((refine wpPl_read (v := ?_) rfl ?_ (fun _ h => ?_) ?_; rotate_left 1; rfl; (obtain ⟨_, _, rfl⟩ := h.more; go_simp; try rfl)); try simp only [Act.put, zqA, zqB, zqC])
              refine wpPl_nil ?_
              go_wp2_with (first | (go_at_call 232; (with_reducible refine (hin _).mono ?_); rintro e w' ⟨rfl, hb⟩; obtain ⟨os, d, rfl⟩ := hb.more; clear hb) | (go_at_call 233; (with_reducible refine (hfn _ (HT.out.ext (by with_reducible repeat (first | exact Ext.refl _ | apply Ext.drew | apply Ext.alloc | apply Ext.more_)))).mono ?_); rintro e w' ⟨rfl, hb⟩; obtain ⟨os, d, rfl⟩ := hb.more; clear hb) | (go_at_call 230; (with_reducible refine (htd _).mono ?_); rintro e w' ⟨rfl, hb⟩; obtain ⟨os, d, rfl⟩ := hb.more; clear hb))
              exact bodyPost_ret (v := VV zk zm ze zt zb zf) (by simp [results, Tryz.results106, go_sem]) rfl ⟨rfl, by with_reducible repeat (first | exact Ext.refl _ | apply Ext.drew | apply Ext.alloc | apply Ext.more_)⟩
            · go_enter Tryz.func106, Tryz.ntmps106
              go_upto_region 4 with (go_at_call 229; (with_reducible refine (hnb _).mono ?_); rintro e w' ⟨rfl, hb⟩; obtain ⟨os, d, rfl⟩ := hb.more; clear hb)
              refine wp_plan (S := Ext _) [(0, 0), (2, 0), (1, 1), (3, 0), (4, 0)] [] (by kernel_rfl) (by kernel_rfl) (by kernel_rfl) (fun _ _ d _ _ h => by cases d <;> exact h) (Ext.drew (Ext.refl _)) ?_
              iterate 2 ((refine wpPl_read (v := ?_) rfl ?_ (fun _ h => ?_) ?_; rotate_left 1; rfl; (obtain ⟨_, _, rfl⟩ := h.more; go_simp; try rfl)); try simp only [Act.put, zqA, zqB, zqC])
              (refine wpPl_eff rfl ?_ (fun K hK => ?_); rfl; go_simp; refine (hfl _).mono ?_; rintro e w' ⟨rfl, hb⟩; obtain ⟨os4, d4, rfl⟩ := hb.more; clear hb; refine hK _ _ ?_ ?_; (repeat (first | (with_reducible (first | exact Ext.refl _ | exact ext_d _ _ _ _ | exact ext_app _ _ _ _ _ | exact ext_app2 _ _ _ _ _ _ | exact ext_app3 _ _ _ _ _ _ _ | exact ext_app4 _ _ _ _ _ _ _ _ | exact ext_app5 _ _ _ _ _ _ _ _ _)) | ((with_reducible refine ext_suffix ⟨_, ?_⟩); (try simp only [Array.append_assoc]); rfl) | (with_reducible (first | apply Ext.drew | apply Ext.alloc | apply Ext.more_)) | apply Ext.drew | apply Ext.alloc | apply Ext.more_)))
              try simp only [Act.put, zqA, zqB, zqC]
              iterate 2 ((refine wpPl_read (v := ?_) rfl ?_ (fun _ h => ?_) ?_; rotate_left 1; rfl; (obtain ⟨_, _, rfl⟩ := h.more; go_simp; try rfl)); try simp only [Act.put, zqA, zqB, zqC])
              refine wpPl_nil ?_
              go_wp2_with (first | (go_at_call 232; (with_reducible refine (hin _).mono ?_); rintro e w' ⟨rfl, hb⟩; obtain ⟨os, d, rfl⟩ := hb.more; clear hb) | (go_at_call 233; (with_reducible refine (hfn _ (HT.out.ext (by with_reducible repeat (first | exact Ext.refl _ | apply Ext.drew | apply Ext.alloc | apply Ext.more_)))).mono ?_); rintro e w' ⟨rfl, hb⟩; obtain ⟨os, d, rfl⟩ := hb.more; clear hb) | (go_at_call 230; (with_reducible refine (htd _).mono ?_); rintro e w' ⟨rfl, hb⟩; obtain ⟨os, d, rfl⟩ := hb.more; clear hb))
              exact bodyPost_ret (v := VV zk zm ze zt zb zf) (by simp [results, Tryz.results106, go_sem]) rfl ⟨rfl, by with_reducible repeat (first | exact Ext.refl _ | apply Ext.drew | apply Ext.alloc | apply Ext.more_)⟩
      · obtain rfl : z = badV 5 := by rw [← hz]; unfold powV; simp [h1, h2, h0]
        simp only [badV]
        have hne : ¬ ((floorS (tnP y).1 (tnP y).2).1 = (tnP y).1 ∧ (floorS (tnP y).1 (tnP y).2).2 = (tnP y).2) := fun h => h0 (Prod.ext h.1 h.2)
        generalize (floorS (tnP y).1 (tnP y).2).1 = u at *
        generalize (floorS (tnP y).1 (tnP y).2).2 = v at *
        clear h1 h2 hnv hz hx hy rx ry h0
        generalize (tnP x).1 = a at *
        generalize (tnP x).2 = b at *
        generalize (tnP y).1 = c at *
        generalize (tnP y).2 = d at *
        generalize x.kind = xk at *; generalize x.mant = xm at *; generalize x.exp = xe at *; generalize x.text = xt at *; generalize x.truth = xb at *; generalize x.fault = xf at *
        generalize y.kind = yk at *; generalize y.mant = ym at *; generalize y.exp = ye at *; generalize y.text = yt at *; generalize y.truth = yb at *; generalize y.fault = yf at *
        by_cases hu : u = c
        · have hv : ¬ v = d := fun h => hne ⟨hu, h⟩
          subst hu
          clear hne
          go_enter Tryz.func106, Tryz.ntmps106
          go_upto_region 4 with (go_at_call 229; (with_reducible refine (hnb _).mono ?_); rintro e w' ⟨rfl, hb⟩; obtain ⟨os, d, rfl⟩ := hb.more; clear hb)
          refine wp_plan (S := Ext _) [(0, 0), (2, 0), (1, 1), (3, 0), (4, 0)] [] (by kernel_rfl) (by kernel_rfl) (by kernel_rfl) (fun _ _ d _ _ h => by cases d <;> exact h) (Ext.drew (Ext.refl _)) ?_
          iterate 2 ((refine wpPl_read (v := ?_) rfl ?_ (fun _ h => ?_) ?_; rotate_left 1; rfl; (obtain ⟨_, _, rfl⟩ := h.more; go_simp; try rfl)); try simp only [Act.put, zqA, zqB, zqC])
          (refine wpPl_eff rfl ?_ (fun K hK => ?_); rfl; go_simp; refine (hfl _).mono ?_; rintro e w' ⟨rfl, hb⟩; obtain ⟨os4, d4, rfl⟩ := hb.more; clear hb; refine hK _ _ ?_ ?_; (repeat (first | (with_reducible (first | exact Ext.refl _ | exact ext_d _ _ _ _ | exact ext_app _ _ _ _ _ | exact ext_app2 _ _ _ _ _ _ | exact ext_app3 _ _ _ _ _ _ _ | exact ext_app4 _ _ _ _ _ _ _ _ | exact ext_app5 _ _ _ _ _ _ _ _ _)) | ((with_reducible refine ext_suffix ⟨_, ?_⟩); (try simp only [Array.append_assoc]); rfl) | (with_reducible (first | apply Ext.drew | apply Ext.alloc | apply Ext.more_)) | apply Ext.drew | apply Ext.alloc | apply Ext.more_)))
          try simp only [Act.put, zqA, zqB, zqC]
          iterate 2 ((refine wpPl_read (v := ?_) rfl ?_ (fun _ h => ?_) ?_; rotate_left 1; rfl; (obtain ⟨_, _, rfl⟩ := h.more; go_simp; try rfl)); try simp only [Act.put, zqA, zqB, zqC])
          refine wpPl_nil ?_
          go_wp2_with (go_at_call 121; (with_reducible refine (hbad5 _).mono ?_); rintro e w' ⟨rfl, hb⟩; obtain ⟨os, d, rfl⟩ := hb.more; clear hb)
          exact bodyPost_ret (v := VV 4 0 0 ⟨#[]⟩ false 5) (by simp [results, Tryz.results106, go_sem]) rfl ⟨rfl, by with_reducible repeat (first | exact Ext.refl _ | apply Ext.drew | apply Ext.alloc | apply Ext.more_)⟩
        · clear hne
          go_enter Tryz.func106, Tryz.ntmps106
          go_upto_region 4 with (go_at_call 229; (with_reducible refine (hnb _).mono ?_); rintro e w' ⟨rfl, hb⟩; obtain ⟨os, d, rfl⟩ := hb.more; clear hb)
          refine wp_plan (S := Ext _) [(0, 0), (2, 0), (1, 1), (3, 0), (4, 0)] [] (by kernel_rfl) (by kernel_rfl) (by kernel_rfl) (fun _ _ d _ _ h => by cases d <;> exact h) (Ext.drew (Ext.refl _)) ?_
          iterate 2 ((refine wpPl_read (v := ?_) rfl ?_ (fun _ h => ?_) ?_; rotate_left 1; rfl; (obtain ⟨_, _, rfl⟩ := h.more; go_simp; try rfl)); try simp only [Act.put, zqA, zqB, zqC])
          (refine wpPl_eff rfl ?_ (fun K hK => ?_); rfl; go_simp; refine (hfl _).mono ?_; rintro e w' ⟨rfl, hb⟩; obtain ⟨os4, d4, rfl⟩ := hb.more; clear hb; refine hK _ _ ?_ ?_; (repeat (first | (with_reducible (first | exact Ext.refl _ | exact ext_d _ _ _ _ | exact ext_app _ _ _ _ _ | exact ext_app2 _ _ _ _ _ _ | exact ext_app3 _ _ _ _ _ _ _ | exact ext_app4 _ _ _ _ _ _ _ _ | exact ext_app5 _ _ _ _ _ _ _ _ _)) | ((with_reducible refine ext_suffix ⟨_, ?_⟩); (try simp only [Array.append_assoc]); rfl) | (with_reducible (first | apply Ext.drew | apply Ext.alloc | apply Ext.more_)) | apply Ext.drew | apply Ext.alloc | apply Ext.more_)))
          try simp only [Act.put, zqA, zqB, zqC]
          iterate 2 ((refine wpPl_read (v := ?_) rfl ?_ (fun _ h => ?_) ?_; rotate_left 1; rfl; (obtain ⟨_, _, rfl⟩ := h.more; go_simp; try rfl)); try simp only [Act.put, zqA, zqB, zqC])
          refine wpPl_nil ?_
          go_wp2_with (go_at_call 121; (with_reducible refine (hbad5 _).mono ?_); rintro e w' ⟨rfl, hb⟩; obtain ⟨os, d, rfl⟩ := hb.more; clear hb)
          exact bodyPost_ret (v := VV 4 0 0 ⟨#[]⟩ false 5) (by simp [results, Tryz.results106, go_sem]) rfl ⟨rfl, by with_reducible repeat (first | exact Ext.refl _ | apply Ext.drew | apply Ext.alloc | apply Ext.more_)⟩
      
    · have hnv : nbV x y = .tuple #[NV 0 0, NV 0 0, .int .i64 (tnF y)] := by unfold nbV; simp [h1, h2]
      rw [hnv] at hnb
      obtain rfl : z = bad_ (tnF y) := by rw [← hz]; unfold powV; simp [h1, h2]
      have h1' := h1
      clear h1
      have h1 : tnF y ≠ 0 := h2
      have hbad := fun W => bad_any (tnF y) W
      have q0 : (tnF y != 0) = true := by simpa using h1
      generalize tnF y = f at *
      simp only [bad_, badV]
      clear h1 h1' h2 hnv hz hx hy
      generalize x.kind = xk at *; generalize x.mant = xm at *; generalize x.exp = xe at *; generalize x.text = xt at *; generalize x.truth = xb at *; generalize x.fault = xf at *
      generalize y.kind = yk at *; generalize y.mant = ym at *; generalize y.exp = ye at *; generalize y.text = yt at *; generalize y.truth = yb at *; generalize y.fault = yf at *
      go_enter Tryz.func106, Tryz.ntmps106
      go_wp2_with (first | (go_at_call 229; (with_reducible refine (hnb _).mono ?_); rintro e w' ⟨rfl, hb⟩; obtain ⟨os, d, rfl⟩ := hb.more; clear hb) | (go_at_call 121; (with_reducible refine (hbad _).mono ?_); rintro e w' ⟨rfl, hb⟩; obtain ⟨os, d, rfl⟩ := hb.more; clear hb))
      exact bodyPost_ret (v := VV 4 0 0 ⟨#[]⟩ false (badF f)) (by simp [results, Tryz.results106, go_sem]) rfl ⟨rfl, by with_reducible repeat (first | exact Ext.refl _ | apply Ext.drew | apply Ext.alloc | apply Ext.more_)⟩
  · have hnv : nbV x y = .tuple #[NV 0 0, NV 0 0, .int .i64 (tnF x)] := by unfold nbV; simp [h1]
    rw [hnv] at hnb
    obtain rfl : z = bad_ (tnF x) := by rw [← hz]; unfold powV; simp [h1]
    have hbad := fun W => bad_any (tnF x) W
    have q0 : (tnF x != 0) = true := by simpa using h1
    generalize tnF x = f at *
    simp only [bad_, badV]
    clear h1 hnv hz hx hy
    generalize x.kind = xk at *; generalize x.mant = xm at *; generalize x.exp = xe at *; generalize x.text = xt at *; generalize x.truth = xb at *; generalize x.fault = xf at *
    generalize y.kind = yk at *; generalize y.mant = ym at *; generalize y.exp = ye at *; generalize y.text = yt at *; generalize y.truth = yb at *; generalize y.fault = yf at *
    go_enter Tryz.func106, Tryz.ntmps106
    go_wp2_with (first | (go_at_call 229; (with_reducible refine (hnb _).mono ?_); rintro e w' ⟨rfl, hb⟩; obtain ⟨os, d, rfl⟩ := hb.more; clear hb) | (go_at_call 121; (with_reducible refine (hbad _).mono ?_); rintro e w' ⟨rfl, hb⟩; obtain ⟨os, d, rfl⟩ := hb.more; clear hb))
    exact bodyPost_ret (v := VV 4 0 0 ⟨#[]⟩ false (badF f)) (by simp [results, Tryz.results106, go_sem]) rfl ⟨rfl, by with_reducible repeat (first | exact Ext.refl _ | apply Ext.drew | apply Ext.alloc | apply Ext.more_)⟩
theorem tt_size {x : Val} (h : x.right) : (ttS x).size ≤ 255 := by
  rcases h.form with rfl | ⟨m, e, rfl, hr⟩ | ⟨t, rfl, ht⟩ | ⟨b, rfl⟩ | ⟨f, rfl, hf⟩
  · exact Nat.zero_le _
  · show (textS m e).size ≤ 255
    have := textS_size hr
    omega
  · exact ht
  · cases b <;> decide
  · exact Nat.zero_le _
set_option maxHeartbeats 1000000 in
theorem joined_any (x y : Val) (w : World) (htab : Tab w) (hx : x.right) (hy : y.right) (z : Val) (hz : joinV x y = z) :
    Calls Tryz.prog 107 #[VV x.kind x.mant x.exp x.text x.truth x.fault, VV y.kind y.mant y.exp y.text y.truth y.fault] w fun e w' => e = .returned (VV z.kind z.mant z.exp z.text z.truth z.fault) ∧ Ext w w' := by
  have ht1 := fun W hW => toText_any x W hW hx
  have ht2 := fun W hW => toText_any y W hW hy
  simp only [ttV] at ht1 ht2
  have s1 := tt_size hx
  have s2 := tt_size hy
  have HT := Lib.hid htab
  clear htab
  by_cases h1 : ttF x = 0
  · by_cases h2 : ttF y = 0
    · have hzz : z = textV (ttS x ++ ttS y) := by rw [← hz]; unfold joinV; simp [h1, h2]
      rw [h1] at ht1
      rw [h2] at ht2
      have htx := fun W => text_any (ttS x ++ ttS y) W (by rw [ByteArray.size_append]; omega)
      have e1 : (textV (ttS x ++ ttS y)).mant = 0 ∧ (textV (ttS x ++ ttS y)).exp = 0 ∧ (textV (ttS x ++ ttS y)).truth = false := by
        unfold textV
        split <;> exact ⟨rfl, rfl, rfl⟩
      rw [← hzz] at htx e1
      obtain ⟨e1, e2, e3⟩ := e1
      rw [e1, e2, e3]
      generalize ttS x = tx at *
      generalize ttS y = ty at *
      clear h1 h2 hzz hz hx hy e1 e2 e3
      generalize z.kind = zk at *
      generalize z.text = zt at *
      generalize z.fault = zf at *
      generalize x.kind = xk at *; generalize x.mant = xm at *; generalize x.exp = xe at *; generalize x.text = xt at *; generalize x.truth = xb at *; generalize x.fault = xf at *
      generalize y.kind = yk at *; generalize y.mant = ym at *; generalize y.exp = ye at *; generalize y.text = yt at *; generalize y.truth = yb at *; generalize y.fault = yf at *
      go_enter Tryz.func107, Tryz.ntmps107
      go_wp2_with (first | (go_at_call 234; first | ((with_reducible refine (ht1 _ (HT.out.ext (by with_reducible repeat (first | exact Ext.refl _ | apply Ext.drew | apply Ext.alloc | apply Ext.more_)))).mono ?_); rintro e w' ⟨rfl, hb⟩; obtain ⟨os1, d1, rfl⟩ := hb.more; clear hb) | ((with_reducible refine (ht2 _ (HT.out.ext (by with_reducible repeat (first | exact Ext.refl _ | apply Ext.drew | apply Ext.alloc | apply Ext.more_)))).mono ?_); rintro e w' ⟨rfl, hb⟩; obtain ⟨os2, d2, rfl⟩ := hb.more; clear hb)) | (go_at_call 235; (with_reducible refine (htx _).mono ?_); rintro e w' ⟨rfl, hb⟩; obtain ⟨os, d, rfl⟩ := hb.more; clear hb))
      exact bodyPost_ret (v := VV zk 0 0 zt false zf) (by simp [results, Tryz.results107, go_sem]) rfl ⟨rfl, by with_reducible repeat (first | exact Ext.refl _ | apply Ext.drew | apply Ext.alloc | apply Ext.more_)⟩
    · obtain rfl : z = bad_ (ttF y) := by rw [← hz]; unfold joinV; simp [h1, h2]
      rw [h1] at ht1
      clear h1
      have h1 : ttF y ≠ 0 := h2
      have hbad := fun W => bad_any (ttF y) W
      have q0 : (ttF y != 0) = true := by simpa using h1
      generalize ttF y = f at *
      generalize ttS x = tx at *
      generalize ttS y = ty at *
      simp only [bad_, badV]
      clear h1 h2 hz hx hy
      generalize x.kind = xk at *; generalize x.mant = xm at *; generalize x.exp = xe at *; generalize x.text = xt at *; generalize x.truth = xb at *; generalize x.fault = xf at *
      generalize y.kind = yk at *; generalize y.mant = ym at *; generalize y.exp = ye at *; generalize y.text = yt at *; generalize y.truth = yb at *; generalize y.fault = yf at *
      go_enter Tryz.func107, Tryz.ntmps107
      go_wp2_with (first | (go_at_call 234; first | ((with_reducible refine (ht1 _ (HT.out.ext (by with_reducible repeat (first | exact Ext.refl _ | apply Ext.drew | apply Ext.alloc | apply Ext.more_)))).mono ?_); rintro e w' ⟨rfl, hb⟩; obtain ⟨os1, d1, rfl⟩ := hb.more; clear hb) | ((with_reducible refine (ht2 _ (HT.out.ext (by with_reducible repeat (first | exact Ext.refl _ | apply Ext.drew | apply Ext.alloc | apply Ext.more_)))).mono ?_); rintro e w' ⟨rfl, hb⟩; obtain ⟨os2, d2, rfl⟩ := hb.more; clear hb)) | (go_at_call 121; (with_reducible refine (hbad _).mono ?_); rintro e w' ⟨rfl, hb⟩; obtain ⟨os, d, rfl⟩ := hb.more; clear hb))
      exact bodyPost_ret (v := VV 4 0 0 ⟨#[]⟩ false (badF f)) (by simp [results, Tryz.results107, go_sem]) rfl ⟨rfl, by with_reducible repeat (first | exact Ext.refl _ | apply Ext.drew | apply Ext.alloc | apply Ext.more_)⟩
  · obtain rfl : z = bad_ (ttF x) := by rw [← hz]; unfold joinV; simp [h1]
    have hbad := fun W => bad_any (ttF x) W
    have q0 : (ttF x != 0) = true := by simpa using h1
    generalize ttF x = f at *
    generalize ttS x = tx at *
    generalize ttS y = ty at *
    simp only [bad_, badV]
    clear h1 hz hx hy
    generalize x.kind = xk at *; generalize x.mant = xm at *; generalize x.exp = xe at *; generalize x.text = xt at *; generalize x.truth = xb at *; generalize x.fault = xf at *
    generalize y.kind = yk at *; generalize y.mant = ym at *; generalize y.exp = ye at *; generalize y.text = yt at *; generalize y.truth = yb at *; generalize y.fault = yf at *
    go_enter Tryz.func107, Tryz.ntmps107
    go_wp2_with (first | (go_at_call 234; first | ((with_reducible refine (ht1 _ (HT.out.ext (by with_reducible repeat (first | exact Ext.refl _ | apply Ext.drew | apply Ext.alloc | apply Ext.more_)))).mono ?_); rintro e w' ⟨rfl, hb⟩; obtain ⟨os1, d1, rfl⟩ := hb.more; clear hb) | ((with_reducible refine (ht2 _ (HT.out.ext (by with_reducible repeat (first | exact Ext.refl _ | apply Ext.drew | apply Ext.alloc | apply Ext.more_)))).mono ?_); rintro e w' ⟨rfl, hb⟩; obtain ⟨os2, d2, rfl⟩ := hb.more; clear hb)) | (go_at_call 121; (with_reducible refine (hbad _).mono ?_); rintro e w' ⟨rfl, hb⟩; obtain ⟨os, d, rfl⟩ := hb.more; clear hb))
    exact bodyPost_ret (v := VV 4 0 0 ⟨#[]⟩ false (badF f)) (by simp [results, Tryz.results107, go_sem]) rfl ⟨rfl, by with_reducible repeat (first | exact Ext.refl _ | apply Ext.drew | apply Ext.alloc | apply Ext.more_)⟩
end Go.Proofs.YteecmifjbeojeaaGreatDoor
namespace Go.Proofs.YteecmifjbeojeaaGreatDoor
open Go.RowKit
def commonO (R C R' C' : Nat) : Option (Nat × Nat) := if max R R' * max C C' ≤ 4096 then some (max R R', max C C') else none
theorem common_at {R C R' C' x y : Nat} {k : Bool} (M N : Nat) (hM : M = max R R') (hN : N = max C C') (h1 : 1 ≤ M) (h2 : 1 ≤ N) (hx : ((commonO R C R' C').getD (0, 0)) = (x, y)) (hk : (commonO R C R' C').isSome = k) {fb : Bool} (hfb : fitsB M N = fb) : x = (if fb then M else 0) ∧ y = (if fb then N else 0) ∧ k = fb := by
  subst hM hN
  unfold commonO at hx hk
  by_cases h : max R R' * max C C' ≤ 4096
  · rw [if_pos h] at hx hk
    have : fb = true := by rw [← hfb]; exact fits_nat.2 ⟨h1, h2, h⟩
    subst this
    simp only [Option.getD_some, Prod.mk.injEq, Option.isSome_some] at hx hk
    exact ⟨hx.1.symm, hx.2.symm, hk.symm⟩
  · rw [if_neg h] at hx hk
    have : fb = false := by rw [← hfb]; exact fits_no h1 h2 h
    subst this
    simp only [Option.getD_none, Prod.mk.injEq, Option.isSome_none] at hx hk
    exact ⟨hx.1.symm, hx.2.symm, hk.symm⟩
set_option maxHeartbeats 800000 in
theorem common_c (R C R' C' : Nat) (A B : Option Addr) (n cap n' cap' : Nat) (l l' : List Val) (w : World) (h : ArrIn w A n cap l) (h' : ArrIn w B n' cap' l') (hr : rightA R C l = true) (hr' : rightA R' C' l' = true) (x y : Nat) (k : Bool) (hx : ((commonO R C R' C').getD (0, 0)) = (x, y)) (hk : (commonO R C R' C').isSome = k) :
    Calls Tryz.prog 116 #[AV R C (.slice A n cap), AV R' C' (.slice B n' cap')] w fun e w' => e = .returned (.tuple #[.int .i64 x, .int .i64 y, .bool k]) ∧ Ext w w' := by
  obtain ⟨r1, r2, r3, r4, r5, r6⟩ := right_bd hr
  obtain ⟨s1, s2, s3, s4, s5, s6⟩ := right_bd hr'
  clear r4 s4
  have HX := Lib.hid hx
  have HK := Lib.hid hk
  clear hx hk
  go_enter Tryz.func116, Tryz.ntmps116
  go_wp2_with fail
  refine (right_any _ _ _ _ _ _ _ (h.ext (by repeat (first | (with_reducible (first | exact Ext.refl _ | exact hX | exact ext_d _ _ _ _ | exact ext_app _ _ _ _ _)) | ((with_reducible refine ext_suffix ⟨_, ?_⟩); (try simp only [Array.append_assoc]); rfl) | (with_reducible (first | apply Ext.drew | apply Ext.alloc | apply Ext.more_)))))).mono ?_; rintro e w' ⟨rfl, hb⟩; obtain ⟨os1, d1, rfl⟩ := hb.more; clear hb
  go_wp2_with fail
  refine (right_any _ _ _ _ _ _ _ (h'.ext (by repeat (first | (with_reducible (first | exact Ext.refl _ | exact hX | exact ext_d _ _ _ _ | exact ext_app _ _ _ _ _)) | ((with_reducible refine ext_suffix ⟨_, ?_⟩); (try simp only [Array.append_assoc]); rfl) | (with_reducible (first | apply Ext.drew | apply Ext.alloc | apply Ext.more_)))))).mono ?_; rintro e w' ⟨rfl, hb⟩; obtain ⟨os2, d2, rfl⟩ := hb.more; clear hb
  go_wp2_with fail
  refine wp_plan (S := Ext _) [(0, 0), (1, 0), (2, 0), (3, 0), (4, 0), (5, 0), (6, 0), (7, 0), (8, 0), (9, 0), (10, 0), (11, 0)] [] (by kernel_rfl) (by kernel_rfl) (by kernel_rfl) (fun _ _ d _ _ h => by cases d <;> exact h) (Ext.drew (Ext.refl _)) ?_
  iterate 12 ((refine wpPl_read (v := ?_) rfl ?_ (fun _ h => ?_) ?_; rotate_left 1; rfl; (obtain ⟨_, _, rfl⟩ := h.more; go_simp; try rfl)); try simp only [Act.put, zqA, zqB, zqC])
  refine wpPl_nil ?_
  go_wp2_with fail
  all_goals
    (try simp only [show (max (R : Int) R') = ((max R R' : Nat) : Int) by omega, show (max (C : Int) C') = ((max C C' : Nat) : Int) by omega])
    refine (fits_any _ _ _).mono ?_
    rintro e w' ⟨rfl, rfl⟩
    generalize hfb : fitsB _ _ = fb
    obtain ⟨e1, e2, e3⟩ := common_at _ _ (by omega) (by omega) (by omega) (by omega) HX.out HK.out hfb
    subst e1 e2 e3
    clear HX HK hfb
    cases k
    · go_wp2
      go_ret3
      exact ⟨rfl, by repeat (first | (with_reducible (first | exact Ext.refl _ | exact hX | exact ext_d _ _ _ _ | exact ext_app _ _ _ _ _)) | ((with_reducible refine ext_suffix ⟨_, ?_⟩); (try simp only [Array.append_assoc]); rfl) | (with_reducible (first | apply Ext.drew | apply Ext.alloc | apply Ext.more_)))⟩
    · go_wp2
      go_ret3
      exact ⟨rfl, by repeat (first | (with_reducible (first | exact Ext.refl _ | exact hX | exact ext_d _ _ _ _ | exact ext_app _ _ _ _ _)) | ((with_reducible refine ext_suffix ⟨_, ?_⟩); (try simp only [Array.append_assoc]); rfl) | (with_reducible (first | apply Ext.drew | apply Ext.alloc | apply Ext.more_)))⟩
end Go.Proofs.YteecmifjbeojeaaGreatDoor
namespace Go.Proofs.YteecmifjbeojeaaGreatDoor
open Go.RowKit
def spI (R i : Nat) : Nat := if R = 1 then 0 else i
def spreadO (R C : Nat) (l : List Val) (i j : Nat) : Option Val := if spI R i < R ∧ spI C j < C then some (getV l (spI R i * C + spI C j)) else none
def orZero (o : Option Val) : Val := o.getD Val.zero
/-- The value at a place of the array, by the place that counts there. -/
def atO (R C : Nat) (l : List Val) (si sj : Nat) : Option Val := if si < R ∧ sj < C then some (getV l (si * C + sj)) else none
set_option maxHeartbeats 800000 in
theorem spread_at (R C i j si sj : Nat) (A : Option Addr) (n cap : Nat) (l : List Val) (w : World) (h : ArrIn w A n cap l) (hn : n = R * C) (hN : n ≤ 4096) (hi : ((R : Int) == 1) = true ∧ si = 0 ∨ ((R : Int) == 1) = false ∧ si = i) (hj : ((C : Int) == 1) = true ∧ sj = 0 ∨ ((C : Int) == 1) = false ∧ sj = j) (x : Val) (k : Bool) (hx0 : orZero (atO R C l si sj) = x) (hk0 : (atO R C l si sj).isSome = k) :
    Calls Tryz.prog 120 #[AV R C (.slice A n cap), .int .i64 i, .int .i64 j] w fun e w' => e = .returned (.tuple #[VV x.kind x.mant x.exp x.text x.truth x.fault, .bool k]) ∧ Ext w w' := by
  by_cases hh : si < R ∧ sj < C
  · have hx : getV l (si * C + sj) = x := by rw [← hx0]; simp [atO, hh, orZero]
    have hk1 : k = true := by rw [← hk0]; simp [atO, hh]
    subst hk1
    clear hx0 hk0
    obtain ⟨hk, hk2⟩ := cell_prod R hh.1 hh.2 (by omega)
    have hB : hasB R C si sj = true := hasB_iff.2 (by omega)
    subst hn
    obtain ⟨b, off, rfl, hv, ho⟩ := h.get hk
    rw [hx] at hv
    clear hx ho hh
    have w1 : IntKind.i64.wrap ((si : Int) * (C : Int)) = ((si * C : Nat) : Int) := by rw [IntKind.wrap_i64, Int.natCast_mul]; omega
    have hbl : b < w.heap.size := hv.lt
    rcases hi with ⟨hi, rfl⟩ | ⟨hi, rfl⟩ <;> rcases hj with ⟨hj, rfl⟩ | ⟨hj, rfl⟩
    all_goals
      (try simp only [Int.natCast_zero] at hB w1)
      (try simp only [Nat.zero_mul, Nat.zero_add, Nat.add_zero] at hv hk w1)
      obtain ⟨v0, v1, v2, v3, v4, v5⟩ := hv
      generalize hrc : R * C = rc at *
      clear hrc
      (try (generalize hjc : si * C = jc at *; clear hjc))
      go_enter Tryz.func120, Tryz.ntmps120
      go_wp2_with (go_at_call 239; refine (has_any _ _ _ _ _ _ rfl).mono ?_; rintro e w' ⟨rfl, hb⟩; obtain ⟨os1, d1, rfl⟩ := hb.more; clear hb)
      exact bodyPost_ret (v := .tuple #[VV x.kind x.mant x.exp x.text x.truth x.fault, .bool true]) (by simp [results, Tryz.results120, go_sem]) rfl ⟨rfl, by repeat (first | (with_reducible (first | exact Ext.refl _ | exact hX | exact ext_d _ _ _ _ | exact ext_app _ _ _ _ _)) | ((with_reducible refine ext_suffix ⟨_, ?_⟩); (try simp only [Array.append_assoc]); rfl) | (with_reducible (first | apply Ext.drew | apply Ext.alloc | apply Ext.more_)))⟩
  · have hB : hasB R C si sj = false := hasB_no (by omega)
    have hx : x = Val.zero := by rw [← hx0]; simp [atO, hh, orZero]
    have hk1 : k = false := by rw [← hk0]; simp [atO, hh]
    subst hk1 hx
    clear hx0 hk0 hh hn
    rcases hi with ⟨hi, rfl⟩ | ⟨hi, rfl⟩ <;> rcases hj with ⟨hj, rfl⟩ | ⟨hj, rfl⟩
    all_goals
      (try simp only [Int.natCast_zero] at hB)
      go_enter Tryz.func120, Tryz.ntmps120
      go_wp2_with (go_at_call 239; refine (has_any _ _ _ _ _ _ rfl).mono ?_; rintro e w' ⟨rfl, hb⟩; obtain ⟨os1, d1, rfl⟩ := hb.more; clear hb)
      exact bodyPost_ret (v := .tuple #[VV 0 0 0 ⟨#[]⟩ false 0, .bool false]) (by simp [results, Tryz.results120, go_sem]) rfl ⟨rfl, by repeat (first | (with_reducible (first | exact Ext.refl _ | exact hX | exact ext_d _ _ _ _ | exact ext_app _ _ _ _ _)) | ((with_reducible refine ext_suffix ⟨_, ?_⟩); (try simp only [Array.append_assoc]); rfl) | (with_reducible (first | apply Ext.drew | apply Ext.alloc | apply Ext.more_)))⟩
theorem spI_c (R i : Nat) : ((R : Int) == 1) = true ∧ spI R i = 0 ∨ ((R : Int) == 1) = false ∧ spI R i = i := by
  unfold spI
  by_cases h : R = 1
  · left; simp [h]
  · right; simp [h]; omega
theorem spread_c (R C i j : Nat) (A : Option Addr) (n cap : Nat) (l : List Val) (w : World) (h : ArrIn w A n cap l) (hn : n = R * C) (hN : n ≤ 4096) (x : Val) (k : Bool) (hx : orZero (spreadO R C l i j) = x) (hk : (spreadO R C l i j).isSome = k) :
    Calls Tryz.prog 120 #[AV R C (.slice A n cap), .int .i64 i, .int .i64 j] w fun e w' => e = .returned (.tuple #[VV x.kind x.mant x.exp x.text x.truth x.fault, .bool k]) ∧ Ext w w' :=
  spread_at R C i j _ _ A n cap l w h hn hN (spI_c R i) (spI_c C j) x k hx hk
theorem spread_all {P : Val → Prop} {R C i j : Nat} {l : List Val} {x : Val} (hl : l.length = R * C) (ho : ∀ y ∈ l, P y) (h : spreadO R C l i j = some x) : P x := by
  unfold spreadO at h
  split at h
  · rename_i hh
    obtain rfl := Option.some.inj h
    refine getV_all ho ?_
    rw [hl]
    calc spI R i * C + spI C j < spI R i * C + C := by omega
      _ = (spI R i + 1) * C := by rw [Nat.succ_mul]
      _ ≤ R * C := Nat.mul_le_mul_right _ hh.1
  · cases h
theorem spread_ok {R C i j : Nat} {l : List Val} {x : Val} (hl : l.length = R * C) (ho : ∀ y ∈ l, y.ok) (h : spreadO R C l i j = some x) : x.ok := spread_all hl ho h
end Go.Proofs.YteecmifjbeojeaaGreatDoor
namespace Go.Proofs.YteecmifjbeojeaaGreatDoor
open Go.RowKit
/-- A function of two values that keeps a state: how often it was asked. -/
structure FSpec2 (fid : FuncId) (capt : Array Value) (t : Val → Val → Val) (base lo pa : Nat) (J : Nat → World → Prop) : Prop where
  ext : ∀ k W W', Ext W W' → J k W → J k W'
  keep : ∀ k W W', Keep (lo - 3) W W' → J k W → J k W'
  call : ∀ k x y W0 W, J k W0 → Ext W0 W → lo ≤ W0.heap.size → x.ok → y.ok → valRight x = true → valRight y = true → k < 4096 →
    Calls Tryz.prog fid (#[VV x.kind x.mant x.exp x.text x.truth x.fault, VV y.kind y.mant y.exp y.text y.truth y.fault] ++ capt) W fun e W' => e = .returned (VV (t x y).kind (t x y).mant (t x y).exp (t x y).text (t x y).truth (t x y).fault) ∧ (∀ W'', Aside W0.heap.size W.heap.size W' W'' → J (k + 1) W'') ∧ Still lo pa W0 W W'
  ok : ∀ x y, x.ok → y.ok → valRight x = true → valRight y = true → (t x y).ok
  far : ∀ k W (p : Addr) v, base ≤ p.block → p.block < lo → J k W → J k (W.setCell p v)
def bothV (t : Val → Val → Val) (oa ob : Option Val) : Val := match oa, ob with
  | some x, some y => oneV (t x y)
  | _, _ => badV 6
def bothN (oa ob : Option Val) : Nat := if oa.isSome && ob.isSome then 1 else 0
theorem func_nil2 (fid : FuncId) (capt : Array Value) (W : World) : (binOp .eql 70 (.func (.func fid) #[] capt) .nilFunc).run Tryz.prog W = .ok (.bool false) W := by
  first
  | kernel_rfl
  | rfl
set_option maxHeartbeats 1000000 in
theorem both1_none (R C R' C' i j n cap n' cap' pA pB pf : Nat) (A B : Option Addr) (l l' : List Val) (W : World) (hA : ABox pA R C A n cap W) (hB : ABox pB R' C' B n' cap' W) (h : ArrIn W A n cap l) (h' : ArrIn W B n' cap' l') (hn : n = R * C) (hn' : n' = R' * C') (hN : n ≤ 4096) (hN' : n' ≤ 4096) (hno : (spreadO R C l i j = none ∨ spreadO R' C' l' i j = none)) :
    Calls Tryz.prog 119 #[.int .i64 i, .int .i64 j, .pointer (some ⟨pA, 0, none⟩), .pointer (some ⟨pB, 0, none⟩), .pointer (some ⟨pf, 0, none⟩)] W fun e W' => e = .returned (VV 4 0 0 ⟨#[]⟩ false 6) ∧ Ext W W' := by
  obtain ⟨p0, p1, p2, p3⟩ := hA
  obtain ⟨q0, q1, q2, q3⟩ := hB
  have hb6 : badF 6 = 6 := by decide
  have HN := Lib.hid hn
  have HN' := Lib.hid hn'
  clear hn hn'
  generalize hx : orZero (spreadO R C l i j) = x
  generalize hy : orZero (spreadO R' C' l' i j) = y
  cases hka : (spreadO R C l i j).isSome
  · go_enter Tryz.func119, Tryz.ntmps119
    have HX := Lib.hid (And.intro hx hka)
    have HY := Lib.hid hy
    clear hx hy hka
    generalize hkb : (spreadO R' C' l' i j).isSome = kb
    have HK := Lib.hid hkb
    clear hkb hno
    go_wp2_with fail
    refine (spread_c R C i j A n cap l _ (h.ext (by repeat (first | (with_reducible (first | exact Ext.refl _ | exact hX | exact ext_d _ _ _ _ | exact ext_app _ _ _ _ _)) | ((with_reducible refine ext_suffix ⟨_, ?_⟩); (try simp only [Array.append_assoc]); rfl) | (with_reducible (first | apply Ext.drew | apply Ext.alloc | apply Ext.more_))))) HN.out hN x false HX.out.1 HX.out.2).mono ?_; rintro e w' ⟨rfl, hb⟩; obtain ⟨os1, d1, rfl⟩ := hb.more; clear hb
    go_wp2_with fail
    refine (spread_c R' C' i j B n' cap' l' _ (h'.ext (by repeat (first | (with_reducible (first | exact Ext.refl _ | exact hX | exact ext_d _ _ _ _ | exact ext_app _ _ _ _ _)) | ((with_reducible refine ext_suffix ⟨_, ?_⟩); (try simp only [Array.append_assoc]); rfl) | (with_reducible (first | apply Ext.drew | apply Ext.alloc | apply Ext.more_))))) HN'.out hN' y kb HY.out HK.out).mono ?_; rintro e w' ⟨rfl, hb⟩; obtain ⟨os2, d2, rfl⟩ := hb.more; clear hb
    go_wp2_with (go_at_call 121; refine (bad_any _ _).mono ?_; rintro e w' ⟨rfl, hb⟩; obtain ⟨os3, d3, rfl⟩ := hb.more; clear hb)
    exact bodyPost_ret (v := VV 4 0 0 ⟨#[]⟩ false 6) (by simp [results, Tryz.results119, go_sem]) rfl ⟨rfl, by repeat (first | (with_reducible (first | exact Ext.refl _ | exact hX | exact ext_d _ _ _ _ | exact ext_app _ _ _ _ _)) | ((with_reducible refine ext_suffix ⟨_, ?_⟩); (try simp only [Array.append_assoc]); rfl) | (with_reducible (first | apply Ext.drew | apply Ext.alloc | apply Ext.more_)))⟩
  · have hkb : (spreadO R' C' l' i j).isSome = false := by
      rcases hno with e | e
      · rw [e] at hka; cases hka
      · rw [e]; rfl
    go_enter Tryz.func119, Tryz.ntmps119
    have HX := Lib.hid (And.intro hx hka)
    have HY := Lib.hid (And.intro hy hkb)
    clear hx hy hka hkb hno
    go_wp2_with fail
    refine (spread_c R C i j A n cap l _ (h.ext (by repeat (first | (with_reducible (first | exact Ext.refl _ | exact hX | exact ext_d _ _ _ _ | exact ext_app _ _ _ _ _)) | ((with_reducible refine ext_suffix ⟨_, ?_⟩); (try simp only [Array.append_assoc]); rfl) | (with_reducible (first | apply Ext.drew | apply Ext.alloc | apply Ext.more_))))) HN.out hN x true HX.out.1 HX.out.2).mono ?_; rintro e w' ⟨rfl, hb⟩; obtain ⟨os1, d1, rfl⟩ := hb.more; clear hb
    go_wp2_with fail
    refine (spread_c R' C' i j B n' cap' l' _ (h'.ext (by repeat (first | (with_reducible (first | exact Ext.refl _ | exact hX | exact ext_d _ _ _ _ | exact ext_app _ _ _ _ _)) | ((with_reducible refine ext_suffix ⟨_, ?_⟩); (try simp only [Array.append_assoc]); rfl) | (with_reducible (first | apply Ext.drew | apply Ext.alloc | apply Ext.more_))))) HN'.out hN' y false HY.out.1 HY.out.2).mono ?_; rintro e w' ⟨rfl, hb⟩; obtain ⟨os2, d2, rfl⟩ := hb.more; clear hb
    go_wp2_with (go_at_call 121; refine (bad_any _ _).mono ?_; rintro e w' ⟨rfl, hb⟩; obtain ⟨os3, d3, rfl⟩ := hb.more; clear hb)
    exact bodyPost_ret (v := VV 4 0 0 ⟨#[]⟩ false 6) (by simp [results, Tryz.results119, go_sem]) rfl ⟨rfl, by repeat (first | (with_reducible (first | exact Ext.refl _ | exact hX | exact ext_d _ _ _ _ | exact ext_app _ _ _ _ _)) | ((with_reducible refine ext_suffix ⟨_, ?_⟩); (try simp only [Array.append_assoc]); rfl) | (with_reducible (first | apply Ext.drew | apply Ext.alloc | apply Ext.more_)))⟩
set_option maxHeartbeats 1000000 in
theorem both1_some (fid : FuncId) (capt : Array Value) (t : Val → Val → Val) (base s0 pa : Nat) (J : Nat → World → Prop) (spec : FSpec2 fid capt t base (s0 + 3) pa J) (hent : ∀ (args : Array Value) (W : World), (callFunc fid args).run Tryz.prog W = .ok (.enter fid args) W)
    (R C R' C' i j n cap n' cap' pA pB pf k : Nat) (A B : Option Addr) (l l' : List Val) (x y : Val) (W : World) (hA : ABox pA R C A n cap W) (hB : ABox pB R' C' B n' cap' W) (hf : W.cell? ⟨pf, 0, none⟩ = some (.func (.func fid) #[] capt)) (h : ArrIn W A n cap l) (h' : ArrIn W B n' cap' l') (hn : n = R * C) (hn' : n' = R' * C') (hN : n ≤ 4096) (hN' : n' ≤ 4096)
    (hJ : J k W) (hs : s0 + 3 ≤ W.heap.size) (hk : k < 4096) (ha : spreadO R C l i j = some x) (hb : spreadO R' C' l' i j = some y) (hxo : x.ok) (hyo : y.ok) (hxr : valRight x = true) (hyr : valRight y = true) :
    Calls Tryz.prog 119 #[.int .i64 i, .int .i64 j, .pointer (some ⟨pA, 0, none⟩), .pointer (some ⟨pB, 0, none⟩), .pointer (some ⟨pf, 0, none⟩)] W fun e W' => e = .returned (VV (oneV (t x y)).kind (oneV (t x y)).mant (oneV (t x y)).exp (oneV (t x y)).text (oneV (t x y)).truth (oneV (t x y)).fault) ∧ J (k + 1) W' ∧ Still (s0 + 3) pa W W W' := by
  obtain ⟨p0, p1, p2, p3⟩ := hA
  obtain ⟨q0, q1, q2, q3⟩ := hB
  have z0 := lt_of_cell hf
  have hnn := func_nil2 fid capt
  have HN := Lib.hid hn
  have HN' := Lib.hid hn'
  have HX : Hid (orZero (spreadO R C l i j) = x ∧ (spreadO R C l i j).isSome = true) := by rw [ha]; exact ⟨rfl, rfl⟩
  have HY : Hid (orZero (spreadO R' C' l' i j) = y ∧ (spreadO R' C' l' i j).isSome = true) := by rw [hb]; exact ⟨rfl, rfl⟩
  clear hn hn' ha hb
  have HC := Lib.hid (spec.call k x y W)
  have hok := spec.ok x y hxo hyo hxr hyr
  generalize hz : oneV (t x y) = z
  have HZ := Lib.hid hz
  clear hz
  go_enter Tryz.func119, Tryz.ntmps119
  go_wp2_with fail
  refine (spread_c R C i j A n cap l _ (h.ext (by repeat (first | (with_reducible (first | exact Ext.refl _ | exact hX | exact ext_d _ _ _ _ | exact ext_app _ _ _ _ _)) | ((with_reducible refine ext_suffix ⟨_, ?_⟩); (try simp only [Array.append_assoc]); rfl) | (with_reducible (first | apply Ext.drew | apply Ext.alloc | apply Ext.more_))))) HN.out hN x true HX.out.1 HX.out.2).mono ?_; rintro e w' ⟨rfl, hb⟩; obtain ⟨os1, d1, rfl⟩ := hb.more; clear hb
  go_wp2_with fail
  refine (spread_c R' C' i j B n' cap' l' _ (h'.ext (by repeat (first | (with_reducible (first | exact Ext.refl _ | exact hX | exact ext_d _ _ _ _ | exact ext_app _ _ _ _ _)) | ((with_reducible refine ext_suffix ⟨_, ?_⟩); (try simp only [Array.append_assoc]); rfl) | (with_reducible (first | apply Ext.drew | apply Ext.alloc | apply Ext.more_))))) HN'.out hN' y true HY.out.1 HY.out.2).mono ?_; rintro e w' ⟨rfl, hb⟩; obtain ⟨os2, d2, rfl⟩ := hb.more; clear hb
  go_wp2_with fail
  refine calls_world fun W5 hW5 => ?_
  have hX : Ext W W5 := by rw [hW5]; exact by repeat (first | (with_reducible (first | exact Ext.refl _ | exact hX | exact ext_d _ _ _ _ | exact ext_app _ _ _ _ _)) | ((with_reducible refine ext_suffix ⟨_, ?_⟩); (try simp only [Array.append_assoc]); rfl) | (with_reducible (first | apply Ext.drew | apply Ext.alloc | apply Ext.more_)))
  have hr5 : W5.heap[W.heap.size]? = some (.cells #[.int .i64 0, .int .i64 0, .int .i64 0, .string ⟨#[]⟩, .bool false, .int .i64 0] 31) := by
    rw [hW5]
    exact ((by repeat (first | (with_reducible (first | exact Ext.refl _ | exact hX | exact ext_d _ _ _ _ | exact ext_app _ _ _ _ _)) | ((with_reducible refine ext_suffix ⟨_, ?_⟩); (try simp only [Array.append_assoc]); rfl) | (with_reducible (first | apply Ext.drew | apply Ext.alloc | apply Ext.more_))) : Ext (W.alloc (.cells #[.int .i64 0, .int .i64 0, .int .i64 0, .string ⟨#[]⟩, .bool false, .int .i64 0] 31)) _).block (by simp)).trans (heap_alloc_new _ _)
  clear hW5
  have hz5 := lt_of_block hr5
  refine (HC.out W5 hJ hX hs hxo hyo hxr hyr hk).mono ?_
  rintro e w1' ⟨rfl, hJ1, hst⟩
  have hr : w1'.heap[W.heap.size]? = some (.cells #[.int .i64 0, .int .i64 0, .int .i64 0, .string ⟨#[]⟩, .bool false, .int .i64 0] 31) := (hst.block W.heap.size hz5 (.inr (Nat.le_refl _))).trans hr5
  have hz : W.heap.size < w1'.heap.size := lt_of_block hr
  have u0 := cell_of_row _ _ 0 _ _ _ hr
  have u1 := cell_of_row _ _ 1 _ _ _ hr
  have u2 := cell_of_row _ _ 2 _ _ _ hr
  have u3 := cell_of_row _ _ 3 _ _ _ hr
  have u4 := cell_of_row _ _ 4 _ _ _ hr
  have u5 := cell_of_row _ _ 5 _ _ _ hr
  have f0 := frozen_of_row _ _ 0 _ _ hr
  have f1 := frozen_of_row _ _ 1 _ _ hr
  have f2 := frozen_of_row _ _ 2 _ _ hr
  have f3 := frozen_of_row _ _ 3 _ _ hr
  have f4 := frozen_of_row _ _ 4 _ _ hr
  have f5 := frozen_of_row _ _ 5 _ _ hr
  clear hr hr5
  go_wp2_with fail
  refine (sound_any _ _ _ _ _ _ _ hok.2.1 hok.2.2.2.1 z HZ.out).mono ?_
  rintro e w' ⟨rfl, hb⟩
  obtain ⟨os5, d5, rfl⟩ := hb.more
  clear hb
  go_wp2
  refine bodyPost_ret (v := VV z.kind z.mant z.exp z.text z.truth z.fault) (by simp [results, Tryz.results119, go_sem, u0, u1, u2, u3, u4, u5, hz]) rfl ⟨rfl, ?_, ?_⟩
  · have h1 : W.heap.size ≤ W.heap.size := Nat.le_refl _
    exact hJ1 _ (((((((Aside.set _ _ h1 hz5).trans (Aside.set _ _ h1 hz5)).trans (Aside.set _ _ h1 hz5)).trans (Aside.set _ _ h1 hz5)).trans (Aside.set _ _ h1 hz5)).trans (Aside.set _ _ h1 hz5)).trans (Aside.of_ext (by repeat (first | (with_reducible (first | exact Ext.refl _ | exact hX | exact ext_d _ _ _ _ | exact ext_app _ _ _ _ _)) | ((with_reducible refine ext_suffix ⟨_, ?_⟩); (try simp only [Array.append_assoc]); rfl) | (with_reducible (first | apply Ext.drew | apply Ext.alloc | apply Ext.more_))))))
  · have hq : W.heap.size ≤ W.heap.size := Nat.le_refl _
    exact (((((((Still.trans (Still.of_ext hX) hst).set _ hq).set _ hq).set _ hq).set _ hq).set _ hq).set _ hq).trans (Still.of_ext (by repeat (first | (with_reducible (first | exact Ext.refl _ | exact hX | exact ext_d _ _ _ _ | exact ext_app _ _ _ _ _)) | ((with_reducible refine ext_suffix ⟨_, ?_⟩); (try simp only [Array.append_assoc]); rfl) | (with_reducible (first | apply Ext.drew | apply Ext.alloc | apply Ext.more_)))))
end Go.Proofs.YteecmifjbeojeaaGreatDoor
namespace Go.Proofs.YteecmifjbeojeaaGreatDoor
open Go.RowKit
def cntB (g : Nat → Nat → Nat) (C k : Nat) : Nat := ((List.range k).map fun t => g (t / C) (t % C)).sum
theorem cntB_succ (g : Nat → Nat → Nat) (C i j : Nat) (hj : j < C) : cntB g C (i * C + j + 1) = cntB g C (i * C + j) + g i j := by
  unfold cntB
  rw [List.range_succ, List.map_append, List.sum_append]
  have h1 : (i * C + j) / C = i := by rw [Nat.add_comm, Nat.add_mul_div_right _ _ (by omega), Nat.div_eq_of_lt hj]; omega
  have h2 : (i * C + j) % C = j := by rw [Nat.add_comm, Nat.add_mul_mod_self_right, Nat.mod_eq_of_lt hj]
  simp [h1, h2]
theorem cntB_le {g : Nat → Nat → Nat} (hg : ∀ i j, g i j ≤ 1) (C : Nat) : ∀ k, cntB g C k ≤ k
  | 0 => by simp [cntB]
  | k + 1 => by
    have ih := cntB_le hg C k
    unfold cntB at *
    rw [List.range_succ, List.map_append, List.sum_append]
    have := hg (k / C) (k % C)
    simp
    omega
theorem bothN_le (a b : Option Val) : bothN a b ≤ 1 := by unfold bothN; split <;> omega
theorem ABox.of_block {pb : Nat} {r c : Int} {A : Option Addr} {n cap : Nat} {W : World} (h : W.heap[pb]? = some (.cells #[.int .i64 r, .int .i64 c, .slice A n cap] 35)) : ABox pb r c A n cap W :=
  ⟨lt_of_block h, cell_of_row _ _ 0 _ _ _ h, cell_of_row _ _ 1 _ _ _ h, cell_of_row _ _ 2 _ _ _ h⟩
def bothG (R C : Nat) (l : List Val) (R' C' : Nat) (l' : List Val) (i j : Nat) : Nat := bothN (spreadO R C l i j) (spreadO R' C' l' i j)
def bothL (t : Val → Val → Val) (R C : Nat) (l : List Val) (R' C' : Nat) (l' : List Val) : List Val := vals (fun i j => bothV t (spreadO R C l i j) (spreadO R' C' l' i j)) (max C C') (max R R' * max C C')
set_option maxHeartbeats 2000000 in
theorem both_yes (R C R' C' n cap n' cap' pa : Nat) (A B : Option Addr) (l l' : List Val) (fid : FuncId) (capt : Array Value) (t : Val → Val → Val) (Js : Nat → Nat → World → Prop) (w : World) (h : ArrIn w A n cap l) (h' : ArrIn w B n' cap' l') (hr : rightA R C l = true) (hr' : rightA R' C' l' = true) (hf : max R R' * max C C' ≤ 4096) (hpa : pa < w.heap.size) (hA : ∀ b off, A = some ⟨b, off, none⟩ → b ≠ pa) (hB : ∀ b off, B = some ⟨b, off, none⟩ → b ≠ pa)
    (hent : ∀ (args : Array Value) (W : World), (callFunc fid args).run Tryz.prog W = .ok (.enter fid args) W) (spec : ∀ s0, w.heap.size ≤ s0 → FSpec2 fid capt t w.heap.size (s0 + 3) pa (Js s0)) (hJ0 : ∀ s0, w.heap.size ≤ s0 → Js s0 0 w) :
    Calls Tryz.prog 42 #[AV R C (.slice A n cap), AV R' C' (.slice B n' cap'), .func (.func fid) #[] capt] w fun e w' => ∃ D c s0, e = .returned (AV (max R R' : Nat) (max C C' : Nat) (.slice D (max R R' * max C C') c)) ∧ SlV w.heap.size w' D (bothL t R C l R' C' l') ∧ max R R' * max C C' ≤ c ∧ w.heap.size ≤ s0 ∧ Js s0 (cntB (bothG R C l R' C' l') (max C C') (max R R' * max C C')) w' ∧ ExtBut pa w w' := by
  obtain ⟨r1, r2, r3, r4, r5, r6⟩ := right_bd hr
  obtain ⟨s1, s2, s3, s4, s5, s6⟩ := right_bd hr'
  have HRR := Lib.hid (And.intro (rightA_nat.1 hr).2.2.2.2 (rightA_nat.1 hr').2.2.2.2)
  have hln := h.len
  have hln' := h'.len
  have HN := Lib.hid (And.intro (show n = R * C by omega) (show n' = R' * C' by omega))
  have hN : n ≤ 4096 := by omega
  have hN' : n' ≤ 4096 := by omega
  have HL := Lib.hid (And.intro r4 s4)
  have HCM : Hid ((commonO R C R' C').getD (0, 0) = (max R R', max C C') ∧ (commonO R C R' C').isSome = true) := by show _ ∧ _; simp [commonO, hf]
  unfold bothL
  have hm1 : 1 ≤ max R R' := by omega
  have hm2 : 1 ≤ max C C' := by omega
  have hm3 : max R R' ≤ 4096 := by omega
  have hm4 : max C C' ≤ 4096 := by omega
  generalize max R R' = M at *
  generalize max C C' = N at *
  clear r3 r4 s3 s4 hln hln'
  have HS := Lib.hid spec
  have HJ := Lib.hid hJ0
  have HA := Lib.hid (And.intro hA hB)
  clear spec hJ0 hA hB
  go_enter Tryz.func42, Tryz.ntmps42
  go_wp2_with fail
  refine (right_any _ _ _ _ _ _ _ (h.ext (by repeat (first | (with_reducible (first | exact Ext.refl _ | exact hX | exact ext_d _ _ _ _ | exact ext_app _ _ _ _ _)) | ((with_reducible refine ext_suffix ⟨_, ?_⟩); (try simp only [Array.append_assoc]); rfl) | (with_reducible (first | apply Ext.drew | apply Ext.alloc | apply Ext.more_)))))).mono ?_; rintro e w' ⟨rfl, hb⟩; obtain ⟨os1, d1, rfl⟩ := hb.more; clear hb
  go_wp2_with fail
  refine (right_any _ _ _ _ _ _ _ (h'.ext (by repeat (first | (with_reducible (first | exact Ext.refl _ | exact hX | exact ext_d _ _ _ _ | exact ext_app _ _ _ _ _)) | ((with_reducible refine ext_suffix ⟨_, ?_⟩); (try simp only [Array.append_assoc]); rfl) | (with_reducible (first | apply Ext.drew | apply Ext.alloc | apply Ext.more_)))))).mono ?_; rintro e w' ⟨rfl, hb⟩; obtain ⟨os2, d2, rfl⟩ := hb.more; clear hb
  go_wp2_with fail
  refine (common_c R C R' C' _ _ _ _ _ _ l l' _ (h.ext (by repeat (first | (with_reducible (first | exact Ext.refl _ | exact hX | exact ext_d _ _ _ _ | exact ext_app _ _ _ _ _)) | ((with_reducible refine ext_suffix ⟨_, ?_⟩); (try simp only [Array.append_assoc]); rfl) | (with_reducible (first | apply Ext.drew | apply Ext.alloc | apply Ext.more_))))) (h'.ext (by repeat (first | (with_reducible (first | exact Ext.refl _ | exact hX | exact ext_d _ _ _ _ | exact ext_app _ _ _ _ _)) | ((with_reducible refine ext_suffix ⟨_, ?_⟩); (try simp only [Array.append_assoc]); rfl) | (with_reducible (first | apply Ext.drew | apply Ext.alloc | apply Ext.more_))))) hr hr' M N true HCM.out.1 HCM.out.2).mono ?_; rintro e w' ⟨rfl, hb⟩; obtain ⟨os3, d3, rfl⟩ := hb.more; clear hb
  go_wp2_with fail
  refine calls_world fun W hW => ?_
  have hX : Ext w W := by rw [hW]; exact by repeat (first | (with_reducible (first | exact Ext.refl _ | exact hX | exact ext_d _ _ _ _ | exact ext_app _ _ _ _ _)) | ((with_reducible refine ext_suffix ⟨_, ?_⟩); (try simp only [Array.append_assoc]); rfl) | (with_reducible (first | apply Ext.drew | apply Ext.alloc | apply Ext.more_)))
  have hbx : W.heap[w.heap.size]? = some (.cells #[.int .i64 R, .int .i64 C, .slice A n cap] 35) := by
    rw [hW, (ext_more _ _ _).block (by first | (simp; done) | (simp; omega) | omega), Below.heap_alloc _ _ _ (by first | (simp; done) | (simp; omega) | omega), Below.heap_alloc _ _ _ (by first | (simp; done) | (simp; omega) | omega), Below.heap_alloc _ _ _ (by first | (simp; done) | (simp; omega) | omega)]
    exact heap_alloc_new _ _
  have hby : W.heap[w.heap.size + 1]? = some (.cells #[.int .i64 R', .int .i64 C', .slice B n' cap'] 35) := by
    rw [hW, (ext_more _ _ _).block (by first | (simp; done) | (simp; omega) | omega), Below.heap_alloc _ _ _ (by first | (simp; done) | (simp; omega) | omega), Below.heap_alloc _ _ _ (by first | (simp; done) | (simp; omega) | omega)]
    have := heap_alloc_new (w.alloc (.cells #[.int .i64 R, .int .i64 C, .slice A n cap] 35)) (.cells #[.int .i64 R', .int .i64 C', .slice B n' cap'] 35)
    simpa using this
  have hfx : W.heap[w.heap.size + 1 + 1]? = some (.cells #[.func (.func fid) #[] capt] 70) := by
    rw [hW, (ext_more _ _ _).block (by first | (simp; done) | (simp; omega) | omega), Below.heap_alloc _ _ _ (by first | (simp; done) | (simp; omega) | omega)]
    have := heap_alloc_new ((w.alloc (.cells #[.int .i64 R, .int .i64 C, .slice A n cap] 35)).alloc (.cells #[.int .i64 R', .int .i64 C', .slice B n' cap'] 35)) (.cells #[.func (.func fid) #[] capt] 70)
    simpa using this
  have hrx : W.heap[w.heap.size + 1 + 1 + 1]? = some (.cells #[.int .i64 0, .int .i64 0, .slice none 0 0] 35) := by
    rw [hW, (ext_more _ _ _).block (by first | (simp; done) | (simp; omega) | omega)]
    have := heap_alloc_new (((w.alloc (.cells #[.int .i64 R, .int .i64 C, .slice A n cap] 35)).alloc (.cells #[.int .i64 R', .int .i64 C', .slice B n' cap'] 35)).alloc (.cells #[.func (.func fid) #[] capt] 70)) (.cells #[.int .i64 0, .int .i64 0, .slice none 0 0] 35)
    simpa using this
  clear hW
  have hws := hX.size
  have sp := HS.out W.heap.size hws
  have z0 := lt_of_block hrx
  refine (build_any M N 119 #[.pointer (some ⟨w.heap.size, 0, none⟩), .pointer (some ⟨w.heap.size + 1, 0, none⟩), .pointer (some ⟨w.heap.size + 1 + 1, 0, none⟩)] (fun i j => bothV t (spreadO R C l i j) (spreadO R' C' l' i j)) W (fun k V => Js W.heap.size (cntB (bothG R C l R' C' l') N k) V ∧ ExtBut pa W V) hm1 hm2 hf hm3 hm4 (fun _ _ => by kernel_rfl) ⟨?_, ?_⟩ ?_ ?_).mono ?_
  · exact sp.ext _ _ _ hX (HJ.out _ hws)
  · exact ExtBut.of_ext (Ext.refl _)
  · rintro k V V' hk ⟨g1, g2⟩
    refine ⟨sp.keep _ _ _ (by simpa using hk) g1, hk.os.trans g2.os, hk.tape.trans g2.tape, hk.output.trans g2.output, Nat.le_trans g2.size hk.size, fun b hb hne => ?_⟩
    exact (hk.block b (Nat.lt_of_lt_of_le hb g2.size) (by omega) (by omega) (by omega)).trans (g2.block b hb hne)
  · rintro i j V hi hj ⟨g1, g2⟩ hsz
    have hkk := cell_prod M hi hj hf
    have hcl := cntB_le (g := bothG R C l R' C' l') (fun _ _ => bothN_le _ _) N (i * N + j)
    have cA := ABox.of_block ((g2.block w.heap.size (by omega) (by omega)).trans hbx)
    have cB := ABox.of_block ((g2.block (w.heap.size + 1) (by omega) (by omega)).trans hby)
    have cF := cell_of_row _ _ 0 _ _ _ ((g2.block (w.heap.size + 1 + 1) (by omega) (by omega)).trans hfx)
    have aA := (h.ext hX).but g2 HA.out.1
    have aB := (h'.ext hX).but g2 HA.out.2
    have fin : ∀ V', Js W.heap.size (cntB (bothG R C l R' C' l') N (i * N + j) + bothG R C l R' C' l' i j) V' → Still (W.heap.size + 3) pa V V V' → (Js W.heap.size (cntB (bothG R C l R' C' l') N (i * N + j + 1)) V' ∧ ExtBut pa W V') ∧ Leaves W.heap.size V V' := by
      intro V' hJ1 hst
      refine ⟨⟨by rw [cntB_succ _ _ _ _ hj]; exact hJ1, ⟨hst.os.trans g2.os, hst.tape.trans g2.tape, hst.output.trans g2.output, Nat.le_trans g2.size hst.size, fun b' hb' hne => (hst.block b' (Nat.lt_of_lt_of_le hb' g2.size) (.inl ⟨by omega, hne⟩)).trans (g2.block b' hb' hne)⟩⟩, ?_⟩
      exact ⟨hst.size, hst.block _ (by omega) (.inl ⟨by omega, by omega⟩), hst.block _ (by omega) (.inl ⟨by omega, by omega⟩), hst.block _ (by omega) (.inl ⟨by omega, by omega⟩)⟩
    have non : (spreadO R C l i j = none ∨ spreadO R' C' l' i j = none) → bothV t (spreadO R C l i j) (spreadO R' C' l' i j) = badV 6 ∧ bothG R C l R' C' l' i j = 0 := by
      intro hno
      unfold bothG bothN bothV
      rcases hno with e | e
      · rw [e]; simp
      · rw [e]; cases spreadO R C l i j <;> simp
    have nonc : (spreadO R C l i j = none ∨ spreadO R' C' l' i j = none) → Calls Tryz.prog 119 (#[.int .i64 i, .int .i64 j] ++ #[.pointer (some ⟨w.heap.size, 0, none⟩), .pointer (some ⟨w.heap.size + 1, 0, none⟩), .pointer (some ⟨w.heap.size + 1 + 1, 0, none⟩)]) V fun e W' => e = .returned (VV (bothV t (spreadO R C l i j) (spreadO R' C' l' i j)).kind (bothV t (spreadO R C l i j) (spreadO R' C' l' i j)).mant (bothV t (spreadO R C l i j) (spreadO R' C' l' i j)).exp (bothV t (spreadO R C l i j) (spreadO R' C' l' i j)).text (bothV t (spreadO R C l i j) (spreadO R' C' l' i j)).truth (bothV t (spreadO R C l i j) (spreadO R' C' l' i j)).fault) ∧ (Js W.heap.size (cntB (bothG R C l R' C' l') N (i * N + j + 1)) W' ∧ ExtBut pa W W') ∧ Leaves W.heap.size V W' := by
      intro hno
      obtain ⟨e1, e2⟩ := non hno
      refine (both1_none R C R' C' i j n cap n' cap' w.heap.size (w.heap.size + 1) (w.heap.size + 1 + 1) A B l l' V cA cB aA aB HN.out.1 HN.out.2 hN hN' hno).mono ?_
      rintro e V' ⟨rfl, hxx⟩
      rw [e1]
      exact ⟨rfl, fin V' (by rw [e2]; exact sp.ext _ _ _ hxx g1) (Still.of_ext hxx)⟩
    cases ha : spreadO R C l i j with
    | none => rw [← ha]; exact nonc (.inl ha)
    | some x =>
      cases hb : spreadO R' C' l' i j with
      | none => rw [← ha, ← hb]; exact nonc (.inr hb)
      | some y =>
        refine (both1_some fid capt t w.heap.size W.heap.size pa (Js W.heap.size) sp hent R C R' C' i j n cap n' cap' w.heap.size (w.heap.size + 1) (w.heap.size + 1 + 1) (cntB (bothG R C l R' C' l') N (i * N + j)) A B l l' x y V cA cB cF aA aB HN.out.1 HN.out.2 hN hN' g1 hsz (by omega) ha hb (spread_ok HL.out.1 h.ok ha) (spread_ok HL.out.2 h'.ok hb) (spread_all HL.out.1 HRR.out.1 ha) (spread_all HL.out.2 HRR.out.2 hb)).mono ?_
        rintro e V' ⟨he, hJ1, hst⟩
        have e2 : bothG R C l R' C' l' i j = 1 := by unfold bothG bothN; rw [ha, hb]; rfl
        exact ⟨he, fin V' (by rw [e2]; exact hJ1) hst⟩
  rintro e w' ⟨D, c, rfl, hs, hc, g1, g2⟩
  have hr1 : w'.heap[w.heap.size + 1 + 1 + 1]? = some (.cells #[.int .i64 0, .int .i64 0, .slice none 0 0] 35) := (g2.block _ (by omega) (by omega)).trans hrx
  have q0 := cell_of_row _ _ 0 _ _ _ hr1
  have q1 := cell_of_row _ _ 1 _ _ _ hr1
  have q2 := cell_of_row _ _ 2 _ _ _ hr1
  have f0 := frozen_of_row _ _ 0 _ _ hr1
  have f1 := frozen_of_row _ _ 1 _ _ hr1
  have f2 := frozen_of_row _ _ 2 _ _ hr1
  have hg2 := Lib.hid g2
  clear g2 hbx hby hfx hrx
  go_wp2
  refine bodyPost_ret (v := AV M N (.slice D (M * N) c)) (by simp [results, Tryz.results42, go_sem, q0, q1, q2]) rfl ⟨D, c, W.heap.size, rfl, ?_, hc, hws, ?_, ?_⟩
  · exact Rd.mono (((hs.set_far _ (by simp; omega)).set_far _ (by simp; omega)).set_far _ (by simp; omega)) (by omega)
  · exact sp.far _ _ _ _ (by simp only; omega) (by simp only; omega) (sp.far _ _ _ _ (by simp only; omega) (by simp only; omega) (sp.far _ _ _ _ (by simp only; omega) (by simp only; omega) g1))
  · exact ((((ExtBut.of_ext hX).trans hg2.out).set _ (by simp only; omega)).set _ (by simp only; omega)).set _ (by simp only; omega)
end Go.Proofs.YteecmifjbeojeaaGreatDoor
namespace Go.Proofs.YteecmifjbeojeaaGreatDoor
open Go.RowKit
set_option maxHeartbeats 800000 in
theorem both_no (fid : FuncId) (capt : Array Value) (r c r' c' : Int) (A B : Option Addr) (n cap n' cap' : Nat) (l l' : List Val) (w : World) (h : ArrIn w A n cap l) (h' : ArrIn w B n' cap' l') (hr : (rightA r c l && rightA r' c' l') = false) : Calls Tryz.prog 42 #[AV r c (.slice A n cap), AV r' c' (.slice B n' cap'), .func (.func fid) #[] capt] w fun e w' => ArrO w.heap.size w' e 1 1 [bad9] ∧ Ext w w' := by (by_cases h1 : rightA r c l = true); (focus (have h2 : rightA r' c' l' = false := (by simpa [h1] using hr)); clear hr; go_enter Tryz.func42, Tryz.ntmps42; go_wp2_with fail; refine (right_any _ _ _ _ _ _ _ (h.ext (by repeat (first | (with_reducible (first | exact Ext.refl _ | exact hX | exact ext_d _ _ _ _ | exact ext_app _ _ _ _ _)) | ((with_reducible refine ext_suffix ⟨_, ?_⟩); (try simp only [Array.append_assoc]); rfl) | (with_reducible (first | apply Ext.drew | apply Ext.alloc | apply Ext.more_)))))).mono ?_; rintro e w' ⟨rfl, hb⟩; obtain ⟨os1, d1, rfl⟩ := hb.more; clear hb; go_wp2_with fail; refine (right_any _ _ _ _ _ _ _ (h'.ext (by repeat (first | (with_reducible (first | exact Ext.refl _ | exact hX | exact ext_d _ _ _ _ | exact ext_app _ _ _ _ _)) | ((with_reducible refine ext_suffix ⟨_, ?_⟩); (try simp only [Array.append_assoc]); rfl) | (with_reducible (first | apply Ext.drew | apply Ext.alloc | apply Ext.more_)))))).mono ?_; rintro e w' ⟨rfl, hb⟩; obtain ⟨os2, d2, rfl⟩ := hb.more; clear hb; go_wp2_with fail; refine (broken_any _).mono ?_; rintro e w' ⟨⟨D, cc, rfl, hs, hc⟩, hb⟩; obtain ⟨os9, d9, rfl⟩ := hb.more; clear hb; go_wp2; exact bodyPost_ret (v := AV 1 1 (.slice D 1 cc)) (by simp [results, Tryz.results42, go_sem]) rfl ⟨⟨_, _, rfl, (by (try simp only [more_more] at hs); (try simp only [drew_more] at hs); (try simp only [more_drew] at hs); (try simp only [Array.append_assoc] at hs); exact Rd.swap hs (by first | (simp; done) | (simp; omega) | omega) (by first | (simp; done) | (simp; omega) | omega) (by first | (simp; done) | (simp; omega) | omega)), hc⟩, by repeat (first | (with_reducible (first | exact Ext.refl _ | exact hX | exact ext_d _ _ _ _ | exact ext_app _ _ _ _ _)) | ((with_reducible refine ext_suffix ⟨_, ?_⟩); (try simp only [Array.append_assoc]); rfl) | (with_reducible (first | apply Ext.drew | apply Ext.alloc | apply Ext.more_)))⟩); (have h1' : rightA r c l = false := (by simpa using h1)); clear hr h1; go_enter Tryz.func42, Tryz.ntmps42; go_wp2_with fail; refine (right_any _ _ _ _ _ _ _ (h.ext (by repeat (first | (with_reducible (first | exact Ext.refl _ | exact hX | exact ext_d _ _ _ _ | exact ext_app _ _ _ _ _)) | ((with_reducible refine ext_suffix ⟨_, ?_⟩); (try simp only [Array.append_assoc]); rfl) | (with_reducible (first | apply Ext.drew | apply Ext.alloc | apply Ext.more_)))))).mono ?_; rintro e w' ⟨rfl, hb⟩; obtain ⟨os1, d1, rfl⟩ := hb.more; clear hb; go_wp2_with fail; refine (broken_any _).mono ?_; rintro e w' ⟨⟨D, cc, rfl, hs, hc⟩, hb⟩; obtain ⟨os9, d9, rfl⟩ := hb.more; clear hb; go_wp2; exact bodyPost_ret (v := AV 1 1 (.slice D 1 cc)) (by simp [results, Tryz.results42, go_sem]) rfl ⟨⟨_, _, rfl, (by (try simp only [more_more] at hs); (try simp only [drew_more] at hs); (try simp only [more_drew] at hs); (try simp only [Array.append_assoc] at hs); exact Rd.swap hs (by first | (simp; done) | (simp; omega) | omega) (by first | (simp; done) | (simp; omega) | omega) (by first | (simp; done) | (simp; omega) | omega)), hc⟩, by repeat (first | (with_reducible (first | exact Ext.refl _ | exact hX | exact ext_d _ _ _ _ | exact ext_app _ _ _ _ _)) | ((with_reducible refine ext_suffix ⟨_, ?_⟩); (try simp only [Array.append_assoc]); rfl) | (with_reducible (first | apply Ext.drew | apply Ext.alloc | apply Ext.more_)))⟩
set_option maxHeartbeats 800000 in
theorem both_great (fid : FuncId) (capt : Array Value) (R C R' C' : Nat) (A B : Option Addr) (n cap n' cap' : Nat) (l l' : List Val) (w : World) (h : ArrIn w A n cap l) (h' : ArrIn w B n' cap' l') (hr : rightA R C l = true) (hr' : rightA R' C' l' = true) (hf : ¬ max R R' * max C C' ≤ 4096) : Calls Tryz.prog 42 #[AV R C (.slice A n cap), AV R' C' (.slice B n' cap'), .func (.func fid) #[] capt] w fun e w' => ArrO w.heap.size w' e 1 1 [badV 5] ∧ Ext w w' := by (have HCM : Hid ((commonO R C R' C').getD (0, 0) = (0, 0) ∧ (commonO R C R' C').isSome = false) := (by show _ ∧ _; simp [commonO, hf])); clear hf; go_enter Tryz.func42, Tryz.ntmps42; go_wp2_with fail; refine (right_any _ _ _ _ _ _ _ (h.ext (by repeat (first | (with_reducible (first | exact Ext.refl _ | exact hX | exact ext_d _ _ _ _ | exact ext_app _ _ _ _ _)) | ((with_reducible refine ext_suffix ⟨_, ?_⟩); (try simp only [Array.append_assoc]); rfl) | (with_reducible (first | apply Ext.drew | apply Ext.alloc | apply Ext.more_)))))).mono ?_; rintro e w' ⟨rfl, hb⟩; obtain ⟨os1, d1, rfl⟩ := hb.more; clear hb; go_wp2_with fail; refine (right_any _ _ _ _ _ _ _ (h'.ext (by repeat (first | (with_reducible (first | exact Ext.refl _ | exact hX | exact ext_d _ _ _ _ | exact ext_app _ _ _ _ _)) | ((with_reducible refine ext_suffix ⟨_, ?_⟩); (try simp only [Array.append_assoc]); rfl) | (with_reducible (first | apply Ext.drew | apply Ext.alloc | apply Ext.more_)))))).mono ?_; rintro e w' ⟨rfl, hb⟩; obtain ⟨os2, d2, rfl⟩ := hb.more; clear hb; go_wp2_with fail; refine (common_c R C R' C' _ _ _ _ _ _ l l' _ (h.ext (by repeat (first | (with_reducible (first | exact Ext.refl _ | exact hX | exact ext_d _ _ _ _ | exact ext_app _ _ _ _ _)) | ((with_reducible refine ext_suffix ⟨_, ?_⟩); (try simp only [Array.append_assoc]); rfl) | (with_reducible (first | apply Ext.drew | apply Ext.alloc | apply Ext.more_))))) (h'.ext (by repeat (first | (with_reducible (first | exact Ext.refl _ | exact hX | exact ext_d _ _ _ _ | exact ext_app _ _ _ _ _)) | ((with_reducible refine ext_suffix ⟨_, ?_⟩); (try simp only [Array.append_assoc]); rfl) | (with_reducible (first | apply Ext.drew | apply Ext.alloc | apply Ext.more_))))) hr hr' 0 0 false HCM.out.1 HCM.out.2).mono ?_; rintro e w' ⟨rfl, hb⟩; obtain ⟨os3, d3, rfl⟩ := hb.more; clear hb; go_wp2_with fail; refine (tooGreat_any _).mono ?_; rintro e w' ⟨⟨D, cc, rfl, hs, hc⟩, hb⟩; obtain ⟨os9, d9, rfl⟩ := hb.more; clear hb; go_wp2; exact bodyPost_ret (v := AV 1 1 (.slice D 1 cc)) (by simp [results, Tryz.results42, go_sem]) rfl ⟨⟨_, _, rfl, (by (try simp only [more_more] at hs); (try simp only [drew_more] at hs); (try simp only [more_drew] at hs); (try simp only [Array.append_assoc] at hs); exact Rd.swap hs (by first | (simp; done) | (simp; omega) | omega) (by first | (simp; done) | (simp; omega) | omega) (by first | (simp; done) | (simp; omega) | omega)), hc⟩, by repeat (first | (with_reducible (first | exact Ext.refl _ | exact hX | exact ext_d _ _ _ _ | exact ext_app _ _ _ _ _)) | ((with_reducible refine ext_suffix ⟨_, ?_⟩); (try simp only [Array.append_assoc]); rfl) | (with_reducible (first | apply Ext.drew | apply Ext.alloc | apply Ext.more_)))⟩
/-- What Both comes to. -/
def bothRes (t : Val → Val → Val) (r c : Int) (l : List Val) (r' c' : Int) (l' : List Val) : NA :=
  if rightA r c l && rightA r' c' l' then
    if max r.toNat r'.toNat * max c.toNat c'.toNat ≤ 4096 then ⟨max r.toNat r'.toNat, max c.toNat c'.toNat, bothL t r.toNat c.toNat l r'.toNat c'.toNat l'⟩ else ⟨1, 1, [badV 5]⟩
  else ⟨1, 1, [bad9]⟩
theorem bothL_ok {t : Val → Val → Val} (ht : ∀ x y, x.ok → y.ok → valRight x = true → valRight y = true → (t x y).ok) {R C R' C' : Nat} {l l' : List Val} (hl : l.length = R * C) (hl' : l'.length = R' * C') (h : ∀ x ∈ l, x.ok) (h' : ∀ x ∈ l', x.ok) (g : ∀ x ∈ l, valRight x = true) (g' : ∀ x ∈ l', valRight x = true) : ∀ x ∈ bothL t R C l R' C' l', x.ok := by
  intro x hx
  obtain ⟨i, j, rfl⟩ := vals_mem hx
  unfold bothV
  split
  · rename_i x y e1 e2
    exact oneV_ok (ht _ _ (spread_ok hl h e1) (spread_ok hl' h' e2) (spread_all hl g e1) (spread_all hl' g' e2)) _ (by simp)
  · exact badV_ok 6 I64_6
theorem bothL_length (t : Val → Val → Val) (R C : Nat) (l : List Val) (R' C' : Nat) (l' : List Val) : (bothL t R C l R' C' l').length = max R R' * max C C' := vals_length _ _ _
end Go.Proofs.YteecmifjbeojeaaGreatDoor
namespace Go.Proofs.YteecmifjbeojeaaGreatDoor
open Go.RowKit NM
theorem is_eq (n : Int) (w : World) :
    Calls Tryz.prog 109 #[.int .i64 n] w fun e w' => e = .returned (.bool (Sg.pred .eq n)) ∧ Ext w w' := by
  show Calls _ _ _ _ fun e w' => e = .returned (.bool (n == 0)) ∧ Ext w w'
  go_enter Tryz.func109, Tryz.ntmps109
  go_wp2_with fail
  go_ret
  exact ⟨rfl, Ext.refl _⟩
set_option maxHeartbeats 1000000 in
theorem hold_eq (x y : Val) (pb : Nat) (w : World) (hx : x.ok) (hy : y.ok) (hc : w.cell? ⟨pb, 0, none⟩ = some (.func (.func 109) #[] #[])) (z : Val) (hz : holdV (Sg.pred .eq) x y = z) :
    Calls Tryz.prog 236 #[VV x.kind x.mant x.exp x.text x.truth x.fault, VV y.kind y.mant y.exp y.text y.truth y.fault, .pointer (some ⟨pb, 0, none⟩)] w fun e w' => e = .returned (VV z.kind z.mant z.exp z.text z.truth z.fault) ∧ Ext w w' := by
  have hpb := lt_of_cell hc
  have hcm := fun W => vcmp_any x y W hx hy
  have htr := fun b W => truth_any b W
  have his := fun W => is_eq (cmpV x y) W
  by_cases h1 : x.kind = 4
  · obtain rfl : z = x := by rw [← hz]; unfold holdV; simp [h1]
    have q1 : (z.kind == 4) = true := by simp [h1]
    clear h1 hz hx hy his hcm htr
    generalize z.kind = xk at *; generalize z.mant = xm at *; generalize z.exp = xe at *; generalize z.text = xt at *; generalize z.truth = xb at *; generalize z.fault = xf at *
    generalize y.kind = yk at *; generalize y.mant = ym at *; generalize y.exp = ye at *; generalize y.text = yt at *; generalize y.truth = yb at *; generalize y.fault = yf at *
    go_enter Tryz.func236, Tryz.ntmps236
    go_wp2_with fail
    exact bodyPost_ret (v := VV xk xm xe xt xb xf) (by simp [results, Tryz.results236, go_sem]) rfl ⟨rfl, by with_reducible repeat (first | exact Ext.refl _ | apply Ext.drew | apply Ext.alloc | apply Ext.more_)⟩
  · have q1 : (x.kind == 4) = false := by simp [h1]
    by_cases h2 : y.kind = 4
    · obtain rfl : z = y := by rw [← hz]; unfold holdV; simp [h1, h2]
      have q2 : (z.kind == 4) = true := by simp [h2]
      clear h1 h2 hz hx hy his hcm htr
      generalize x.kind = xk at *; generalize x.mant = xm at *; generalize x.exp = xe at *; generalize x.text = xt at *; generalize x.truth = xb at *; generalize x.fault = xf at *
      generalize z.kind = yk at *; generalize z.mant = ym at *; generalize z.exp = ye at *; generalize z.text = yt at *; generalize z.truth = yb at *; generalize z.fault = yf at *
      go_enter Tryz.func236, Tryz.ntmps236
      go_wp2_with fail
      exact bodyPost_ret (v := VV yk ym ye yt yb yf) (by simp [results, Tryz.results236, go_sem]) rfl ⟨rfl, by with_reducible repeat (first | exact Ext.refl _ | apply Ext.drew | apply Ext.alloc | apply Ext.more_)⟩
    · obtain rfl : z = truthV (Sg.pred .eq (cmpV x y)) := by rw [← hz]; unfold holdV; simp [h1, h2]
      have q2 : (y.kind == 4) = false := by simp [h2]
      clear h1 h2 hz hx hy
      simp only [truthV]
      generalize cmpV x y = n at *
      generalize Sg.pred .eq n = r at *
      generalize x.kind = xk at *; generalize x.mant = xm at *; generalize x.exp = xe at *; generalize x.text = xt at *; generalize x.truth = xb at *; generalize x.fault = xf at *
      generalize y.kind = yk at *; generalize y.mant = ym at *; generalize y.exp = ye at *; generalize y.text = yt at *; generalize y.truth = yb at *; generalize y.fault = yf at *
      go_enter Tryz.func236, Tryz.ntmps236
      go_upto_region 5 with fail
      refine wp_plan (S := Ext _) [(0, 0), (1, 0), (2, 0), (3, 1), (4, 1), (5, 1), (6, 2)] [6] (by kernel_rfl) (by kernel_rfl) (by kernel_rfl) (fun _ _ d _ _ h => by cases d <;> exact h) (Ext.drew (Ext.refl _)) ?_
      iterate 3 ((refine wpPl_read (v := ?_) rfl ?_ (fun _ h => ?_) ?_; rotate_left 1; rfl; (obtain ⟨_, _, rfl⟩ := h.more; go_simp; try rfl)); try simp only [Act.put, zqA, zqB, zqC])
      (refine wpPl_eff rfl ?_ (fun K hK => ?_); rfl; go_simp; refine (hcm _).mono ?_; rintro e w' ⟨rfl, hb⟩; obtain ⟨os1, d1, rfl⟩ := hb.more; clear hb; refine hK _ _ ?_ ?_; (repeat (first | (with_reducible (first | exact Ext.refl _ | exact ext_d _ _ _ _ | exact ext_app _ _ _ _ _ | exact ext_app2 _ _ _ _ _ _ | exact ext_app3 _ _ _ _ _ _ _ | exact ext_app4 _ _ _ _ _ _ _ _ | exact ext_app5 _ _ _ _ _ _ _ _ _)) | ((with_reducible refine ext_suffix ⟨_, ?_⟩); (try simp only [Array.append_assoc]); rfl) | (with_reducible (first | apply Ext.drew | apply Ext.alloc | apply Ext.more_)) | apply Ext.drew | apply Ext.alloc | apply Ext.more_)))
      try simp only [Act.put, zqA, zqB, zqC]
      (refine wpPl_eff rfl ?_ (fun K hK => ?_); rfl; go_simp; refine (his _).mono ?_; rintro e w' ⟨rfl, hb⟩; obtain ⟨os2, d2, rfl⟩ := hb.more; clear hb; refine hK _ _ ?_ ?_; (repeat (first | (with_reducible (first | exact Ext.refl _ | exact ext_d _ _ _ _ | exact ext_app _ _ _ _ _ | exact ext_app2 _ _ _ _ _ _ | exact ext_app3 _ _ _ _ _ _ _ | exact ext_app4 _ _ _ _ _ _ _ _ | exact ext_app5 _ _ _ _ _ _ _ _ _)) | ((with_reducible refine ext_suffix ⟨_, ?_⟩); (try simp only [Array.append_assoc]); rfl) | (with_reducible (first | apply Ext.drew | apply Ext.alloc | apply Ext.more_)) | apply Ext.drew | apply Ext.alloc | apply Ext.more_)))
      try simp only [Act.put, zqA, zqB, zqC]
      (refine wpPl_eff rfl ?_ (fun K hK => ?_); rfl; go_simp; refine (htr _ _).mono ?_; rintro e w' ⟨rfl, hb⟩; obtain ⟨os3, d3, rfl⟩ := hb.more; clear hb; refine hK _ _ ?_ ?_; (repeat (first | (with_reducible (first | exact Ext.refl _ | exact ext_d _ _ _ _ | exact ext_app _ _ _ _ _ | exact ext_app2 _ _ _ _ _ _ | exact ext_app3 _ _ _ _ _ _ _ | exact ext_app4 _ _ _ _ _ _ _ _ | exact ext_app5 _ _ _ _ _ _ _ _ _)) | ((with_reducible refine ext_suffix ⟨_, ?_⟩); (try simp only [Array.append_assoc]); rfl) | (with_reducible (first | apply Ext.drew | apply Ext.alloc | apply Ext.more_)) | apply Ext.drew | apply Ext.alloc | apply Ext.more_)))
      try simp only [Act.put, zqA, zqB, zqC]
      (refine wpPl_tail rfl ?_ (fun K hK => ?_); rfl; go_simp; refine hK _ _ ?_)
      try simp only [Act.put]
      refine wpPl_nil ?_
      go_wp2_with fail
      exact bodyPost_ret (v := VV 3 0 0 ⟨#[]⟩ r 0) (by simp [results, Tryz.results236, go_sem]) rfl ⟨rfl, by with_reducible repeat (first | exact Ext.refl _ | apply Ext.drew | apply Ext.alloc | apply Ext.more_)⟩
theorem is_ne (n : Int) (w : World) :
    Calls Tryz.prog 110 #[.int .i64 n] w fun e w' => e = .returned (.bool (Sg.pred .ne n)) ∧ Ext w w' := by
  show Calls _ _ _ _ fun e w' => e = .returned (.bool (n != 0)) ∧ Ext w w'
  go_enter Tryz.func110, Tryz.ntmps110
  go_wp2_with fail
  go_ret
  exact ⟨rfl, Ext.refl _⟩
set_option maxHeartbeats 1000000 in
theorem hold_ne (x y : Val) (pb : Nat) (w : World) (hx : x.ok) (hy : y.ok) (hc : w.cell? ⟨pb, 0, none⟩ = some (.func (.func 110) #[] #[])) (z : Val) (hz : holdV (Sg.pred .ne) x y = z) :
    Calls Tryz.prog 236 #[VV x.kind x.mant x.exp x.text x.truth x.fault, VV y.kind y.mant y.exp y.text y.truth y.fault, .pointer (some ⟨pb, 0, none⟩)] w fun e w' => e = .returned (VV z.kind z.mant z.exp z.text z.truth z.fault) ∧ Ext w w' := by
  have hpb := lt_of_cell hc
  have hcm := fun W => vcmp_any x y W hx hy
  have htr := fun b W => truth_any b W
  have his := fun W => is_ne (cmpV x y) W
  by_cases h1 : x.kind = 4
  · obtain rfl : z = x := by rw [← hz]; unfold holdV; simp [h1]
    have q1 : (z.kind == 4) = true := by simp [h1]
    clear h1 hz hx hy his hcm htr
    generalize z.kind = xk at *; generalize z.mant = xm at *; generalize z.exp = xe at *; generalize z.text = xt at *; generalize z.truth = xb at *; generalize z.fault = xf at *
    generalize y.kind = yk at *; generalize y.mant = ym at *; generalize y.exp = ye at *; generalize y.text = yt at *; generalize y.truth = yb at *; generalize y.fault = yf at *
    go_enter Tryz.func236, Tryz.ntmps236
    go_wp2_with fail
    exact bodyPost_ret (v := VV xk xm xe xt xb xf) (by simp [results, Tryz.results236, go_sem]) rfl ⟨rfl, by with_reducible repeat (first | exact Ext.refl _ | apply Ext.drew | apply Ext.alloc | apply Ext.more_)⟩
  · have q1 : (x.kind == 4) = false := by simp [h1]
    by_cases h2 : y.kind = 4
    · obtain rfl : z = y := by rw [← hz]; unfold holdV; simp [h1, h2]
      have q2 : (z.kind == 4) = true := by simp [h2]
      clear h1 h2 hz hx hy his hcm htr
      generalize x.kind = xk at *; generalize x.mant = xm at *; generalize x.exp = xe at *; generalize x.text = xt at *; generalize x.truth = xb at *; generalize x.fault = xf at *
      generalize z.kind = yk at *; generalize z.mant = ym at *; generalize z.exp = ye at *; generalize z.text = yt at *; generalize z.truth = yb at *; generalize z.fault = yf at *
      go_enter Tryz.func236, Tryz.ntmps236
      go_wp2_with fail
      exact bodyPost_ret (v := VV yk ym ye yt yb yf) (by simp [results, Tryz.results236, go_sem]) rfl ⟨rfl, by with_reducible repeat (first | exact Ext.refl _ | apply Ext.drew | apply Ext.alloc | apply Ext.more_)⟩
    · obtain rfl : z = truthV (Sg.pred .ne (cmpV x y)) := by rw [← hz]; unfold holdV; simp [h1, h2]
      have q2 : (y.kind == 4) = false := by simp [h2]
      clear h1 h2 hz hx hy
      simp only [truthV]
      generalize cmpV x y = n at *
      generalize Sg.pred .ne n = r at *
      generalize x.kind = xk at *; generalize x.mant = xm at *; generalize x.exp = xe at *; generalize x.text = xt at *; generalize x.truth = xb at *; generalize x.fault = xf at *
      generalize y.kind = yk at *; generalize y.mant = ym at *; generalize y.exp = ye at *; generalize y.text = yt at *; generalize y.truth = yb at *; generalize y.fault = yf at *
      go_enter Tryz.func236, Tryz.ntmps236
      go_upto_region 5 with fail
      refine wp_plan (S := Ext _) [(0, 0), (1, 0), (2, 0), (3, 1), (4, 1), (5, 1), (6, 2)] [6] (by kernel_rfl) (by kernel_rfl) (by kernel_rfl) (fun _ _ d _ _ h => by cases d <;> exact h) (Ext.drew (Ext.refl _)) ?_
      iterate 3 ((refine wpPl_read (v := ?_) rfl ?_ (fun _ h => ?_) ?_; rotate_left 1; rfl; (obtain ⟨_, _, rfl⟩ := h.more; go_simp; try rfl)); try simp only [Act.put, zqA, zqB, zqC])
      (refine wpPl_eff rfl ?_ (fun K hK => ?_); rfl; go_simp; refine (hcm _).mono ?_; rintro e w' ⟨rfl, hb⟩; obtain ⟨os1, d1, rfl⟩ := hb.more; clear hb; refine hK _ _ ?_ ?_; (repeat (first | (with_reducible (first | exact Ext.refl _ | exact ext_d _ _ _ _ | exact ext_app _ _ _ _ _ | exact ext_app2 _ _ _ _ _ _ | exact ext_app3 _ _ _ _ _ _ _ | exact ext_app4 _ _ _ _ _ _ _ _ | exact ext_app5 _ _ _ _ _ _ _ _ _)) | ((with_reducible refine ext_suffix ⟨_, ?_⟩); (try simp only [Array.append_assoc]); rfl) | (with_reducible (first | apply Ext.drew | apply Ext.alloc | apply Ext.more_)) | apply Ext.drew | apply Ext.alloc | apply Ext.more_)))
      try simp only [Act.put, zqA, zqB, zqC]
      (refine wpPl_eff rfl ?_ (fun K hK => ?_); rfl; go_simp; refine (his _).mono ?_; rintro e w' ⟨rfl, hb⟩; obtain ⟨os2, d2, rfl⟩ := hb.more; clear hb; refine hK _ _ ?_ ?_; (repeat (first | (with_reducible (first | exact Ext.refl _ | exact ext_d _ _ _ _ | exact ext_app _ _ _ _ _ | exact ext_app2 _ _ _ _ _ _ | exact ext_app3 _ _ _ _ _ _ _ | exact ext_app4 _ _ _ _ _ _ _ _ | exact ext_app5 _ _ _ _ _ _ _ _ _)) | ((with_reducible refine ext_suffix ⟨_, ?_⟩); (try simp only [Array.append_assoc]); rfl) | (with_reducible (first | apply Ext.drew | apply Ext.alloc | apply Ext.more_)) | apply Ext.drew | apply Ext.alloc | apply Ext.more_)))
      try simp only [Act.put, zqA, zqB, zqC]
      (refine wpPl_eff rfl ?_ (fun K hK => ?_); rfl; go_simp; refine (htr _ _).mono ?_; rintro e w' ⟨rfl, hb⟩; obtain ⟨os3, d3, rfl⟩ := hb.more; clear hb; refine hK _ _ ?_ ?_; (repeat (first | (with_reducible (first | exact Ext.refl _ | exact ext_d _ _ _ _ | exact ext_app _ _ _ _ _ | exact ext_app2 _ _ _ _ _ _ | exact ext_app3 _ _ _ _ _ _ _ | exact ext_app4 _ _ _ _ _ _ _ _ | exact ext_app5 _ _ _ _ _ _ _ _ _)) | ((with_reducible refine ext_suffix ⟨_, ?_⟩); (try simp only [Array.append_assoc]); rfl) | (with_reducible (first | apply Ext.drew | apply Ext.alloc | apply Ext.more_)) | apply Ext.drew | apply Ext.alloc | apply Ext.more_)))
      try simp only [Act.put, zqA, zqB, zqC]
      (refine wpPl_tail rfl ?_ (fun K hK => ?_); rfl; go_simp; refine hK _ _ ?_)
      try simp only [Act.put]
      refine wpPl_nil ?_
      go_wp2_with fail
      exact bodyPost_ret (v := VV 3 0 0 ⟨#[]⟩ r 0) (by simp [results, Tryz.results236, go_sem]) rfl ⟨rfl, by with_reducible repeat (first | exact Ext.refl _ | apply Ext.drew | apply Ext.alloc | apply Ext.more_)⟩
theorem is_lt (n : Int) (w : World) :
    Calls Tryz.prog 111 #[.int .i64 n] w fun e w' => e = .returned (.bool (Sg.pred .lt n)) ∧ Ext w w' := by
  show Calls _ _ _ _ fun e w' => e = .returned (.bool (decide (n < 0))) ∧ Ext w w'
  go_enter Tryz.func111, Tryz.ntmps111
  go_wp2_with fail
  go_ret
  exact ⟨rfl, Ext.refl _⟩
set_option maxHeartbeats 1000000 in
theorem hold_lt (x y : Val) (pb : Nat) (w : World) (hx : x.ok) (hy : y.ok) (hc : w.cell? ⟨pb, 0, none⟩ = some (.func (.func 111) #[] #[])) (z : Val) (hz : holdV (Sg.pred .lt) x y = z) :
    Calls Tryz.prog 236 #[VV x.kind x.mant x.exp x.text x.truth x.fault, VV y.kind y.mant y.exp y.text y.truth y.fault, .pointer (some ⟨pb, 0, none⟩)] w fun e w' => e = .returned (VV z.kind z.mant z.exp z.text z.truth z.fault) ∧ Ext w w' := by
  have hpb := lt_of_cell hc
  have hcm := fun W => vcmp_any x y W hx hy
  have htr := fun b W => truth_any b W
  have his := fun W => is_lt (cmpV x y) W
  by_cases h1 : x.kind = 4
  · obtain rfl : z = x := by rw [← hz]; unfold holdV; simp [h1]
    have q1 : (z.kind == 4) = true := by simp [h1]
    clear h1 hz hx hy his hcm htr
    generalize z.kind = xk at *; generalize z.mant = xm at *; generalize z.exp = xe at *; generalize z.text = xt at *; generalize z.truth = xb at *; generalize z.fault = xf at *
    generalize y.kind = yk at *; generalize y.mant = ym at *; generalize y.exp = ye at *; generalize y.text = yt at *; generalize y.truth = yb at *; generalize y.fault = yf at *
    go_enter Tryz.func236, Tryz.ntmps236
    go_wp2_with fail
    exact bodyPost_ret (v := VV xk xm xe xt xb xf) (by simp [results, Tryz.results236, go_sem]) rfl ⟨rfl, by with_reducible repeat (first | exact Ext.refl _ | apply Ext.drew | apply Ext.alloc | apply Ext.more_)⟩
  · have q1 : (x.kind == 4) = false := by simp [h1]
    by_cases h2 : y.kind = 4
    · obtain rfl : z = y := by rw [← hz]; unfold holdV; simp [h1, h2]
      have q2 : (z.kind == 4) = true := by simp [h2]
      clear h1 h2 hz hx hy his hcm htr
      generalize x.kind = xk at *; generalize x.mant = xm at *; generalize x.exp = xe at *; generalize x.text = xt at *; generalize x.truth = xb at *; generalize x.fault = xf at *
      generalize z.kind = yk at *; generalize z.mant = ym at *; generalize z.exp = ye at *; generalize z.text = yt at *; generalize z.truth = yb at *; generalize z.fault = yf at *
      go_enter Tryz.func236, Tryz.ntmps236
      go_wp2_with fail
      exact bodyPost_ret (v := VV yk ym ye yt yb yf) (by simp [results, Tryz.results236, go_sem]) rfl ⟨rfl, by with_reducible repeat (first | exact Ext.refl _ | apply Ext.drew | apply Ext.alloc | apply Ext.more_)⟩
    · obtain rfl : z = truthV (Sg.pred .lt (cmpV x y)) := by rw [← hz]; unfold holdV; simp [h1, h2]
      have q2 : (y.kind == 4) = false := by simp [h2]
      clear h1 h2 hz hx hy
      simp only [truthV]
      generalize cmpV x y = n at *
      generalize Sg.pred .lt n = r at *
      generalize x.kind = xk at *; generalize x.mant = xm at *; generalize x.exp = xe at *; generalize x.text = xt at *; generalize x.truth = xb at *; generalize x.fault = xf at *
      generalize y.kind = yk at *; generalize y.mant = ym at *; generalize y.exp = ye at *; generalize y.text = yt at *; generalize y.truth = yb at *; generalize y.fault = yf at *
      go_enter Tryz.func236, Tryz.ntmps236
      go_upto_region 5 with fail
      refine wp_plan (S := Ext _) [(0, 0), (1, 0), (2, 0), (3, 1), (4, 1), (5, 1), (6, 2)] [6] (by kernel_rfl) (by kernel_rfl) (by kernel_rfl) (fun _ _ d _ _ h => by cases d <;> exact h) (Ext.drew (Ext.refl _)) ?_
      iterate 3 ((refine wpPl_read (v := ?_) rfl ?_ (fun _ h => ?_) ?_; rotate_left 1; rfl; (obtain ⟨_, _, rfl⟩ := h.more; go_simp; try rfl)); try simp only [Act.put, zqA, zqB, zqC])
      (refine wpPl_eff rfl ?_ (fun K hK => ?_); rfl; go_simp; refine (hcm _).mono ?_; rintro e w' ⟨rfl, hb⟩; obtain ⟨os1, d1, rfl⟩ := hb.more; clear hb; refine hK _ _ ?_ ?_; (repeat (first | (with_reducible (first | exact Ext.refl _ | exact ext_d _ _ _ _ | exact ext_app _ _ _ _ _ | exact ext_app2 _ _ _ _ _ _ | exact ext_app3 _ _ _ _ _ _ _ | exact ext_app4 _ _ _ _ _ _ _ _ | exact ext_app5 _ _ _ _ _ _ _ _ _)) | ((with_reducible refine ext_suffix ⟨_, ?_⟩); (try simp only [Array.append_assoc]); rfl) | (with_reducible (first | apply Ext.drew | apply Ext.alloc | apply Ext.more_)) | apply Ext.drew | apply Ext.alloc | apply Ext.more_)))
      try simp only [Act.put, zqA, zqB, zqC]
      (refine wpPl_eff rfl ?_ (fun K hK => ?_); rfl; go_simp; refine (his _).mono ?_; rintro e w' ⟨rfl, hb⟩; obtain ⟨os2, d2, rfl⟩ := hb.more; clear hb; refine hK _ _ ?_ ?_; (repeat (first | (with_reducible (first | exact Ext.refl _ | exact ext_d _ _ _ _ | exact ext_app _ _ _ _ _ | exact ext_app2 _ _ _ _ _ _ | exact ext_app3 _ _ _ _ _ _ _ | exact ext_app4 _ _ _ _ _ _ _ _ | exact ext_app5 _ _ _ _ _ _ _ _ _)) | ((with_reducible refine ext_suffix ⟨_, ?_⟩); (try simp only [Array.append_assoc]); rfl) | (with_reducible (first | apply Ext.drew | apply Ext.alloc | apply Ext.more_)) | apply Ext.drew | apply Ext.alloc | apply Ext.more_)))
      try simp only [Act.put, zqA, zqB, zqC]
      (refine wpPl_eff rfl ?_ (fun K hK => ?_); rfl; go_simp; refine (htr _ _).mono ?_; rintro e w' ⟨rfl, hb⟩; obtain ⟨os3, d3, rfl⟩ := hb.more; clear hb; refine hK _ _ ?_ ?_; (repeat (first | (with_reducible (first | exact Ext.refl _ | exact ext_d _ _ _ _ | exact ext_app _ _ _ _ _ | exact ext_app2 _ _ _ _ _ _ | exact ext_app3 _ _ _ _ _ _ _ | exact ext_app4 _ _ _ _ _ _ _ _ | exact ext_app5 _ _ _ _ _ _ _ _ _)) | ((with_reducible refine ext_suffix ⟨_, ?_⟩); (try simp only [Array.append_assoc]); rfl) | (with_reducible (first | apply Ext.drew | apply Ext.alloc | apply Ext.more_)) | apply Ext.drew | apply Ext.alloc | apply Ext.more_)))
      try simp only [Act.put, zqA, zqB, zqC]
      (refine wpPl_tail rfl ?_ (fun K hK => ?_); rfl; go_simp; refine hK _ _ ?_)
      try simp only [Act.put]
      refine wpPl_nil ?_
      go_wp2_with fail
      exact bodyPost_ret (v := VV 3 0 0 ⟨#[]⟩ r 0) (by simp [results, Tryz.results236, go_sem]) rfl ⟨rfl, by with_reducible repeat (first | exact Ext.refl _ | apply Ext.drew | apply Ext.alloc | apply Ext.more_)⟩
theorem is_le (n : Int) (w : World) :
    Calls Tryz.prog 112 #[.int .i64 n] w fun e w' => e = .returned (.bool (Sg.pred .le n)) ∧ Ext w w' := by
  show Calls _ _ _ _ fun e w' => e = .returned (.bool (decide (n ≤ 0))) ∧ Ext w w'
  go_enter Tryz.func112, Tryz.ntmps112
  go_wp2_with fail
  go_ret
  exact ⟨rfl, Ext.refl _⟩
set_option maxHeartbeats 1000000 in
theorem hold_le (x y : Val) (pb : Nat) (w : World) (hx : x.ok) (hy : y.ok) (hc : w.cell? ⟨pb, 0, none⟩ = some (.func (.func 112) #[] #[])) (z : Val) (hz : holdV (Sg.pred .le) x y = z) :
    Calls Tryz.prog 236 #[VV x.kind x.mant x.exp x.text x.truth x.fault, VV y.kind y.mant y.exp y.text y.truth y.fault, .pointer (some ⟨pb, 0, none⟩)] w fun e w' => e = .returned (VV z.kind z.mant z.exp z.text z.truth z.fault) ∧ Ext w w' := by
  have hpb := lt_of_cell hc
  have hcm := fun W => vcmp_any x y W hx hy
  have htr := fun b W => truth_any b W
  have his := fun W => is_le (cmpV x y) W
  by_cases h1 : x.kind = 4
  · obtain rfl : z = x := by rw [← hz]; unfold holdV; simp [h1]
    have q1 : (z.kind == 4) = true := by simp [h1]
    clear h1 hz hx hy his hcm htr
    generalize z.kind = xk at *; generalize z.mant = xm at *; generalize z.exp = xe at *; generalize z.text = xt at *; generalize z.truth = xb at *; generalize z.fault = xf at *
    generalize y.kind = yk at *; generalize y.mant = ym at *; generalize y.exp = ye at *; generalize y.text = yt at *; generalize y.truth = yb at *; generalize y.fault = yf at *
    go_enter Tryz.func236, Tryz.ntmps236
    go_wp2_with fail
    exact bodyPost_ret (v := VV xk xm xe xt xb xf) (by simp [results, Tryz.results236, go_sem]) rfl ⟨rfl, by with_reducible repeat (first | exact Ext.refl _ | apply Ext.drew | apply Ext.alloc | apply Ext.more_)⟩
  · have q1 : (x.kind == 4) = false := by simp [h1]
    by_cases h2 : y.kind = 4
    · obtain rfl : z = y := by rw [← hz]; unfold holdV; simp [h1, h2]
      have q2 : (z.kind == 4) = true := by simp [h2]
      clear h1 h2 hz hx hy his hcm htr
      generalize x.kind = xk at *; generalize x.mant = xm at *; generalize x.exp = xe at *; generalize x.text = xt at *; generalize x.truth = xb at *; generalize x.fault = xf at *
      generalize z.kind = yk at *; generalize z.mant = ym at *; generalize z.exp = ye at *; generalize z.text = yt at *; generalize z.truth = yb at *; generalize z.fault = yf at *
      go_enter Tryz.func236, Tryz.ntmps236
      go_wp2_with fail
      exact bodyPost_ret (v := VV yk ym ye yt yb yf) (by simp [results, Tryz.results236, go_sem]) rfl ⟨rfl, by with_reducible repeat (first | exact Ext.refl _ | apply Ext.drew | apply Ext.alloc | apply Ext.more_)⟩
    · obtain rfl : z = truthV (Sg.pred .le (cmpV x y)) := by rw [← hz]; unfold holdV; simp [h1, h2]
      have q2 : (y.kind == 4) = false := by simp [h2]
      clear h1 h2 hz hx hy
      simp only [truthV]
      generalize cmpV x y = n at *
      generalize Sg.pred .le n = r at *
      generalize x.kind = xk at *; generalize x.mant = xm at *; generalize x.exp = xe at *; generalize x.text = xt at *; generalize x.truth = xb at *; generalize x.fault = xf at *
      generalize y.kind = yk at *; generalize y.mant = ym at *; generalize y.exp = ye at *; generalize y.text = yt at *; generalize y.truth = yb at *; generalize y.fault = yf at *
      go_enter Tryz.func236, Tryz.ntmps236
      go_upto_region 5 with fail
      refine wp_plan (S := Ext _) [(0, 0), (1, 0), (2, 0), (3, 1), (4, 1), (5, 1), (6, 2)] [6] (by kernel_rfl) (by kernel_rfl) (by kernel_rfl) (fun _ _ d _ _ h => by cases d <;> exact h) (Ext.drew (Ext.refl _)) ?_
      iterate 3 ((refine wpPl_read (v := ?_) rfl ?_ (fun _ h => ?_) ?_; rotate_left 1; rfl; (obtain ⟨_, _, rfl⟩ := h.more; go_simp; try rfl)); try simp only [Act.put, zqA, zqB, zqC])
      (refine wpPl_eff rfl ?_ (fun K hK => ?_); rfl; go_simp; refine (hcm _).mono ?_; rintro e w' ⟨rfl, hb⟩; obtain ⟨os1, d1, rfl⟩ := hb.more; clear hb; refine hK _ _ ?_ ?_; (repeat (first | (with_reducible (first | exact Ext.refl _ | exact ext_d _ _ _ _ | exact ext_app _ _ _ _ _ | exact ext_app2 _ _ _ _ _ _ | exact ext_app3 _ _ _ _ _ _ _ | exact ext_app4 _ _ _ _ _ _ _ _ | exact ext_app5 _ _ _ _ _ _ _ _ _)) | ((with_reducible refine ext_suffix ⟨_, ?_⟩); (try simp only [Array.append_assoc]); rfl) | (with_reducible (first | apply Ext.drew | apply Ext.alloc | apply Ext.more_)) | apply Ext.drew | apply Ext.alloc | apply Ext.more_)))
      try simp only [Act.put, zqA, zqB, zqC]
      (refine wpPl_eff rfl ?_ (fun K hK => ?_); rfl; go_simp; refine (his _).mono ?_; rintro e w' ⟨rfl, hb⟩; obtain ⟨os2, d2, rfl⟩ := hb.more; clear hb; refine hK _ _ ?_ ?_; (repeat (first | (with_reducible (first | exact Ext.refl _ | exact ext_d _ _ _ _ | exact ext_app _ _ _ _ _ | exact ext_app2 _ _ _ _ _ _ | exact ext_app3 _ _ _ _ _ _ _ | exact ext_app4 _ _ _ _ _ _ _ _ | exact ext_app5 _ _ _ _ _ _ _ _ _)) | ((with_reducible refine ext_suffix ⟨_, ?_⟩); (try simp only [Array.append_assoc]); rfl) | (with_reducible (first | apply Ext.drew | apply Ext.alloc | apply Ext.more_)) | apply Ext.drew | apply Ext.alloc | apply Ext.more_)))
      try simp only [Act.put, zqA, zqB, zqC]
      (refine wpPl_eff rfl ?_ (fun K hK => ?_); rfl; go_simp; refine (htr _ _).mono ?_; rintro e w' ⟨rfl, hb⟩; obtain ⟨os3, d3, rfl⟩ := hb.more; clear hb; refine hK _ _ ?_ ?_; (repeat (first | (with_reducible (first | exact Ext.refl _ | exact ext_d _ _ _ _ | exact ext_app _ _ _ _ _ | exact ext_app2 _ _ _ _ _ _ | exact ext_app3 _ _ _ _ _ _ _ | exact ext_app4 _ _ _ _ _ _ _ _ | exact ext_app5 _ _ _ _ _ _ _ _ _)) | ((with_reducible refine ext_suffix ⟨_, ?_⟩); (try simp only [Array.append_assoc]); rfl) | (with_reducible (first | apply Ext.drew | apply Ext.alloc | apply Ext.more_)) | apply Ext.drew | apply Ext.alloc | apply Ext.more_)))
      try simp only [Act.put, zqA, zqB, zqC]
      (refine wpPl_tail rfl ?_ (fun K hK => ?_); rfl; go_simp; refine hK _ _ ?_)
      try simp only [Act.put]
      refine wpPl_nil ?_
      go_wp2_with fail
      exact bodyPost_ret (v := VV 3 0 0 ⟨#[]⟩ r 0) (by simp [results, Tryz.results236, go_sem]) rfl ⟨rfl, by with_reducible repeat (first | exact Ext.refl _ | apply Ext.drew | apply Ext.alloc | apply Ext.more_)⟩
theorem is_gt (n : Int) (w : World) :
    Calls Tryz.prog 113 #[.int .i64 n] w fun e w' => e = .returned (.bool (Sg.pred .gt n)) ∧ Ext w w' := by
  show Calls _ _ _ _ fun e w' => e = .returned (.bool (decide (0 < n))) ∧ Ext w w'
  go_enter Tryz.func113, Tryz.ntmps113
  go_wp2_with fail
  go_ret
  exact ⟨rfl, Ext.refl _⟩
set_option maxHeartbeats 1000000 in
theorem hold_gt (x y : Val) (pb : Nat) (w : World) (hx : x.ok) (hy : y.ok) (hc : w.cell? ⟨pb, 0, none⟩ = some (.func (.func 113) #[] #[])) (z : Val) (hz : holdV (Sg.pred .gt) x y = z) :
    Calls Tryz.prog 236 #[VV x.kind x.mant x.exp x.text x.truth x.fault, VV y.kind y.mant y.exp y.text y.truth y.fault, .pointer (some ⟨pb, 0, none⟩)] w fun e w' => e = .returned (VV z.kind z.mant z.exp z.text z.truth z.fault) ∧ Ext w w' := by
  have hpb := lt_of_cell hc
  have hcm := fun W => vcmp_any x y W hx hy
  have htr := fun b W => truth_any b W
  have his := fun W => is_gt (cmpV x y) W
  by_cases h1 : x.kind = 4
  · obtain rfl : z = x := by rw [← hz]; unfold holdV; simp [h1]
    have q1 : (z.kind == 4) = true := by simp [h1]
    clear h1 hz hx hy his hcm htr
    generalize z.kind = xk at *; generalize z.mant = xm at *; generalize z.exp = xe at *; generalize z.text = xt at *; generalize z.truth = xb at *; generalize z.fault = xf at *
    generalize y.kind = yk at *; generalize y.mant = ym at *; generalize y.exp = ye at *; generalize y.text = yt at *; generalize y.truth = yb at *; generalize y.fault = yf at *
    go_enter Tryz.func236, Tryz.ntmps236
    go_wp2_with fail
    exact bodyPost_ret (v := VV xk xm xe xt xb xf) (by simp [results, Tryz.results236, go_sem]) rfl ⟨rfl, by with_reducible repeat (first | exact Ext.refl _ | apply Ext.drew | apply Ext.alloc | apply Ext.more_)⟩
  · have q1 : (x.kind == 4) = false := by simp [h1]
    by_cases h2 : y.kind = 4
    · obtain rfl : z = y := by rw [← hz]; unfold holdV; simp [h1, h2]
      have q2 : (z.kind == 4) = true := by simp [h2]
      clear h1 h2 hz hx hy his hcm htr
      generalize x.kind = xk at *; generalize x.mant = xm at *; generalize x.exp = xe at *; generalize x.text = xt at *; generalize x.truth = xb at *; generalize x.fault = xf at *
      generalize z.kind = yk at *; generalize z.mant = ym at *; generalize z.exp = ye at *; generalize z.text = yt at *; generalize z.truth = yb at *; generalize z.fault = yf at *
      go_enter Tryz.func236, Tryz.ntmps236
      go_wp2_with fail
      exact bodyPost_ret (v := VV yk ym ye yt yb yf) (by simp [results, Tryz.results236, go_sem]) rfl ⟨rfl, by with_reducible repeat (first | exact Ext.refl _ | apply Ext.drew | apply Ext.alloc | apply Ext.more_)⟩
    · obtain rfl : z = truthV (Sg.pred .gt (cmpV x y)) := by rw [← hz]; unfold holdV; simp [h1, h2]
      have q2 : (y.kind == 4) = false := by simp [h2]
      clear h1 h2 hz hx hy
      simp only [truthV]
      generalize cmpV x y = n at *
      generalize Sg.pred .gt n = r at *
      generalize x.kind = xk at *; generalize x.mant = xm at *; generalize x.exp = xe at *; generalize x.text = xt at *; generalize x.truth = xb at *; generalize x.fault = xf at *
      generalize y.kind = yk at *; generalize y.mant = ym at *; generalize y.exp = ye at *; generalize y.text = yt at *; generalize y.truth = yb at *; generalize y.fault = yf at *
      go_enter Tryz.func236, Tryz.ntmps236
      go_upto_region 5 with fail
      refine wp_plan (S := Ext _) [(0, 0), (1, 0), (2, 0), (3, 1), (4, 1), (5, 1), (6, 2)] [6] (by kernel_rfl) (by kernel_rfl) (by kernel_rfl) (fun _ _ d _ _ h => by cases d <;> exact h) (Ext.drew (Ext.refl _)) ?_
      iterate 3 ((refine wpPl_read (v := ?_) rfl ?_ (fun _ h => ?_) ?_; rotate_left 1; rfl; (obtain ⟨_, _, rfl⟩ := h.more; go_simp; try rfl)); try simp only [Act.put, zqA, zqB, zqC])
      (refine wpPl_eff rfl ?_ (fun K hK => ?_); rfl; go_simp; refine (hcm _).mono ?_; rintro e w' ⟨rfl, hb⟩; obtain ⟨os1, d1, rfl⟩ := hb.more; clear hb; refine hK _ _ ?_ ?_; (repeat (first | (with_reducible (first | exact Ext.refl _ | exact ext_d _ _ _ _ | exact ext_app _ _ _ _ _ | exact ext_app2 _ _ _ _ _ _ | exact ext_app3 _ _ _ _ _ _ _ | exact ext_app4 _ _ _ _ _ _ _ _ | exact ext_app5 _ _ _ _ _ _ _ _ _)) | ((with_reducible refine ext_suffix ⟨_, ?_⟩); (try simp only [Array.append_assoc]); rfl) | (with_reducible (first | apply Ext.drew | apply Ext.alloc | apply Ext.more_)) | apply Ext.drew | apply Ext.alloc | apply Ext.more_)))
      try simp only [Act.put, zqA, zqB, zqC]
      (refine wpPl_eff rfl ?_ (fun K hK => ?_); rfl; go_simp; refine (his _).mono ?_; rintro e w' ⟨rfl, hb⟩; obtain ⟨os2, d2, rfl⟩ := hb.more; clear hb; refine hK _ _ ?_ ?_; (repeat (first | (with_reducible (first | exact Ext.refl _ | exact ext_d _ _ _ _ | exact ext_app _ _ _ _ _ | exact ext_app2 _ _ _ _ _ _ | exact ext_app3 _ _ _ _ _ _ _ | exact ext_app4 _ _ _ _ _ _ _ _ | exact ext_app5 _ _ _ _ _ _ _ _ _)) | ((with_reducible refine ext_suffix ⟨_, ?_⟩); (try simp only [Array.append_assoc]); rfl) | (with_reducible (first | apply Ext.drew | apply Ext.alloc | apply Ext.more_)) | apply Ext.drew | apply Ext.alloc | apply Ext.more_)))
      try simp only [Act.put, zqA, zqB, zqC]
      (refine wpPl_eff rfl ?_ (fun K hK => ?_); rfl; go_simp; refine (htr _ _).mono ?_; rintro e w' ⟨rfl, hb⟩; obtain ⟨os3, d3, rfl⟩ := hb.more; clear hb; refine hK _ _ ?_ ?_; (repeat (first | (with_reducible (first | exact Ext.refl _ | exact ext_d _ _ _ _ | exact ext_app _ _ _ _ _ | exact ext_app2 _ _ _ _ _ _ | exact ext_app3 _ _ _ _ _ _ _ | exact ext_app4 _ _ _ _ _ _ _ _ | exact ext_app5 _ _ _ _ _ _ _ _ _)) | ((with_reducible refine ext_suffix ⟨_, ?_⟩); (try simp only [Array.append_assoc]); rfl) | (with_reducible (first | apply Ext.drew | apply Ext.alloc | apply Ext.more_)) | apply Ext.drew | apply Ext.alloc | apply Ext.more_)))
      try simp only [Act.put, zqA, zqB, zqC]
      (refine wpPl_tail rfl ?_ (fun K hK => ?_); rfl; go_simp; refine hK _ _ ?_)
      try simp only [Act.put]
      refine wpPl_nil ?_
      go_wp2_with fail
      exact bodyPost_ret (v := VV 3 0 0 ⟨#[]⟩ r 0) (by simp [results, Tryz.results236, go_sem]) rfl ⟨rfl, by with_reducible repeat (first | exact Ext.refl _ | apply Ext.drew | apply Ext.alloc | apply Ext.more_)⟩
theorem is_ge (n : Int) (w : World) :
    Calls Tryz.prog 114 #[.int .i64 n] w fun e w' => e = .returned (.bool (Sg.pred .ge n)) ∧ Ext w w' := by
  show Calls _ _ _ _ fun e w' => e = .returned (.bool (decide (0 ≤ n))) ∧ Ext w w'
  go_enter Tryz.func114, Tryz.ntmps114
  go_wp2_with fail
  go_ret
  exact ⟨rfl, Ext.refl _⟩
set_option maxHeartbeats 1000000 in
theorem hold_ge (x y : Val) (pb : Nat) (w : World) (hx : x.ok) (hy : y.ok) (hc : w.cell? ⟨pb, 0, none⟩ = some (.func (.func 114) #[] #[])) (z : Val) (hz : holdV (Sg.pred .ge) x y = z) :
    Calls Tryz.prog 236 #[VV x.kind x.mant x.exp x.text x.truth x.fault, VV y.kind y.mant y.exp y.text y.truth y.fault, .pointer (some ⟨pb, 0, none⟩)] w fun e w' => e = .returned (VV z.kind z.mant z.exp z.text z.truth z.fault) ∧ Ext w w' := by
  have hpb := lt_of_cell hc
  have hcm := fun W => vcmp_any x y W hx hy
  have htr := fun b W => truth_any b W
  have his := fun W => is_ge (cmpV x y) W
  by_cases h1 : x.kind = 4
  · obtain rfl : z = x := by rw [← hz]; unfold holdV; simp [h1]
    have q1 : (z.kind == 4) = true := by simp [h1]
    clear h1 hz hx hy his hcm htr
    generalize z.kind = xk at *; generalize z.mant = xm at *; generalize z.exp = xe at *; generalize z.text = xt at *; generalize z.truth = xb at *; generalize z.fault = xf at *
    generalize y.kind = yk at *; generalize y.mant = ym at *; generalize y.exp = ye at *; generalize y.text = yt at *; generalize y.truth = yb at *; generalize y.fault = yf at *
    go_enter Tryz.func236, Tryz.ntmps236
    go_wp2_with fail
    exact bodyPost_ret (v := VV xk xm xe xt xb xf) (by simp [results, Tryz.results236, go_sem]) rfl ⟨rfl, by with_reducible repeat (first | exact Ext.refl _ | apply Ext.drew | apply Ext.alloc | apply Ext.more_)⟩
  · have q1 : (x.kind == 4) = false := by simp [h1]
    by_cases h2 : y.kind = 4
    · obtain rfl : z = y := by rw [← hz]; unfold holdV; simp [h1, h2]
      have q2 : (z.kind == 4) = true := by simp [h2]
      clear h1 h2 hz hx hy his hcm htr
      generalize x.kind = xk at *; generalize x.mant = xm at *; generalize x.exp = xe at *; generalize x.text = xt at *; generalize x.truth = xb at *; generalize x.fault = xf at *
      generalize z.kind = yk at *; generalize z.mant = ym at *; generalize z.exp = ye at *; generalize z.text = yt at *; generalize z.truth = yb at *; generalize z.fault = yf at *
      go_enter Tryz.func236, Tryz.ntmps236
      go_wp2_with fail
      exact bodyPost_ret (v := VV yk ym ye yt yb yf) (by simp [results, Tryz.results236, go_sem]) rfl ⟨rfl, by with_reducible repeat (first | exact Ext.refl _ | apply Ext.drew | apply Ext.alloc | apply Ext.more_)⟩
    · obtain rfl : z = truthV (Sg.pred .ge (cmpV x y)) := by rw [← hz]; unfold holdV; simp [h1, h2]
      have q2 : (y.kind == 4) = false := by simp [h2]
      clear h1 h2 hz hx hy
      simp only [truthV]
      generalize cmpV x y = n at *
      generalize Sg.pred .ge n = r at *
      generalize x.kind = xk at *; generalize x.mant = xm at *; generalize x.exp = xe at *; generalize x.text = xt at *; generalize x.truth = xb at *; generalize x.fault = xf at *
      generalize y.kind = yk at *; generalize y.mant = ym at *; generalize y.exp = ye at *; generalize y.text = yt at *; generalize y.truth = yb at *; generalize y.fault = yf at *
      go_enter Tryz.func236, Tryz.ntmps236
      go_upto_region 5 with fail
      refine wp_plan (S := Ext _) [(0, 0), (1, 0), (2, 0), (3, 1), (4, 1), (5, 1), (6, 2)] [6] (by kernel_rfl) (by kernel_rfl) (by kernel_rfl) (fun _ _ d _ _ h => by cases d <;> exact h) (Ext.drew (Ext.refl _)) ?_
      iterate 3 ((refine wpPl_read (v := ?_) rfl ?_ (fun _ h => ?_) ?_; rotate_left 1; rfl; (obtain ⟨_, _, rfl⟩ := h.more; go_simp; try rfl)); try simp only [Act.put, zqA, zqB, zqC])
      (refine wpPl_eff rfl ?_ (fun K hK => ?_); rfl; go_simp; refine (hcm _).mono ?_; rintro e w' ⟨rfl, hb⟩; obtain ⟨os1, d1, rfl⟩ := hb.more; clear hb; refine hK _ _ ?_ ?_; (repeat (first | (with_reducible (first | exact Ext.refl _ | exact ext_d _ _ _ _ | exact ext_app _ _ _ _ _ | exact ext_app2 _ _ _ _ _ _ | exact ext_app3 _ _ _ _ _ _ _ | exact ext_app4 _ _ _ _ _ _ _ _ | exact ext_app5 _ _ _ _ _ _ _ _ _)) | ((with_reducible refine ext_suffix ⟨_, ?_⟩); (try simp only [Array.append_assoc]); rfl) | (with_reducible (first | apply Ext.drew | apply Ext.alloc | apply Ext.more_)) | apply Ext.drew | apply Ext.alloc | apply Ext.more_)))
      try simp only [Act.put, zqA, zqB, zqC]
      (refine wpPl_eff rfl ?_ (fun K hK => ?_); rfl; go_simp; refine (his _).mono ?_; rintro e w' ⟨rfl, hb⟩; obtain ⟨os2, d2, rfl⟩ := hb.more; clear hb; refine hK _ _ ?_ ?_; (repeat (first | (with_reducible (first | exact Ext.refl _ | exact ext_d _ _ _ _ | exact ext_app _ _ _ _ _ | exact ext_app2 _ _ _ _ _ _ | exact ext_app3 _ _ _ _ _ _ _ | exact ext_app4 _ _ _ _ _ _ _ _ | exact ext_app5 _ _ _ _ _ _ _ _ _)) | ((with_reducible refine ext_suffix ⟨_, ?_⟩); (try simp only [Array.append_assoc]); rfl) | (with_reducible (first | apply Ext.drew | apply Ext.alloc | apply Ext.more_)) | apply Ext.drew | apply Ext.alloc | apply Ext.more_)))
      try simp only [Act.put, zqA, zqB, zqC]
      (refine wpPl_eff rfl ?_ (fun K hK => ?_); rfl; go_simp; refine (htr _ _).mono ?_; rintro e w' ⟨rfl, hb⟩; obtain ⟨os3, d3, rfl⟩ := hb.more; clear hb; refine hK _ _ ?_ ?_; (repeat (first | (with_reducible (first | exact Ext.refl _ | exact ext_d _ _ _ _ | exact ext_app _ _ _ _ _ | exact ext_app2 _ _ _ _ _ _ | exact ext_app3 _ _ _ _ _ _ _ | exact ext_app4 _ _ _ _ _ _ _ _ | exact ext_app5 _ _ _ _ _ _ _ _ _)) | ((with_reducible refine ext_suffix ⟨_, ?_⟩); (try simp only [Array.append_assoc]); rfl) | (with_reducible (first | apply Ext.drew | apply Ext.alloc | apply Ext.more_)) | apply Ext.drew | apply Ext.alloc | apply Ext.more_)))
      try simp only [Act.put, zqA, zqB, zqC]
      (refine wpPl_tail rfl ?_ (fun K hK => ?_); rfl; go_simp; refine hK _ _ ?_)
      try simp only [Act.put]
      refine wpPl_nil ?_
      go_wp2_with fail
      exact bodyPost_ret (v := VV 3 0 0 ⟨#[]⟩ r 0) (by simp [results, Tryz.results236, go_sem]) rfl ⟨rfl, by with_reducible repeat (first | exact Ext.refl _ | apply Ext.drew | apply Ext.alloc | apply Ext.more_)⟩
set_option maxHeartbeats 1000000 in
theorem reck_add (x y : Val) (pb : Nat) (w : World) (htab : Tab w) (hx : x.right) (hy : y.right) (hc : w.cell? ⟨pb, 0, none⟩ = some (.func (.func 102) #[] #[])) (z : Val) (hz : reckV addS x y = z) :
    Calls Tryz.prog 217 #[VV x.kind x.mant x.exp x.text x.truth x.fault, VV y.kind y.mant y.exp y.text y.truth y.fault, .pointer (some ⟨pb, 0, none⟩)] w fun e w' => e = .returned (VV z.kind z.mant z.exp z.text z.truth z.fault) ∧ Ext w w' := by
  have hpb := lt_of_cell hc
  have hrk := fun W hW => reckoned_add x y W hW hx hy
  rw [hz] at hrk
  have HT := Lib.hid htab
  clear htab hz hx hy
  generalize x.kind = xk at *; generalize x.mant = xm at *; generalize x.exp = xe at *; generalize x.text = xt at *; generalize x.truth = xb at *; generalize x.fault = xf at *
  generalize y.kind = yk at *; generalize y.mant = ym at *; generalize y.exp = ye at *; generalize y.text = yt at *; generalize y.truth = yb at *; generalize y.fault = yf at *
  generalize z.kind = zk at *; generalize z.mant = zm at *; generalize z.exp = ze at *; generalize z.text = zt at *; generalize z.truth = zb at *; generalize z.fault = zf at *
  go_enter Tryz.func217, Tryz.ntmps217
  go_wp2_with (go_at_call 218; (with_reducible refine (hrk _ (HT.out.ext (by with_reducible repeat (first | exact Ext.refl _ | apply Ext.drew | apply Ext.alloc | apply Ext.more_)))).mono ?_); rintro e w' ⟨rfl, hb⟩; obtain ⟨os, d, rfl⟩ := hb.more; clear hb)
  exact bodyPost_ret (v := VV zk zm ze zt zb zf) (by simp [results, Tryz.results217, go_sem]) rfl ⟨rfl, by with_reducible repeat (first | exact Ext.refl _ | apply Ext.drew | apply Ext.alloc | apply Ext.more_)⟩
set_option maxHeartbeats 1000000 in
theorem reck_sub (x y : Val) (pb : Nat) (w : World) (htab : Tab w) (hx : x.right) (hy : y.right) (hc : w.cell? ⟨pb, 0, none⟩ = some (.func (.func 103) #[] #[])) (z : Val) (hz : reckV subS x y = z) :
    Calls Tryz.prog 217 #[VV x.kind x.mant x.exp x.text x.truth x.fault, VV y.kind y.mant y.exp y.text y.truth y.fault, .pointer (some ⟨pb, 0, none⟩)] w fun e w' => e = .returned (VV z.kind z.mant z.exp z.text z.truth z.fault) ∧ Ext w w' := by
  have hpb := lt_of_cell hc
  have hrk := fun W hW => reckoned_sub x y W hW hx hy
  rw [hz] at hrk
  have HT := Lib.hid htab
  clear htab hz hx hy
  generalize x.kind = xk at *; generalize x.mant = xm at *; generalize x.exp = xe at *; generalize x.text = xt at *; generalize x.truth = xb at *; generalize x.fault = xf at *
  generalize y.kind = yk at *; generalize y.mant = ym at *; generalize y.exp = ye at *; generalize y.text = yt at *; generalize y.truth = yb at *; generalize y.fault = yf at *
  generalize z.kind = zk at *; generalize z.mant = zm at *; generalize z.exp = ze at *; generalize z.text = zt at *; generalize z.truth = zb at *; generalize z.fault = zf at *
  go_enter Tryz.func217, Tryz.ntmps217
  go_wp2_with (go_at_call 218; (with_reducible refine (hrk _ (HT.out.ext (by with_reducible repeat (first | exact Ext.refl _ | apply Ext.drew | apply Ext.alloc | apply Ext.more_)))).mono ?_); rintro e w' ⟨rfl, hb⟩; obtain ⟨os, d, rfl⟩ := hb.more; clear hb)
  exact bodyPost_ret (v := VV zk zm ze zt zb zf) (by simp [results, Tryz.results217, go_sem]) rfl ⟨rfl, by with_reducible repeat (first | exact Ext.refl _ | apply Ext.drew | apply Ext.alloc | apply Ext.more_)⟩
set_option maxHeartbeats 1000000 in
theorem reck_mul (x y : Val) (pb : Nat) (w : World) (htab : Tab w) (hx : x.right) (hy : y.right) (hc : w.cell? ⟨pb, 0, none⟩ = some (.func (.func 104) #[] #[])) (z : Val) (hz : reckV mulS x y = z) :
    Calls Tryz.prog 217 #[VV x.kind x.mant x.exp x.text x.truth x.fault, VV y.kind y.mant y.exp y.text y.truth y.fault, .pointer (some ⟨pb, 0, none⟩)] w fun e w' => e = .returned (VV z.kind z.mant z.exp z.text z.truth z.fault) ∧ Ext w w' := by
  have hpb := lt_of_cell hc
  have hrk := fun W hW => reckoned_mul x y W hW hx hy
  rw [hz] at hrk
  have HT := Lib.hid htab
  clear htab hz hx hy
  generalize x.kind = xk at *; generalize x.mant = xm at *; generalize x.exp = xe at *; generalize x.text = xt at *; generalize x.truth = xb at *; generalize x.fault = xf at *
  generalize y.kind = yk at *; generalize y.mant = ym at *; generalize y.exp = ye at *; generalize y.text = yt at *; generalize y.truth = yb at *; generalize y.fault = yf at *
  generalize z.kind = zk at *; generalize z.mant = zm at *; generalize z.exp = ze at *; generalize z.text = zt at *; generalize z.truth = zb at *; generalize z.fault = zf at *
  go_enter Tryz.func217, Tryz.ntmps217
  go_wp2_with (go_at_call 218; (with_reducible refine (hrk _ (HT.out.ext (by with_reducible repeat (first | exact Ext.refl _ | apply Ext.drew | apply Ext.alloc | apply Ext.more_)))).mono ?_); rintro e w' ⟨rfl, hb⟩; obtain ⟨os, d, rfl⟩ := hb.more; clear hb)
  exact bodyPost_ret (v := VV zk zm ze zt zb zf) (by simp [results, Tryz.results217, go_sem]) rfl ⟨rfl, by with_reducible repeat (first | exact Ext.refl _ | apply Ext.drew | apply Ext.alloc | apply Ext.more_)⟩
end Go.Proofs.YteecmifjbeojeaaGreatDoor
namespace Go.Proofs.YteecmifjbeojeaaGreatDoor
open Go.RowKit NM
theorem reckoner_any (fid : FuncId) (w : World) :
    Calls Tryz.prog 101 #[.func (.func fid) #[] #[]] w fun e w' => e = .returned (.func (.func 217) #[] #[.pointer (some ⟨w.heap.size, 0, none⟩)]) ∧ w' = w.alloc (.cells #[.func (.func fid) #[] #[]] 45) := by
  go_enter Tryz.func101, Tryz.ntmps101
  go_wp2_with fail
  go_ret
  exact ⟨rfl, rfl⟩
theorem holder_any (fid : FuncId) (w : World) :
    Calls Tryz.prog 108 #[.func (.func fid) #[] #[]] w fun e w' => e = .returned (.func (.func 236) #[] #[.pointer (some ⟨w.heap.size, 0, none⟩)]) ∧ w' = w.alloc (.cells #[.func (.func fid) #[] #[]] 116) := by
  go_enter Tryz.func108, Tryz.ntmps108
  go_wp2_with fail
  go_ret
  exact ⟨rfl, rfl⟩
abbrev sgE (v : Value) : Value := .agg #[v]
/-- The table of signs. -/
def signL (p1 p2 p3 p4 p5 p6 p7 p8 p9 : Nat) : Tab1 :=
  [([43], sgE (fn1 217 p1)), ([45], sgE (fn1 217 p2)), ([42], sgE (fn1 217 p3)), ([47], sgE (fn0 105)), ([94], sgE (fn0 106)), ([38], sgE (fn0 107)),
   ([61], sgE (fn1 236 p4)), ([60, 62], sgE (fn1 236 p5)), ([60], sgE (fn1 236 p6)), ([60, 61], sgE (fn1 236 p7)), ([62], sgE (fn1 236 p8)), ([62, 61], sgE (fn1 236 p9))]
abbrev bxN (fid : FuncId) : Obj := .cells #[fn0 fid] 45
abbrev bxI (fid : FuncId) : Obj := .cells #[fn0 fid] 116
def signB (p1 p2 p3 p4 p5 p6 p7 p8 p9 : Nat) : List (Nat × Obj) :=
  [(p1, bxN 102), (p2, bxN 103), (p3, bxN 104), (p4, bxI 109), (p5, bxI 110), (p6, bxI 111), (p7, bxI 112), (p8, bxI 113), (p9, bxI 114)]
theorem alloc_new (w : World) (o : Obj) : (w.alloc o).heap[w.heap.size]? = some o := Array.getElem?_push_size
set_option maxHeartbeats 1000000 in
theorem signsOf_any (w : World) :
    Calls Tryz.prog 41 #[] w fun e w' => ∃ b, e = .returned (.map (some b)) ∧ ∃ p1 p2 p3 p4 p5 p6 p7 p8 p9, TabS Tryz.prog 9 w b (signL p1 p2 p3 p4 p5 p6 p7 p8 p9) (signB p1 p2 p3 p4 p5 p6 p7 p8 p9) w' := by
  have hmm := @run_makeMap Tryz.prog
  have hT := TabS.start w Tryz.prog 9
  go_enter Tryz.func41, Tryz.ntmps41
  go_wp2_with (first | (go_at_call 101; (with_reducible refine (reckoner_any _ _).mono ?_); rintro e w' ⟨rfl, hw⟩; have hT := hT.new (W' := w') (by rw [hw]; exact (Ext.refl _).alloc _) (by rw [hw]; exact alloc_new _ _); clear hw; (try (rw [show (w.alloc (Obj.map #[] 0)).heap.size = w.heap.size + 1 by simp] at hT))) | (go_at_call 108; (with_reducible refine (holder_any _ _).mono ?_); rintro e w' ⟨rfl, hw⟩; have hT := hT.new (W' := w') (by rw [hw]; exact (Ext.refl _).alloc _) (by rw [hw]; exact alloc_new _ _); clear hw) | (refine wpL_insert rfl _ _ _ _ rfl 9 72 Tryz.underlying9 Tryz.underlying74 _ _ rfl hT.tab (by simp only [List.length_append, List.length_nil, List.length_cons, maxLen]; omega) _ rfl (by simp only [maxLen, ByteArray.size, List.size_toArray, List.length_cons, List.length_nil]; omega) _ rfl ?_; intro w1 ht1 hg1; have hT := hT.put ht1 hg1; clear ht1 hg1))
  go_ret
  exact ⟨w.heap.size, rfl, w.heap.size + 1, _, _, _, _, _, _, _, _, hT⟩
end Go.Proofs.YteecmifjbeojeaaGreatDoor
namespace Go.Proofs.YteecmifjbeojeaaGreatDoor
open Go.RowKit NM
theorem Low.tab {w W : World} (h : Low w W) (ht : Tab w) : Tab W := by
  unfold Tab Lib.TabIs World.var? at *
  cases hg : Tryz.prog.globalNamed "internal/strconv.uint64pow10" with
  | none => simp [hg] at ht
  | some g =>
    simp only [hg, Option.bind_some] at ht ⊢
    have hlt : g < w.heap.size := by
      rcases Nat.lt_or_ge g w.heap.size with h' | h'
      · exact h'
      · rw [Array.getElem?_eq_none h'] at ht; cases ht
    rw [h g hlt]; exact ht
/-- A function that keeps nothing, as Both asks it. -/
theorem low_spec {fid : FuncId} {capt : Array Value} {t : Val → Val → Val} {w : World}
    (hsp : ∀ x y W, Low w W → x.ok → y.ok → valRight x = true → valRight y = true → Calls Tryz.prog fid (#[VV x.kind x.mant x.exp x.text x.truth x.fault, VV y.kind y.mant y.exp y.text y.truth y.fault] ++ capt) W fun e W' => e = .returned (VV (t x y).kind (t x y).mant (t x y).exp (t x y).text (t x y).truth (t x y).fault) ∧ Ext W W')
    (hok : ∀ x y, valRight x = true → valRight y = true → (t x y).ok) (s0 pa : Nat) (hs : w.heap.size ≤ s0) :
    FSpec2 fid capt t w.heap.size (s0 + 3) pa (fun _ W => Low w W) := by
  refine ⟨fun _ W W' hx h => h.ext hx, fun _ W W' hk h b hb => ?_, fun k x y W0 W h hx hlo hxo hyo hxr hyr hk => ?_, fun x y _ _ h1 h2 => hok x y h1 h2, fun _ W p v h1 _ h b hb => ?_⟩
  · rw [Nat.add_sub_cancel] at hk
    rw [hk.block b (h.lt hb) (by omega) (by omega) (by omega)]; exact h b hb
  · have h1 := h.ext hx
    refine (hsp x y W h1 hxo hyo hxr hyr).mono ?_
    rintro e W' ⟨he, hX⟩
    refine ⟨he, fun W'' hk' b hb => ?_, Still.of_ext hX⟩
    have h2 := h1.ext hX
    rw [hk'.block b (h2.lt hb) (by have := h.lt hb; omega)]; exact h2 b hb
  · rw [Below.heap_setCell _ _ _ _ (by omega)]; exact h b hb
theorem both_low {fid : FuncId} {capt : Array Value} {t : Val → Val → Val} (w : World) (pa : Nat) (hpa : pa < w.heap.size)
    (hsp : ∀ x y W, Low w W → x.ok → y.ok → valRight x = true → valRight y = true → Calls Tryz.prog fid (#[VV x.kind x.mant x.exp x.text x.truth x.fault, VV y.kind y.mant y.exp y.text y.truth y.fault] ++ capt) W fun e W' => e = .returned (VV (t x y).kind (t x y).mant (t x y).exp (t x y).text (t x y).truth (t x y).fault) ∧ Ext W W')
    (hok : ∀ x y, valRight x = true → valRight y = true → (t x y).ok) (hent : ∀ (args : Array Value) (W : World), (callFunc fid args).run Tryz.prog W = .ok (.enter fid args) W) (r c r' c' : Int) (A B : Option Addr) (n cap n' cap' : Nat) (l l' : List Val) (h : ArrIn w A n cap l) (h' : ArrIn w B n' cap' l')
    (hA : 0 < n → ∀ b off, A = some ⟨b, off, none⟩ → b ≠ pa) (hB : 0 < n' → ∀ b off, B = some ⟨b, off, none⟩ → b ≠ pa) (x : NA) (hx : bothRes t r c l r' c' l' = x) :
    Calls Tryz.prog 42 #[AV r c (.slice A n cap), AV r' c' (.slice B n' cap'), .func (.func fid) #[] capt] w fun e w' => ∃ D m cc, e = .returned (AV x.R x.C (.slice D m cc)) ∧ ArrN w.heap.size w' D m cc x.l ∧ Ext w w' := by
  cases hr : (rightA r c l && rightA r' c' l') with
  | false =>
    obtain rfl : x = ⟨1, 1, [bad9]⟩ := by rw [← hx]; simp [bothRes, hr]
    refine (both_no fid _ r c r' c' A B n cap n' cap' l l' w h h' hr).mono ?_
    rintro e w' ⟨⟨D, cc, rfl, hs, hc⟩, hX⟩
    exact ⟨D, 1, cc, rfl, ⟨hs, rfl, hc, by omega, by simpa using bad9_ok⟩, hX⟩
  | true =>
    have hr2 := hr
    simp only [Bool.and_eq_true] at hr2
    obtain ⟨h1, h2⟩ := hr2
    obtain ⟨R, C, rfl, rfl, _⟩ := right_parts h1
    obtain ⟨R', C', rfl, rfl, _⟩ := right_parts h2
    by_cases hf : max R R' * max C C' ≤ 4096
    · obtain rfl : x = ⟨max R R', max C C', bothL t R C l R' C' l'⟩ := by rw [← hx]; simp [bothRes, h1, h2, hf]
      have e1 : 0 < n := by
        obtain ⟨q1, q2, _, q4, _, _⟩ := right_bd h1
        have := Nat.mul_le_mul q1 q2; have := h.len; omega
      have e2 : 0 < n' := by
        obtain ⟨q1, q2, _, q4, _, _⟩ := right_bd h2
        have := Nat.mul_le_mul q1 q2; have := h'.len; omega
      refine (both_yes R C R' C' n cap n' cap' pa A B l l' fid capt t (fun _ _ W => Low w W) w h h' h1 h2 hf hpa (hA e1) (hB e2) hent (fun s0 hs => low_spec hsp hok s0 pa hs) (fun _ _ => Low.refl w)).mono ?_
      rintro e w' ⟨D, cc, s0, rfl, hs, hc, hs0, hJ, hbut⟩
      obtain ⟨_, _, _, q4, _, _⟩ := right_bd h1
      obtain ⟨_, _, _, u4, _, _⟩ := right_bd h2
      exact ⟨D, _, cc, rfl, ⟨hs, bothL_length _ _ _ _ _ _ _, hc, by omega, bothL_ok (fun x y _ _ a b => hok x y a b) q4 u4 h.ok h'.ok (rightA_nat.1 h1).2.2.2.2 (rightA_nat.1 h2).2.2.2.2⟩, ⟨hbut.os, hbut.tape, hbut.output, hbut.size, fun b hb => hJ b hb⟩⟩
    · obtain rfl : x = ⟨1, 1, [badV 5]⟩ := by rw [← hx]; simp [bothRes, h1, h2, hf]
      refine (both_great fid _ R C R' C' A B n cap n' cap' l l' w h h' h1 h2 hf).mono ?_
      rintro e w' ⟨⟨D, cc, rfl, hs, hc⟩, hX⟩
      exact ⟨D, 1, cc, rfl, ⟨hs, rfl, hc, by omega, by simpa using badV_ok 5 ⟨by omega, by omega⟩⟩, hX⟩
/-- What stands at a sign in the table does what the sign says. -/
structure SignAt (w : World) (g : Sg) (fid : FuncId) (capt : Array Value) : Prop where
  call : ∀ x y W, Low w W → x.ok → y.ok → valRight x = true → valRight y = true → Calls Tryz.prog fid (#[VV x.kind x.mant x.exp x.text x.truth x.fault, VV y.kind y.mant y.exp y.text y.truth y.fault] ++ capt) W fun e W' => e = .returned (VV (opV g x y).kind (opV g x y).mant (opV g x y).exp (opV g x y).text (opV g x y).truth (opV g x y).fault) ∧ Ext W W'
  ent : ∀ (args : Array Value) (W : World), (callFunc fid args).run Tryz.prog W = .ok (.enter fid args) W
theorem low_cell {w W : World} (h : Low w W) {p : Nat} {v : Value} {t : TypeId} (hp : w.heap[p]? = some (.cells #[v] t)) : W.cell? ⟨p, 0, none⟩ = some v := by
  have h1 := h p (lt_of_block hp)
  rw [hp] at h1
  exact cell_of_row _ _ 0 _ _ _ h1
theorem below_block {w : World} {A : Option Addr} {n cap : Nat} {l : List Val} (h : ArrIn w A n cap l) {pb : Nat} (hp : w.heap.size ≤ pb) : 0 < n → ∀ b off, A = some ⟨b, off, none⟩ → b ≠ pb := by
  intro hn b off e
  obtain ⟨b', off', e', hv, _⟩ := h.get (k := 0) hn
  rw [e] at e'
  simp only [Option.some.injEq, Addr.mk.injEq, and_true] at e'
  have := hv.lt
  omega
theorem signs_at {p1 p2 p3 p4 p5 p6 p7 p8 p9 : Nat} {W : World} (htab : Tab W) (hb : ∀ p ∈ signB p1 p2 p3 p4 p5 p6 p7 p8 p9, W.heap[p.1]? = some p.2) (g : Sg) :
    ∃ fid capt, tabAt (signL p1 p2 p3 p4 p5 p6 p7 p8 p9) g.key = some (sgE (.func (.func fid) #[] capt)) ∧ SignAt W g fid capt := by
  cases g
  · exact ⟨217, _, rfl, ⟨fun x y V hl _ _ hx hy => reck_add x y p1 V (hl.tab htab) hx hy (low_cell hl (hb (p1, bxN 102) (by simp [signB]))) _ rfl, fun args W => by go_simp⟩⟩
  · exact ⟨217, _, rfl, ⟨fun x y V hl _ _ hx hy => reck_sub x y p2 V (hl.tab htab) hx hy (low_cell hl (hb (p2, bxN 103) (by simp [signB]))) _ rfl, fun args W => by go_simp⟩⟩
  · exact ⟨217, _, rfl, ⟨fun x y V hl _ _ hx hy => reck_mul x y p3 V (hl.tab htab) hx hy (low_cell hl (hb (p3, bxN 104) (by simp [signB]))) _ rfl, fun args W => by go_simp⟩⟩
  · exact ⟨105, _, rfl, ⟨fun x y V hl _ _ hx hy => quotient_any x y V (hl.tab htab) hx hy _ rfl, fun args W => by go_simp⟩⟩
  · exact ⟨106, _, rfl, ⟨fun x y V hl _ _ hx hy => power_op_any x y V (hl.tab htab) hx hy _ rfl, fun args W => by go_simp⟩⟩
  · exact ⟨107, _, rfl, ⟨fun x y V hl _ _ hx hy => joined_any x y V (hl.tab htab) hx hy _ rfl, fun args W => by go_simp⟩⟩
  · exact ⟨236, _, rfl, ⟨fun x y V hl hx hy _ _ => hold_eq x y p4 V hx hy (low_cell hl (hb (p4, bxI 109) (by simp [signB]))) _ rfl, fun args W => by go_simp⟩⟩
  · exact ⟨236, _, rfl, ⟨fun x y V hl hx hy _ _ => hold_ne x y p5 V hx hy (low_cell hl (hb (p5, bxI 110) (by simp [signB]))) _ rfl, fun args W => by go_simp⟩⟩
  · exact ⟨236, _, rfl, ⟨fun x y V hl hx hy _ _ => hold_lt x y p6 V hx hy (low_cell hl (hb (p6, bxI 111) (by simp [signB]))) _ rfl, fun args W => by go_simp⟩⟩
  · exact ⟨236, _, rfl, ⟨fun x y V hl hx hy _ _ => hold_le x y p7 V hx hy (low_cell hl (hb (p7, bxI 112) (by simp [signB]))) _ rfl, fun args W => by go_simp⟩⟩
  · exact ⟨236, _, rfl, ⟨fun x y V hl hx hy _ _ => hold_gt x y p8 V hx hy (low_cell hl (hb (p8, bxI 113) (by simp [signB]))) _ rfl, fun args W => by go_simp⟩⟩
  · exact ⟨236, _, rfl, ⟨fun x y V hl hx hy _ _ => hold_ge x y p9 V hx hy (low_cell hl (hb (p9, bxI 114) (by simp [signB]))) _ rfl, fun args W => by go_simp⟩⟩
theorem signL_pair (p1 p2 p3 p4 p5 p6 p7 p8 p9 : Nat) : (signL p1 p2 p3 p4 p5 p6 p7 p8 p9).Pairwise (fun p q => p.1 ≠ q.1) := by
  simp [signL]
theorem zero_sign (w : World) : (zeroValue 72).run Tryz.prog w = .ok (sgE .nilFunc) w := by kernel_rfl
theorem Low.pre {w W V : World} (hx : Ext w W) (h : Low W V) : Low w V := fun b hb => (h b (Nat.lt_of_lt_of_le hb hx.size)).trans (hx.block hb)
theorem SignAt.ext {w W : World} {g : Sg} {fid : FuncId} {capt : Array Value} (h : SignAt w g fid capt) (hx : Ext w W) : SignAt W g fid capt := ⟨fun x y V hl => h.call x y V (Low.pre hx hl), h.ent⟩
theorem op_ok (g : Sg) (x y : Val) (h1 : valRight x = true) (h2 : valRight y = true) : (opV g x y).ok := (right_op g h1 h2).ok
theorem sgn_key {s : ByteArray} {g : Sg} (h : sgOf s.data.toList = some g) {L : Tab1} {v : Value} (ht : tabAt L g.key = some v) : tabAt L s.data.toList = some v := by
  rw [sgOf_some h]; exact ht
set_option maxHeartbeats 1000000 in
theorem binary_yes (g : Sg) (s : ByteArray) (r c r' c' : Int) (A B : Option Addr) (n cap n' cap' : Nat) (l l' : List Val) (w : World) (htab : Tab w) (hs : s.size ≤ maxLen) (hg : sgOf s.data.toList = some g) (h : ArrIn w A n cap l) (h' : ArrIn w B n' cap' l') (x : NA) (hx : bothRes (opV g) r c l r' c' l' = x) :
    Calls Tryz.prog 20 #[.string s, AV r c (.slice A n cap), AV r' c' (.slice B n' cap')] w fun e w' => ∃ D m cc, e = .returned (.tuple #[AV x.R x.C (.slice D m cc), .bool true]) ∧ ArrN w.heap.size w' D m cc x.l ∧ Ext w w' := by
  have HG := Lib.hid hg
  have HT := Lib.hid htab
  have HX := Lib.hid hx
  clear hg htab hx
  go_enter Tryz.func20, Tryz.ntmps20
  go_wp2_with (first | (go_at_call 41; (with_reducible refine (signsOf_any _).mono ?_); rintro e w' ⟨bm, rfl, p1, p2, p3, p4, p5, p6, p7, p8, p9, hT⟩; have hbm := hT.hb; have hxT := hT.ext; obtain ⟨fid, capt, hta, hsg⟩ := signs_at ((HT.out.ext (by with_reducible repeat (first | exact Ext.refl _ | apply Ext.drew | apply Ext.alloc | apply Ext.more_))).ext hT.ext) (fun p hp => (hT.box p hp).2.2) g; obtain ⟨os1, d1, rfl⟩ := hxT.more) | (refine wpL_look rfl _ _ _ rfl 9 72 Tryz.underlying9 Tryz.underlying74 _ _ rfl (hT.tab.ext (by with_reducible repeat (first | exact Ext.refl _ | apply Ext.drew | apply Ext.alloc | apply Ext.more_))) (signL_pair _ _ _ _ _ _ _ _ _) _ (zero_sign _) _ rfl hs (sgE (.func (.func fid) #[] capt)) true (by rw [sgn_key HG.out hta]; rfl) (by rw [sgn_key HG.out hta]; rfl) ?_) | (go_at_call 42; (with_reducible refine (both_low _ bm (by have := hT.lt; simp at this ⊢; omega) (hsg.ext (by with_reducible repeat (first | exact Ext.refl _ | apply Ext.drew | apply Ext.alloc | apply Ext.more_))).call (op_ok g) hsg.ent r c r' c' A B n cap n' cap' l l' (h.ext (by with_reducible repeat (first | exact Ext.refl _ | apply Ext.drew | apply Ext.alloc | apply Ext.more_))) (h'.ext (by with_reducible repeat (first | exact Ext.refl _ | apply Ext.drew | apply Ext.alloc | apply Ext.more_))) (below_block h (by simp at hbm; omega)) (below_block h' (by simp at hbm; omega)) x HX.out).mono ?_); rintro e w' ⟨D, m, cc, rfl, hD, hb⟩; obtain ⟨os2, d2, rfl⟩ := hb.more; clear hb; have hDr := hD.rd))
  exact bodyPost_ret (v := .tuple #[AV x.R x.C (.slice D m cc), .bool true]) (by simp [results, Tryz.results20, go_sem]) rfl ⟨D, m, cc, rfl, ⟨(by (try simp only [more_more] at hDr); (try simp only [drew_more] at hDr); (try simp only [more_drew] at hDr); (try simp only [Array.append_assoc] at hDr); exact Rd.swap hDr (by first | (simp; done) | (simp; omega) | omega) (by first | (simp; done) | (simp; omega) | omega) (by first | (simp; done) | (simp; omega) | omega)), hD.len, hD.cap, hD.small, hD.ok⟩, by with_reducible repeat (first | exact Ext.refl _ | apply Ext.drew | apply Ext.alloc | apply Ext.more_)⟩
end Go.Proofs.YteecmifjbeojeaaGreatDoor
