/- What the rows' proofs lean on: the contracts of the functions that they reach, and plain facts (part A4). -/
import Derived.WalkKit
import Derived.WalkLawsBesides
import Derived.WalkSpells
import Derived.Outline
import Derived.Below
import Derived.Deep.RegionHeld3
import Derived.Deep.DeepCutAuto
import Derived.Deep.AppendLies
import Derived.Maps.AppendAt
import Derived.Lib.Hide
import Derived.OrdersHeld
import Derived.Test.YteigcfflljoioaaDoorProg
import Derived.Shelf.Small.Strs
import Derived.Shelf.Strconv.Itoa0
import Derived.Shelf.Strconv.Itoa1
import Derived.Shelf.LaysM
import Derived.Shelf.Strconv.Itoa2
import Derived.Shelf.Bits.Mul64
import Derived.Lib.ItoaMem
import Derived.Lib.OthersKept
import Derived.Deep.CutBlock
import Derived.Laws.Bits64b
import Derived.Lib.AppendZeros
import Derived.Lib.Bytealg
import Derived.Laws.RangeAny
import Derived.Maps.OwnSet
import Derived.Maps.Own
import Derived.Laws.EntriesVeiled
import Derived.Lib.ConvBytes
import Derived.Lib.SlBytesRow
import Derived.Lib.SmallJoins
import Derived.RegionTactic
import Derived.Test.YteigcfflljoioaaDoorRows
import Derived.Test.YteigcfflljoioaaDoorCards
import Derived.Test.YteigcfflljoioaaDoorTie
import Derived.ProofKit
import Derived.LaidMore
import Derived.OpenShut
import Derived.ShutString
import Derived.ChangeOld
import Derived.Stop.Joined
import Derived.Deep.Slices
import Derived.SevenTiedAt
import Derived.Test.YteigcfflljoioaaDoorA3
set_option linter.unusedSimpArgs false
set_option linter.unusedVariables false
set_option maxRecDepth 100000
namespace Go.Proofs.YteigcfflljoioaaDoor
open Go.RowKit NM
theorem heap_alloc_below {w : World} {o : Obj} {p : Nat} (hp : p < w.heap.size) : (w.alloc o).heap[p]? = w.heap[p]? := ((Ext.refl w).alloc o).block hp
theorem heap_more_below {w : World} {os : Array Obj} {d p : Nat} (hp : p < w.heap.size) : (more w os d).heap[p]? = w.heap[p]? := (ext_more w os d).block hp
theorem great1_new {w0 : World} {p n cap : Nat} {A : Option Addr} {r c : Int} (hp : p = w0.heap.size) (hn : n ≤ 9223372036854775807) (g : Bool) (hg : great1B r c n = g) :
    Calls Tryd.prog 6 #[.slice (some ⟨p, 0, none⟩) 1 1] (w0.alloc (.cells #[.int .i64 r, .int .i64 c, .slice A n cap] 24)) fun e w' => e = .returned (.bool g) ∧ Ext (w0.alloc (.cells #[.int .i64 r, .int .i64 c, .slice A n cap] 24)) w' := by
  subst hg
  exact great1_any r c A n cap p _ (heap_alloc_at hp) hn
theorem partA_right {a : NA} (hr : a.right) {row col rows cols : Nat} (r1 : 1 ≤ rows) (c1 : 1 ≤ cols) (h1 : row + rows ≤ a.R) (h2 : col + cols ≤ a.C) : (partA a row col rows cols).right := by
  obtain ⟨k1, k2, k3, k4, k5⟩ := rightA_nat.1 hr
  refine rightA_nat.2 ⟨r1, c1, Nat.le_trans (Nat.mul_le_mul (show rows ≤ a.R by omega) (show cols ≤ a.C by omega)) k3, ?_, fun x hx => k5 x (partL_mem k4 h1 h2 hx)⟩
  show (partL _ _ _ _ _ _).length = _
  unfold partL; rw [vals_length]; rfl
/-- An array of one value, wherever it lies. -/
theorem arAny_ok {w : World} {y : Val} {A : Option Addr} {n cap : Nat} (h : ArrIn w A n cap [y]) (hr : y.right) : ArOk w ⟨⟨1, 1, [y]⟩, A, n, cap⟩ :=
  ⟨h, right_row (l := [y]) (by simp) (by simp) (by simpa using hr)⟩
theorem index3_new {w0 : World} {t : TypeId} {b R C n cap n1 c1 n2 c2 : Nat} {A A1 A2 : Option Addr} (l : List Val) (y z : Val) (hp : b = w0.heap.size) (hl : ArrIn w0 A n cap l) (hR : rightA R C l = true) (hy : ArrIn w0 A1 n1 c1 [y]) (hz : ArrIn w0 A2 n2 c2 [z]) (ry : y.right) (rz : z.right)
    (X : NA) (hX : indexO ⟨R, C, l⟩ (wholeO y) (wholeO z) = X) :
    Calls Tryd.prog 10 #[.string ⟨#[73, 78, 68, 69, 88]⟩, .slice (some ⟨b, 0, none⟩) 3 3] (w0.alloc (.cells #[.int .i64 R, .int .i64 C, .slice A n cap, .int .i64 1, .int .i64 1, .slice A1 n1 c1, .int .i64 1, .int .i64 1, .slice A2 n2 c2] t)) (CallPost (w0.alloc (.cells #[.int .i64 R, .int .i64 C, .slice A n cap, .int .i64 1, .int .i64 1, .slice A1 n1 c1, .int .i64 1, .int .i64 1, .slice A2 n2 c2] t)) X) := by
  subst hX
  have hargs := argsIn_new (t := t) (n := 3) [⟨⟨R, C, l⟩, A, n, cap⟩, ⟨⟨1, 1, [y]⟩, A1, n1, c1⟩, ⟨⟨1, 1, [z]⟩, A2, n2, c2⟩] hp rfl rfl (by decide) (by intro x hx; simp only [List.mem_cons, List.not_mem_nil, or_false] at hx; rcases hx with rfl | rfl | rfl; exact ⟨hl, hR⟩; exact arAny_ok hy ry; exact arAny_ok hz rz)
  exact call_yes ⟨#[73, 78, 68, 69, 88]⟩ 24 2 3 (by decide) rfl (fun args W => by go_simp) _ 3 3 _ _ hargs (by decide) (by decide) _ (fun W hW => index3_any _ 3 ⟨⟨R, C, l⟩, A, n, cap⟩ ⟨⟨1, 1, [y]⟩, A1, n1, c1⟩ ⟨⟨1, 1, [z]⟩, A2, n2, c2⟩ y z W (hargs.ext hW) rfl rfl ry rz)
theorem call_lookup (A : Option Addr) (cap : Nat) (a p q : Ar) (v : Val) (w : World) (htab : Tab w) (h : ArgsIn w A 3 cap [a, p, q]) (hv : a.x.l[0]? = some v) (hvr : v.right) (h0 : v.kind ≠ 0) (h4 : v.kind ≠ 4)
    (hl : p.x.C = 1) (hl2 : q.x.R = p.x.l.length) (X : NA) (hX : (if justN p.x.l v < 0 then aloneO 6 else partA q.x (justN p.x.l v).toNat 0 1 q.x.C) = X) :
    Calls Tryd.prog 10 #[.string ⟨#[88, 76, 79, 79, 75, 85, 80]⟩, .slice A 3 cap] w (CallPost w X) := by
  subst hX
  exact call_yes ⟨#[88, 76, 79, 79, 75, 85, 80]⟩ 26 3 5 (by decide) rfl (fun args W => by go_simp) A 3 cap [a, p, q] w h (by decide) (by decide) _ (fun W hW => lookup_col A cap a p q v W (htab.ext hW) (h.ext hW) hv hvr h0 h4 hl hl2)
set_option maxHeartbeats 4000000 in
theorem flookRows_any (r c : Int) (A : Option Addr) (n cap : Nat) (l : List Val) (v : Val) (w : World) (htab : Tab w) (h : ArrIn w A n cap l) (hv : v.ok) :
    Calls Tryd.prog 4 #[AV r c (.slice A n cap), VV v.kind v.mant v.exp v.text v.truth v.fault] w fun e w' => e = .returned (.bool true) ∧ Ext w w' := by
  have HT := Lib.hid htab
  have hsm := h.small
  have g1 := fun W => refRight_any v.kind v.mant v.exp v.fault v.text v.truth W hv.2.1 hv.2.2.2.1
  rw [show refRight ⟨v.kind, v.mant, v.exp, v.text, v.truth, v.fault⟩ = valRight v from (right_eq v hv).symm] at g1
  have gA := fun W (hW : ArrIn W A n cap l) => refRightA_any r c A n cap l W hW
  clear htab
  cases hgr : great1B r c n with
  | true =>
    clear g1 gA
    go_enter Tryd.func4, Tryd.ntmps4
    go_wp2_with (first | (go_at_call 5; (with_reducible refine (awake14_any _ (HT.out.ext (by repeat (first | (with_reducible (first | exact Ext.refl _ | exact ext_d _ _ _ _ | exact ext_app _ _ _ _ _ | exact ext_app2 _ _ _ _ _ _ | exact ext_app3 _ _ _ _ _ _ _)) | ((with_reducible refine ext_suffix ⟨_, ?_⟩); (try simp only [Array.append_assoc]); rfl) | (with_reducible (first | apply Ext.drew | apply Ext.alloc | apply Ext.more_)))))).mono ?_); rintro e w' ⟨rfl, hb⟩; obtain ⟨os, d, rfl⟩ := hb.more; clear hb) | (go_at_call 6; (with_reducible refine (great1_new (by simp) hsm true hgr).mono ?_); rintro e w' ⟨rfl, hb⟩; obtain ⟨os, d, rfl⟩ := hb.more; clear hb))
    go_ret
    exact ⟨rfl, by repeat (first | (with_reducible (first | exact Ext.refl _ | exact ext_d _ _ _ _ | exact ext_app _ _ _ _ _ | exact ext_app2 _ _ _ _ _ _ | exact ext_app3 _ _ _ _ _ _ _)) | ((with_reducible refine ext_suffix ⟨_, ?_⟩); (try simp only [Array.append_assoc]); rfl) | (with_reducible (first | apply Ext.drew | apply Ext.alloc | apply Ext.more_)))⟩
  | false =>
    rw [← rightA_eq r c l h.ok] at gA
    cases hra : rightA r c l with
    | false =>
      rw [hra] at gA
      clear g1 hra
      go_enter Tryd.func4, Tryd.ntmps4
      go_wp2_with (first | (go_at_call 5; (with_reducible refine (awake14_any _ (HT.out.ext (by repeat (first | (with_reducible (first | exact Ext.refl _ | exact ext_d _ _ _ _ | exact ext_app _ _ _ _ _ | exact ext_app2 _ _ _ _ _ _ | exact ext_app3 _ _ _ _ _ _ _)) | ((with_reducible refine ext_suffix ⟨_, ?_⟩); (try simp only [Array.append_assoc]); rfl) | (with_reducible (first | apply Ext.drew | apply Ext.alloc | apply Ext.more_)))))).mono ?_); rintro e w' ⟨rfl, hb⟩; obtain ⟨os, d, rfl⟩ := hb.more; clear hb) | (go_at_call 6; (with_reducible refine (great1_new (by simp) hsm false hgr).mono ?_); rintro e w' ⟨rfl, hb⟩; obtain ⟨os, d, rfl⟩ := hb.more; clear hb) | (go_at_call 7; (with_reducible refine (gA _ (h.ext (by repeat (first | (with_reducible (first | exact Ext.refl _ | exact ext_d _ _ _ _ | exact ext_app _ _ _ _ _ | exact ext_app2 _ _ _ _ _ _ | exact ext_app3 _ _ _ _ _ _ _)) | ((with_reducible refine ext_suffix ⟨_, ?_⟩); (try simp only [Array.append_assoc]); rfl) | (with_reducible (first | apply Ext.drew | apply Ext.alloc | apply Ext.more_)))))).mono ?_); rintro e w' ⟨rfl, hb⟩; obtain ⟨os, d, rfl⟩ := hb.more; clear hb))
      go_ret
      exact ⟨rfl, by repeat (first | (with_reducible (first | exact Ext.refl _ | exact ext_d _ _ _ _ | exact ext_app _ _ _ _ _ | exact ext_app2 _ _ _ _ _ _ | exact ext_app3 _ _ _ _ _ _ _)) | ((with_reducible refine ext_suffix ⟨_, ?_⟩); (try simp only [Array.append_assoc]); rfl) | (with_reducible (first | apply Ext.drew | apply Ext.alloc | apply Ext.more_)))⟩
    | true =>
      rw [hra] at gA
      cases hrv : valRight v with
      | false =>
        rw [hrv] at g1
        clear hra hrv
        go_enter Tryd.func4, Tryd.ntmps4
        go_wp2_with (first | (go_at_call 5; (with_reducible refine (awake14_any _ (HT.out.ext (by repeat (first | (with_reducible (first | exact Ext.refl _ | exact ext_d _ _ _ _ | exact ext_app _ _ _ _ _ | exact ext_app2 _ _ _ _ _ _ | exact ext_app3 _ _ _ _ _ _ _)) | ((with_reducible refine ext_suffix ⟨_, ?_⟩); (try simp only [Array.append_assoc]); rfl) | (with_reducible (first | apply Ext.drew | apply Ext.alloc | apply Ext.more_)))))).mono ?_); rintro e w' ⟨rfl, hb⟩; obtain ⟨os, d, rfl⟩ := hb.more; clear hb) | (go_at_call 6; (with_reducible refine (great1_new (by simp) hsm false hgr).mono ?_); rintro e w' ⟨rfl, hb⟩; obtain ⟨os, d, rfl⟩ := hb.more; clear hb) | (go_at_call 7; (with_reducible refine (gA _ (h.ext (by repeat (first | (with_reducible (first | exact Ext.refl _ | exact ext_d _ _ _ _ | exact ext_app _ _ _ _ _ | exact ext_app2 _ _ _ _ _ _ | exact ext_app3 _ _ _ _ _ _ _)) | ((with_reducible refine ext_suffix ⟨_, ?_⟩); (try simp only [Array.append_assoc]); rfl) | (with_reducible (first | apply Ext.drew | apply Ext.alloc | apply Ext.more_)))))).mono ?_); rintro e w' ⟨rfl, hb⟩; obtain ⟨os, d, rfl⟩ := hb.more; clear hb) | (go_at_call 8; (with_reducible refine (g1 _).mono ?_); rintro e w' ⟨rfl, hb⟩; obtain ⟨os, d, rfl⟩ := hb.more; clear hb))
        go_ret
        exact ⟨rfl, by repeat (first | (with_reducible (first | exact Ext.refl _ | exact ext_d _ _ _ _ | exact ext_app _ _ _ _ _ | exact ext_app2 _ _ _ _ _ _ | exact ext_app3 _ _ _ _ _ _ _)) | ((with_reducible refine ext_suffix ⟨_, ?_⟩); (try simp only [Array.append_assoc]); rfl) | (with_reducible (first | apply Ext.drew | apply Ext.alloc | apply Ext.more_)))⟩
      | true =>
        rw [hrv] at g1
        by_cases k0 : v.kind = 0
        · have k0' : (v.kind == 0) = true := by simpa using k0
          clear hra hrv k0
          go_enter Tryd.func4, Tryd.ntmps4
          go_wp2_with (first | (go_at_call 5; (with_reducible refine (awake14_any _ (HT.out.ext (by repeat (first | (with_reducible (first | exact Ext.refl _ | exact ext_d _ _ _ _ | exact ext_app _ _ _ _ _ | exact ext_app2 _ _ _ _ _ _ | exact ext_app3 _ _ _ _ _ _ _)) | ((with_reducible refine ext_suffix ⟨_, ?_⟩); (try simp only [Array.append_assoc]); rfl) | (with_reducible (first | apply Ext.drew | apply Ext.alloc | apply Ext.more_)))))).mono ?_); rintro e w' ⟨rfl, hb⟩; obtain ⟨os, d, rfl⟩ := hb.more; clear hb) | (go_at_call 6; (with_reducible refine (great1_new (by simp) hsm false hgr).mono ?_); rintro e w' ⟨rfl, hb⟩; obtain ⟨os, d, rfl⟩ := hb.more; clear hb) | (go_at_call 7; (with_reducible refine (gA _ (h.ext (by repeat (first | (with_reducible (first | exact Ext.refl _ | exact ext_d _ _ _ _ | exact ext_app _ _ _ _ _ | exact ext_app2 _ _ _ _ _ _ | exact ext_app3 _ _ _ _ _ _ _)) | ((with_reducible refine ext_suffix ⟨_, ?_⟩); (try simp only [Array.append_assoc]); rfl) | (with_reducible (first | apply Ext.drew | apply Ext.alloc | apply Ext.more_)))))).mono ?_); rintro e w' ⟨rfl, hb⟩; obtain ⟨os, d, rfl⟩ := hb.more; clear hb) | (go_at_call 8; (with_reducible refine (g1 _).mono ?_); rintro e w' ⟨rfl, hb⟩; obtain ⟨os, d, rfl⟩ := hb.more; clear hb))
          go_ret
          exact ⟨rfl, by repeat (first | (with_reducible (first | exact Ext.refl _ | exact ext_d _ _ _ _ | exact ext_app _ _ _ _ _ | exact ext_app2 _ _ _ _ _ _ | exact ext_app3 _ _ _ _ _ _ _)) | ((with_reducible refine ext_suffix ⟨_, ?_⟩); (try simp only [Array.append_assoc]); rfl) | (with_reducible (first | apply Ext.drew | apply Ext.alloc | apply Ext.more_)))⟩
        · have k0' : (v.kind == 0) = false := by simpa using k0
          by_cases k4 : v.kind = 4
          · have k4' : (v.kind == 4) = true := by simpa using k4
            clear hra hrv k0 k4
            go_enter Tryd.func4, Tryd.ntmps4
            go_wp2_with (first | (go_at_call 5; (with_reducible refine (awake14_any _ (HT.out.ext (by repeat (first | (with_reducible (first | exact Ext.refl _ | exact ext_d _ _ _ _ | exact ext_app _ _ _ _ _ | exact ext_app2 _ _ _ _ _ _ | exact ext_app3 _ _ _ _ _ _ _)) | ((with_reducible refine ext_suffix ⟨_, ?_⟩); (try simp only [Array.append_assoc]); rfl) | (with_reducible (first | apply Ext.drew | apply Ext.alloc | apply Ext.more_)))))).mono ?_); rintro e w' ⟨rfl, hb⟩; obtain ⟨os, d, rfl⟩ := hb.more; clear hb) | (go_at_call 6; (with_reducible refine (great1_new (by simp) hsm false hgr).mono ?_); rintro e w' ⟨rfl, hb⟩; obtain ⟨os, d, rfl⟩ := hb.more; clear hb) | (go_at_call 7; (with_reducible refine (gA _ (h.ext (by repeat (first | (with_reducible (first | exact Ext.refl _ | exact ext_d _ _ _ _ | exact ext_app _ _ _ _ _ | exact ext_app2 _ _ _ _ _ _ | exact ext_app3 _ _ _ _ _ _ _)) | ((with_reducible refine ext_suffix ⟨_, ?_⟩); (try simp only [Array.append_assoc]); rfl) | (with_reducible (first | apply Ext.drew | apply Ext.alloc | apply Ext.more_)))))).mono ?_); rintro e w' ⟨rfl, hb⟩; obtain ⟨os, d, rfl⟩ := hb.more; clear hb) | (go_at_call 8; (with_reducible refine (g1 _).mono ?_); rintro e w' ⟨rfl, hb⟩; obtain ⟨os, d, rfl⟩ := hb.more; clear hb))
            go_ret
            exact ⟨rfl, by repeat (first | (with_reducible (first | exact Ext.refl _ | exact ext_d _ _ _ _ | exact ext_app _ _ _ _ _ | exact ext_app2 _ _ _ _ _ _ | exact ext_app3 _ _ _ _ _ _ _)) | ((with_reducible refine ext_suffix ⟨_, ?_⟩); (try simp only [Array.append_assoc]); rfl) | (with_reducible (first | apply Ext.drew | apply Ext.alloc | apply Ext.more_)))⟩
          · have k4' : (v.kind == 4) = false := by simpa using k4
            have hf : fitsB r c = true := by
              unfold rightA at hra
              simp only [Bool.and_eq_true] at hra
              exact hra.1.1
            have hfm := fits_mul hf
            obtain ⟨R, rfl⟩ : ∃ R : Nat, r = (R : Int) := ⟨r.toNat, by omega⟩
            obtain ⟨C, rfl⟩ : ∃ C : Nat, c = (C : Int) := ⟨c.toNat, by omega⟩
            have hRC : R ≤ 4096 ∧ C ≤ 4096 ∧ 1 ≤ R ∧ 1 ≤ C := by omega
            have HR := Lib.hid hra
            have HV := Lib.hid hrv
            have K0 := Lib.hid k0
            have K4 := Lib.hid k4
            clear hra hrv k0 k4 hf hfm
            go_enter Tryd.func4, Tryd.ntmps4
            go_upto_region 3 with (first | (go_at_call 5; (with_reducible refine (awake14_any _ (HT.out.ext (by repeat (first | (with_reducible (first | exact Ext.refl _ | exact ext_d _ _ _ _ | exact ext_app _ _ _ _ _ | exact ext_app2 _ _ _ _ _ _ | exact ext_app3 _ _ _ _ _ _ _)) | ((with_reducible refine ext_suffix ⟨_, ?_⟩); (try simp only [Array.append_assoc]); rfl) | (with_reducible (first | apply Ext.drew | apply Ext.alloc | apply Ext.more_)))))).mono ?_); rintro e w' ⟨rfl, hb⟩; obtain ⟨os, d, rfl⟩ := hb.more; clear hb) | (go_at_call 6; (with_reducible refine (great1_new (by simp) hsm false hgr).mono ?_); rintro e w' ⟨rfl, hb⟩; obtain ⟨os, d, rfl⟩ := hb.more; clear hb) | (go_at_call 7; (with_reducible refine (gA _ (h.ext (by repeat (first | (with_reducible (first | exact Ext.refl _ | exact ext_d _ _ _ _ | exact ext_app _ _ _ _ _ | exact ext_app2 _ _ _ _ _ _ | exact ext_app3 _ _ _ _ _ _ _)) | ((with_reducible refine ext_suffix ⟨_, ?_⟩); (try simp only [Array.append_assoc]); rfl) | (with_reducible (first | apply Ext.drew | apply Ext.alloc | apply Ext.more_)))))).mono ?_); rintro e w' ⟨rfl, hb⟩; obtain ⟨os, d, rfl⟩ := hb.more; clear hb) | (go_at_call 8; (with_reducible refine (g1 _).mono ?_); rintro e w' ⟨rfl, hb⟩; obtain ⟨os, d, rfl⟩ := hb.more; clear hb))
            refine wp_world fun W1 hW1 => ?_
            have hx1 : Ext w W1 := by rw [hW1]; exact (by repeat (first | (with_reducible (first | exact Ext.refl _ | exact ext_d _ _ _ _ | exact ext_app _ _ _ _ _ | exact ext_app2 _ _ _ _ _ _ | exact ext_app3 _ _ _ _ _ _ _)) | ((with_reducible refine ext_suffix ⟨_, ?_⟩); (try simp only [Array.append_assoc]); rfl) | (with_reducible (first | apply Ext.drew | apply Ext.alloc | apply Ext.more_))))
            have r2 : W1.heap[w.heap.size]? = some (.cells #[.int .i64 R, .int .i64 C, .slice A n cap] 24) := by
              rw [hW1]; repeat (first | rw [heap_alloc_below (by first | (simp; done) | (simp; omega))] | rw [heap_more_below (by first | (simp; done) | (simp; omega))] | exact heap_alloc_at (by simp))
            have r3 : W1.heap[w.heap.size + 1]? = some (.cells #[.int .i64 v.kind, .int .i64 v.mant, .int .i64 v.exp, .string v.text, .bool v.truth, .int .i64 v.fault] 28) := by
              rw [hW1]; repeat (first | rw [heap_alloc_below (by first | (simp; done) | (simp; omega))] | rw [heap_more_below (by first | (simp; done) | (simp; omega))] | exact heap_alloc_at (by simp))
            clear hW1 g1 gA hgr k0' k4'
            have h1 := h.ext hx1
            have n0 := fun W => number14_any 0 W (by decide)
            have n1 := fun W => number14_any 1 W (by decide)
            have ry0 := cnt_right (n := 0) (by decide)
            have ry1 := cnt_right (n := 1) (by decide)
            have u0 := whole_cnt (n := 0) (by decide)
            have u1 := whole_cnt (n := 1) (by decide)
            have hIX : indexO ⟨R, C, l⟩ (wholeO (cntV 0)) (wholeO (cntV 1)) = partA ⟨R, C, l⟩ 0 0 R 1 := by
              rw [u0, u1]; unfold indexO
              rw [if_neg (by decide), if_neg (by decide), if_neg (by decide), if_neg (by show ¬ ((R : Int) < 0 ∨ (C : Int) < 1); omega)]
              rfl
            have p2 := lt_of_block r2
            have p3 := lt_of_block r3
            have a0 : W1.cell? ⟨w.heap.size, 0, none⟩ = some (.int .i64 R) := cell_of_row _ _ 0 _ _ _ r2
            have a1 : W1.cell? ⟨w.heap.size, 1, none⟩ = some (.int .i64 C) := cell_of_row _ _ 1 _ _ _ r2
            have a2 : W1.cell? ⟨w.heap.size, 2, none⟩ = some (.slice A n cap) := cell_of_row _ _ 2 _ _ _ r2
            generalize hy0 : cntV 0 = y0 at *
            generalize hy1 : cntV 1 = y1 at *
            have hyo0 := ry0.ok
            have hyo1 := ry1.ok
            have U0 := Lib.hid u0
            have IX := Lib.hid hIX
            clear u0 u1 hIX hy0 hy1
            go_upto_region 5 with (first | (go_at_call 13; (with_reducible refine (n0 _).mono ?_); rintro e w' ⟨rfl, hb⟩; obtain ⟨on0, dn0, rfl⟩ := hb.more; clear hb) | (go_at_call 13; (with_reducible refine (n1 _).mono ?_); rintro e w' ⟨rfl, hb⟩; obtain ⟨on1, dn1, rfl⟩ := hb.more; clear hb) | (go_at_call 11; (with_reducible refine (row_one y0 hyo0 (by simp)).mono ?_); rintro e w' ⟨rfl, hb, A0⟩; obtain ⟨or0, dr0, rfl⟩ := hb.more; clear hb) | (go_at_call 11; (with_reducible refine (row_one y1 hyo1 (by simp)).mono ?_); rintro e w' ⟨rfl, hb, A1⟩; obtain ⟨or1, dr1, rfl⟩ := hb.more; clear hb) | (go_at_call 10; go_loud ((with_reducible refine (index3_new l y0 y1 (by simp) (h1.ext (by repeat (first | (with_reducible (first | exact Ext.refl _ | exact ext_d _ _ _ _ | exact ext_app _ _ _ _ _ | exact ext_app2 _ _ _ _ _ _ | exact ext_app3 _ _ _ _ _ _ _)) | ((with_reducible refine ext_suffix ⟨_, ?_⟩); (try simp only [Array.append_assoc]); rfl) | (with_reducible (first | apply Ext.drew | apply Ext.alloc | apply Ext.more_))))) HR.out (A0.ext (by repeat (first | (with_reducible (first | exact Ext.refl _ | exact ext_d _ _ _ _ | exact ext_app _ _ _ _ _ | exact ext_app2 _ _ _ _ _ _ | exact ext_app3 _ _ _ _ _ _ _)) | ((with_reducible refine ext_suffix ⟨_, ?_⟩); (try simp only [Array.append_assoc]); rfl) | (with_reducible (first | apply Ext.drew | apply Ext.alloc | apply Ext.more_))))) (A1.ext (by repeat (first | (with_reducible (first | exact Ext.refl _ | exact ext_d _ _ _ _ | exact ext_app _ _ _ _ _ | exact ext_app2 _ _ _ _ _ _ | exact ext_app3 _ _ _ _ _ _ _)) | ((with_reducible refine ext_suffix ⟨_, ?_⟩); (try simp only [Array.append_assoc]); rfl) | (with_reducible (first | apply Ext.drew | apply Ext.alloc | apply Ext.more_))))) ry0 ry1 _ IX.out).mono ?_); rintro e w' ⟨D7, m7, c7, rfl, hN7, hb⟩; obtain ⟨os7, d7, rfl⟩ := hb.more; clear hb)))
            refine wp_world fun W2 hW2 => ?_
            have hx12 : Ext W1 W2 := by rw [hW2]; exact (by repeat (first | (with_reducible (first | exact Ext.refl _ | exact ext_d _ _ _ _ | exact ext_app _ _ _ _ _ | exact ext_app2 _ _ _ _ _ _ | exact ext_app3 _ _ _ _ _ _ _)) | ((with_reducible refine ext_suffix ⟨_, ?_⟩); (try simp only [Array.append_assoc]); rfl) | (with_reducible (first | apply Ext.drew | apply Ext.alloc | apply Ext.more_))))
            have aN : ArrIn W2 (some ⟨W1.heap.size + on0.size, 0, none⟩) 1 1 [y0] := by rw [hW2]; exact A0.ext (by repeat (first | (with_reducible (first | exact Ext.refl _ | exact ext_d _ _ _ _ | exact ext_app _ _ _ _ _ | exact ext_app2 _ _ _ _ _ _ | exact ext_app3 _ _ _ _ _ _ _)) | ((with_reducible refine ext_suffix ⟨_, ?_⟩); (try simp only [Array.append_assoc]); rfl) | (with_reducible (first | apply Ext.drew | apply Ext.alloc | apply Ext.more_))))
            have aK : ArrIn W2 D7 m7 c7 (partA ⟨R, C, l⟩ 0 0 R 1).l := by rw [hW2]; exact hN7.arr.ext (by repeat (first | (with_reducible (first | exact Ext.refl _ | exact ext_d _ _ _ _ | exact ext_app _ _ _ _ _ | exact ext_app2 _ _ _ _ _ _ | exact ext_app3 _ _ _ _ _ _ _)) | ((with_reducible refine ext_suffix ⟨_, ?_⟩); (try simp only [Array.append_assoc]); rfl) | (with_reducible (first | apply Ext.drew | apply Ext.alloc | apply Ext.more_))))
            have r5 : W2.heap[W1.heap.size + on0.size + 1 + (or0.size + on1.size) + 1 + or1.size]? = some (.cells #[.int .i64 1, .int .i64 1, .slice (some ⟨W1.heap.size + on0.size, 0, none⟩) 1 1] 24) := by
              rw [hW2]; repeat (first | rw [heap_alloc_below (by first | (simp; done) | (simp; omega))] | rw [heap_more_below (by first | (simp; done) | (simp; omega))] | exact heap_alloc_at (by simp))
            have r7 : W2.heap[W1.heap.size + on0.size + 1 + (or0.size + on1.size) + 1 + or1.size + 1 + 1 + 1 + os7.size]? = some (.cells #[.int .i64 R, .int .i64 ((1 : Nat) : Int), .slice D7 m7 c7] 24) := by
              rw [hW2]; exact heap_alloc_at (by simp)
            generalize W1.heap.size + on0.size + 1 + (or0.size + on1.size) + 1 + or1.size + 1 + 1 + 1 + os7.size = p7 at *
            generalize W1.heap.size + on0.size + 1 + (or0.size + on1.size) + 1 + or1.size = p5 at *
            generalize W1.heap.size + on0.size = q0 at *
            have hwW2 := hx1.trans hx12
            have hcol : (partA ⟨R, C, l⟩ 0 0 R 1).right := partA_right (a := ⟨R, C, l⟩) HR.out hRC.2.2.1 (Nat.le_refl 1) (by show 0 + R ≤ R; omega) (by show 0 + 1 ≤ C; omega)
            have hKl : (partA ⟨R, C, l⟩ 0 0 R 1).l.length = R := by have := (rightA_nat.1 hcol).2.2.2.1; rw [this]; show R * 1 = R; omega
            have hKr : ∀ x ∈ (partA ⟨R, C, l⟩ 0 0 R 1).l, x.right := fun x hx => (rightA_nat.1 hcol).2.2.2.2 x hx
            have hK5 : rightA R 1 (partA ⟨R, C, l⟩ 0 0 R 1).l = true := hcol
            generalize (partA ⟨R, C, l⟩ 0 0 R 1).l = KL at *
            have r2' := (hx12.block p2).trans r2
            have r3' := (hx12.block p3).trans r3
            have h2 := h1.ext hx12
            have l2 := lt_of_block r2'
            have l3 := lt_of_block r3'
            have l5 := lt_of_block r5
            have l7 := lt_of_block r7
            clear hW2 hN7 A0 A1 r2 r3 p2 p3 a0 a1 a2 n0 n1 h1 h hx12 IX hcol ry1 hyo1
            have a0 : W2.cell? ⟨w.heap.size, 0, none⟩ = some (.int .i64 R) := cell_of_row _ _ 0 _ _ _ r2'
            have a1 : W2.cell? ⟨w.heap.size, 1, none⟩ = some (.int .i64 C) := cell_of_row _ _ 1 _ _ _ r2'
            have a2 : W2.cell? ⟨w.heap.size, 2, none⟩ = some (.slice A n cap) := cell_of_row _ _ 2 _ _ _ r2'
            have b0 : W2.cell? ⟨w.heap.size + 1, 0, none⟩ = some (.int .i64 v.kind) := cell_of_row _ _ 0 _ _ _ r3'
            have b1 : W2.cell? ⟨w.heap.size + 1, 1, none⟩ = some (.int .i64 v.mant) := cell_of_row _ _ 1 _ _ _ r3'
            have b2 : W2.cell? ⟨w.heap.size + 1, 2, none⟩ = some (.int .i64 v.exp) := cell_of_row _ _ 2 _ _ _ r3'
            have b3 : W2.cell? ⟨w.heap.size + 1, 3, none⟩ = some (.string v.text) := cell_of_row _ _ 3 _ _ _ r3'
            have b4 : W2.cell? ⟨w.heap.size + 1, 4, none⟩ = some (.bool v.truth) := cell_of_row _ _ 4 _ _ _ r3'
            have b5 : W2.cell? ⟨w.heap.size + 1, 5, none⟩ = some (.int .i64 v.fault) := cell_of_row _ _ 5 _ _ _ r3'
            have d0 : W2.cell? ⟨p7, 0, none⟩ = some (.int .i64 R) := cell_of_row _ _ 0 _ _ _ r7
            have d1 : W2.cell? ⟨p7, 1, none⟩ = some (.int .i64 1) := cell_of_row _ _ 1 _ _ _ r7
            have d2 : W2.cell? ⟨p7, 2, none⟩ = some (.slice D7 m7 c7) := cell_of_row _ _ 2 _ _ _ r7
            have rv : v.right := HV.out
            obtain ⟨X9, hX9⟩ : ∃ X, (if justN KL v < 0 then aloneO 6 else partA ⟨R, C, l⟩ (justN KL v).toNat 0 1 C) = X := ⟨_, rfl⟩
            have HX9 := Lib.hid hX9
            have HKl := Lib.hid hKl
            clear hX9 hKl
            refine wp_float [(10, 9, (.cells #[.int .i64 0, .int .i64 0, .slice none 0 0] 24))] [(0, 0), (3, 0), (4, 0), (1, 1), (2, 1), (5, 1), (6, 1), (7, 0), (8, 0), (9, 2)] [11, 12] [11, 12] [9] (by kernel_rfl) (by kernel_rfl) (by kernel_rfl) (fun _ _ d _ _ h => by cases d <;> exact h) (fun _ _ d _ _ h => by cases d <;> exact h) (fun x hx o ho a w => by (obtain rfl := List.mem_singleton.1 hx); (obtain rfl := Option.some.inj ho); (first | rfl | (simp [go_sem, ptrB]; done) | (go_simp; rfl))) ?_
            iterate 3 ((refine wpFp_read (v := ?_) rfl ?_ (fun w1 h1 => ?_) ?_; rotate_left 1; rfl; (obtain ⟨os1, d1, rfl⟩ := h1.more; go_simp; first | done | rfl)); try simp only [Act.put, zqA, zqB, zqC])
            (refine wpFp_eff rfl ?_ (fun wf hXf hE K hK => ?_); rfl; obtain ⟨osf, df, rfl⟩ := hXf.more; go_simp; generalize hq1 : W2.heap.size + osf.size = q1; refine hK _ _ (fun W => ArrIn W (some ⟨q1, 0, none⟩) 1 1 [v]) (by (try simp only [drew_more]); exact (Ext.refl _).alloc _) (fun _ _ hx h => h.ext hx) (arrIn_new [v] (by rw [← hq1]; simp) rfl rfl (by decide) (by simpa using rv.ok)) ?_)
            try simp only [Act.put, zqA, zqB, zqC]
            (refine wpFp_eff rfl ?_ (fun wf hXf hE K hK => ?_); rfl; obtain ⟨osf, df, rfl⟩ := hXf.more; go_simp; refine (row14_any _ _ _ _).mono ?_; rintro e w' ⟨rfl, hb⟩; refine hK _ _ (fun W => ArrIn W (some ⟨q1, 0, none⟩) 1 1 [v]) (by (try simp only [more_drew, more_more, Array.append_assoc]); exact hb) (fun _ _ hx h => h.ext hx) (hE.ext (by (try simp only [more_drew, more_more, Array.append_assoc]); exact hb)) ?_)
            try simp only [Act.put, zqA, zqB, zqC]
            (refine wpFp_eff rfl ?_ (fun wf hXf hE K hK => ?_); rfl; obtain ⟨osf, df, rfl⟩ := hXf.more; go_simp; generalize hq2 : W2.heap.size + osf.size = q2; refine hK _ _ (fun W => ArgsIn W (some ⟨q2, 0, none⟩) 3 3 [arOne v q1, ⟨⟨R, 1, KL⟩, D7, m7, c7⟩, ⟨⟨R, C, l⟩, A, n, cap⟩]) (by (try simp only [drew_more]); exact (Ext.refl _).alloc _) (fun _ _ hx h => h.ext hx) (argsIn_new (n := 3) [arOne v q1, ⟨⟨R, 1, KL⟩, D7, m7, c7⟩, ⟨⟨R, C, l⟩, A, n, cap⟩] (by rw [← hq2]; simp) rfl rfl (by decide) (by intro a ha; rcases List.mem_cons.1 ha with rfl | ha; exact arOne_ok hE rv; rcases List.mem_cons.1 ha with rfl | ha; exact ⟨aK.ext (by repeat (first | (with_reducible (first | exact Ext.refl _ | exact ext_d _ _ _ _ | exact ext_app _ _ _ _ _ | exact ext_app2 _ _ _ _ _ _ | exact ext_app3 _ _ _ _ _ _ _)) | ((with_reducible refine ext_suffix ⟨_, ?_⟩); (try simp only [Array.append_assoc]); rfl) | (with_reducible (first | apply Ext.drew | apply Ext.alloc | apply Ext.more_)))), hK5⟩; obtain rfl := List.mem_singleton.1 ha; exact ⟨h2.ext (by repeat (first | (with_reducible (first | exact Ext.refl _ | exact ext_d _ _ _ _ | exact ext_app _ _ _ _ _ | exact ext_app2 _ _ _ _ _ _ | exact ext_app3 _ _ _ _ _ _ _)) | ((with_reducible refine ext_suffix ⟨_, ?_⟩); (try simp only [Array.append_assoc]); rfl) | (with_reducible (first | apply Ext.drew | apply Ext.alloc | apply Ext.more_)))), HR.out⟩)) ?_)
            try simp only [Act.put, zqA, zqB, zqC]
            (refine wpFp_eff rfl ?_ (fun wf hXf hE K hK => ?_); rfl; obtain ⟨osf, df, rfl⟩ := hXf.more; go_simp; refine (call_lookup _ _ (arOne v q1) ⟨⟨R, 1, KL⟩, D7, m7, c7⟩ ⟨⟨R, C, l⟩, A, n, cap⟩ v _ (HT.out.ext (by with_reducible repeat (first | exact Ext.refl _ | exact hwW2 | apply Ext.drew | apply Ext.alloc | apply Ext.more_))) hE rfl rv K0.out K4.out rfl HKl.out.symm X9 HX9.out).mono ?_; rintro e w' ⟨D9, m9, c9, rfl, hN, hb⟩; refine hK _ _ (fun W => ArrIn W D9 m9 c9 X9.l) (by (try simp only [more_drew, more_more, Array.append_assoc]); exact hb) (fun _ _ hx h => h.ext hx) hN.arr ?_)
            try simp only [Act.put, zqA, zqB, zqC]
            iterate 2 ((refine wpFp_read (v := ?_) rfl ?_ (fun w1 h1 => ?_) ?_; rotate_left 1; rfl; (obtain ⟨os1, d1, rfl⟩ := h1.more; go_simp; first | done | rfl)); try simp only [Act.put, zqA, zqB, zqC])
            (refine wpFp_pure (v := ?_) rfl ?_ (fun w1 => ?_) ?_; rotate_left 1; rfl; (go_simp; first | done | rfl))
            try simp only [Act.put, zqA, zqB, zqC]
            refine wpFp_one fun osa da osb db hE => ?_
            try simp only [Act.put, zqA, zqB, zqC]
            iterate 2 ((refine wpTl_op rfl ?_ (fun K hK => ?_); rfl; go_simp; refine hK _ _ ?_); try simp only [Act.put, zqA, zqB, zqC])
            refine wpTl_nil ?_
            go_upto_region 6 with fail
            refine wp_world fun W3 hW3 => ?_
            obtain ⟨r9, hx23⟩ := var_at _ _ _ _ _ _ hW3
            have aX : ArrIn W3 D9 m9 c9 X9.l := by rw [hW3]; exact hE.var3
            clear hW3 hE
            have hwW3 := hwW2.trans hx23
            have h3 := h2.ext hx23
            have aK3 := aK.ext hx23
            have aN3 := aN.ext hx23
            have r5' := (hx23.block l5).trans r5
            have t2 : w.heap.size < W3.heap.size := Nat.lt_of_lt_of_le l2 hx23.size
            have t3 : w.heap.size + 1 < W3.heap.size := Nat.lt_of_lt_of_le l3 hx23.size
            have t5 : p5 < W3.heap.size := Nat.lt_of_lt_of_le l5 hx23.size
            have t7 : p7 < W3.heap.size := Nat.lt_of_lt_of_le l7 hx23.size
            generalize W2.heap.size + osa.size = p9 at *
            have t9 := lt_of_block r9
            have a0' := hx23.cell_some a0
            have a1' := hx23.cell_some a1
            have a2' := hx23.cell_some a2
            have b0' := hx23.cell_some b0
            have b1' := hx23.cell_some b1
            have b2' := hx23.cell_some b2
            have b3' := hx23.cell_some b3
            have b4' := hx23.cell_some b4
            have b5' := hx23.cell_some b5
            have d0' := hx23.cell_some d0
            have d1' := hx23.cell_some d1
            have d2' := hx23.cell_some d2
            have f0 : W3.cell? ⟨p5, 0, none⟩ = some (.int .i64 1) := cell_of_row _ _ 0 _ _ _ r5'
            have f1 : W3.cell? ⟨p5, 1, none⟩ = some (.int .i64 1) := cell_of_row _ _ 1 _ _ _ r5'
            have f2 : W3.cell? ⟨p5, 2, none⟩ = some (.slice (some ⟨q0, 0, none⟩) 1 1) := cell_of_row _ _ 2 _ _ _ r5'
            clear a0 a1 a2 b0 b1 b2 b3 b4 b5 d0 d1 d2 l2 l3 l5 l7 r2' r3' r5 r7 aK aN h2 hwW2 hx23 r5'
            refine wp_float [(10, 11, (.cells #[.int .i64 0, .int .i64 0, .slice none 0 0] 24))] [(0, 0), (3, 0), (4, 0), (1, 1), (2, 1), (5, 1), (6, 1), (7, 0), (8, 0), (9, 2)] [11, 12] [11, 12] [9] (by kernel_rfl) (by kernel_rfl) (by kernel_rfl) (fun _ _ d _ _ h => by cases d <;> exact h) (fun _ _ d _ _ h => by cases d <;> exact h) (fun x hx o ho a w => by (obtain rfl := List.mem_singleton.1 hx); (obtain rfl := Option.some.inj ho); (first | rfl | (simp [go_sem, ptrB]; done) | (go_simp; rfl))) ?_
            iterate 3 ((refine wpFp_read (v := ?_) rfl ?_ (fun w1 h1 => ?_) ?_; rotate_left 1; rfl; (obtain ⟨os1, d1, rfl⟩ := h1.more; go_simp; first | done | rfl)); try simp only [Act.put, zqA, zqB, zqC])
            (refine wpFp_eff rfl ?_ (fun wf hXf hE K hK => ?_); rfl; obtain ⟨osf, df, rfl⟩ := hXf.more; go_simp; generalize hs1 : W3.heap.size + osf.size = s1; refine hK _ _ (fun W => ArrIn W (some ⟨s1, 0, none⟩) 1 1 [v]) (by (try simp only [drew_more]); exact (Ext.refl _).alloc _) (fun _ _ hx h => h.ext hx) (arrIn_new [v] (by rw [← hs1]; simp) rfl rfl (by decide) (by simpa using rv.ok)) ?_)
            try simp only [Act.put, zqA, zqB, zqC]
            (refine wpFp_eff rfl ?_ (fun wf hXf hE K hK => ?_); rfl; obtain ⟨osf, df, rfl⟩ := hXf.more; go_simp; refine (row14_any _ _ _ _).mono ?_; rintro e w' ⟨rfl, hb⟩; refine hK _ _ (fun W => ArrIn W (some ⟨s1, 0, none⟩) 1 1 [v]) (by (try simp only [more_drew, more_more, Array.append_assoc]); exact hb) (fun _ _ hx h => h.ext hx) (hE.ext (by (try simp only [more_drew, more_more, Array.append_assoc]); exact hb)) ?_)
            try simp only [Act.put, zqA, zqB, zqC]
            (refine wpFp_eff rfl ?_ (fun wf hXf hE K hK => ?_); rfl; obtain ⟨osf, df, rfl⟩ := hXf.more; go_simp; generalize hs2 : W3.heap.size + osf.size = s2; refine hK _ _ (fun W => ArgsIn W (some ⟨s2, 0, none⟩) 3 3 [arOne v s1, ⟨⟨R, 1, KL⟩, D7, m7, c7⟩, arOne y0 q0]) (by (try simp only [drew_more]); exact (Ext.refl _).alloc _) (fun _ _ hx h => h.ext hx) (argsIn_new (n := 3) [arOne v s1, ⟨⟨R, 1, KL⟩, D7, m7, c7⟩, arOne y0 q0] (by rw [← hs2]; simp) rfl rfl (by decide) (by intro a ha; rcases List.mem_cons.1 ha with rfl | ha; exact arOne_ok hE rv; rcases List.mem_cons.1 ha with rfl | ha; exact ⟨aK3.ext (by repeat (first | (with_reducible (first | exact Ext.refl _ | exact ext_d _ _ _ _ | exact ext_app _ _ _ _ _ | exact ext_app2 _ _ _ _ _ _ | exact ext_app3 _ _ _ _ _ _ _)) | ((with_reducible refine ext_suffix ⟨_, ?_⟩); (try simp only [Array.append_assoc]); rfl) | (with_reducible (first | apply Ext.drew | apply Ext.alloc | apply Ext.more_)))), hK5⟩; obtain rfl := List.mem_singleton.1 ha; exact arOne_ok (aN3.ext (by repeat (first | (with_reducible (first | exact Ext.refl _ | exact ext_d _ _ _ _ | exact ext_app _ _ _ _ _ | exact ext_app2 _ _ _ _ _ _ | exact ext_app3 _ _ _ _ _ _ _)) | ((with_reducible refine ext_suffix ⟨_, ?_⟩); (try simp only [Array.append_assoc]); rfl) | (with_reducible (first | apply Ext.drew | apply Ext.alloc | apply Ext.more_))))) ry0)) ?_)
            try simp only [Act.put, zqA, zqB, zqC]
            (refine wpFp_eff rfl ?_ (fun wf hXf hE K hK => ?_); rfl; obtain ⟨osf, df, rfl⟩ := hXf.more; go_simp; refine (call_match3 _ _ (arOne v s1) ⟨⟨R, 1, KL⟩, D7, m7, c7⟩ (arOne y0 q0) v y0 0 _ (HT.out.ext (by with_reducible repeat (first | exact Ext.refl _ | exact hwW3 | apply Ext.drew | apply Ext.alloc | apply Ext.more_))) hE rfl rv K0.out K4.out rfl ry0 U0.out (Or.inr (Nat.le_refl 1)) (placeO (justN KL v)) (Or.inl ⟨rfl, rfl⟩)).mono ?_; rintro e w' ⟨D11, m11, c11, rfl, hN, hb⟩; refine hK _ _ (fun W => ArrIn W D11 m11 c11 (placeO (justN KL v)).l) (by (try simp only [more_drew, more_more, Array.append_assoc]); exact hb) (fun _ _ hx h => h.ext hx) hN.arr ?_)
            try simp only [Act.put, zqA, zqB, zqC]
            iterate 2 ((refine wpFp_read (v := ?_) rfl ?_ (fun w1 h1 => ?_) ?_; rotate_left 1; rfl; (obtain ⟨os1, d1, rfl⟩ := h1.more; go_simp; first | done | rfl)); try simp only [Act.put, zqA, zqB, zqC])
            (refine wpFp_pure (v := ?_) rfl ?_ (fun w1 => ?_) ?_; rotate_left 1; rfl; (go_simp; first | done | rfl))
            try simp only [Act.put, zqA, zqB, zqC]
            refine wpFp_one fun osa da osb db hE => ?_
            try simp only [Act.put, zqA, zqB, zqC]
            iterate 2 ((refine wpTl_op rfl ?_ (fun K hK => ?_); rfl; go_simp; refine hK _ _ ?_); try simp only [Act.put, zqA, zqB, zqC])
            refine wpTl_nil ?_
            go_upto_region 7 with fail
            refine wp_world fun W4 hW4 => ?_
            obtain ⟨r11, hx34⟩ := var_at _ _ _ _ _ _ hW4
            have aT : ArrIn W4 D11 m11 c11 (placeO (justN KL v)).l := by rw [hW4]; exact hE.var3
            clear hW4 hE
            have hwW4 := hwW3.trans hx34
            have h4 := h3.ext hx34
            have aX4 := aX.ext hx34
            have aN4 := aN3.ext hx34
            have r9' := (hx34.block t9).trans r9
            have v2 : w.heap.size < W4.heap.size := Nat.lt_of_lt_of_le t2 hx34.size
            have v5 : p5 < W4.heap.size := Nat.lt_of_lt_of_le t5 hx34.size
            have v7 : p7 < W4.heap.size := Nat.lt_of_lt_of_le t7 hx34.size
            generalize W3.heap.size + osa.size = p11 at *
            have v9 := lt_of_block r9'
            have v11 := lt_of_block r11
            have a0 := hx34.cell_some a0'
            have a1 := hx34.cell_some a1'
            have a2 := hx34.cell_some a2'
            have d0 := hx34.cell_some d0'
            have d1 := hx34.cell_some d1'
            have d2 := hx34.cell_some d2'
            have e0 := hx34.cell_some f0
            have e1 := hx34.cell_some f1
            have e2 := hx34.cell_some f2
            clear a0' a1' a2' b0' b1' b2' b3' b4' b5' d0' d1' d2' f0 f1 f2 t2 t3 t5 t7 t9 aK3 aN3 aX h3 hwW3 hx34 r9
            go_upto_region 9 with fail
            have hrg := justN_range KL v
            rw [HKl.out] at hrg
            generalize justN KL v = t at *
            by_cases ht : t < 0
            · obtain rfl : t = -1 := by omega
              have hX : X9 = oneA (badV 6) := by rw [← HX9.out]; rfl
              clear HX9
              subst hX
              have aT : ArrIn W4 D11 m11 c11 [badV 6] := aT
              have aX4 : ArrIn W4 D9 m9 c9 [badV 6] := aX4
              have g0 : W4.cell? ⟨p11, 0, none⟩ = some (.int .i64 1) := cell_of_row _ _ 0 _ _ _ r11
              have g1 : W4.cell? ⟨p11, 1, none⟩ = some (.int .i64 1) := cell_of_row _ _ 1 _ _ _ r11
              have g2 : W4.cell? ⟨p11, 2, none⟩ = some (.slice D11 m11 c11) := cell_of_row _ _ 2 _ _ _ r11
              have i0 : W4.cell? ⟨p9, 0, none⟩ = some (.int .i64 1) := cell_of_row _ _ 0 _ _ _ r9'
              have i1 : W4.cell? ⟨p9, 1, none⟩ = some (.int .i64 1) := cell_of_row _ _ 1 _ _ _ r9'
              have i2 : W4.cell? ⟨p9, 2, none⟩ = some (.slice D9 m9 c9) := cell_of_row _ _ 2 _ _ _ r9'
              have z2 : sameA 1 1 [badV 6] 1 1 [badV 6] = true := by simp [sameA]
              clear hrg ht r11 r9' HKl
              refine wp_plan (S := Ext _) [(0, 0), (1, 1), (2, 1)] [] (by kernel_rfl) (by kernel_rfl) (by kernel_rfl) (fun _ _ d _ _ h => by cases d <;> exact h) (Ext.drew (Ext.refl _)) ?_
              (refine wpPl_read (v := ?_) rfl ?_ (fun _ h => ?_) ?_; rotate_left 1; rfl; (obtain ⟨_, _, rfl⟩ := h.more; go_simp; try rfl))
              try simp only [Act.put, zqA, zqB, zqC]
              (refine wpPl_eff rfl ?_ (fun K hK => ?_); rfl; go_simp; refine (refBad_any _ _).mono ?_; rintro e w' ⟨⟨D4, c4, rfl, hs4, hc4⟩, hb⟩; obtain ⟨os4, d4, rfl⟩ := hb.more; clear hb; (try simp only [more_more, Array.append_assoc] at hs4); refine hK _ _ ?_ ?_; (repeat (first | (with_reducible (first | exact Ext.refl _ | exact ext_d _ _ _ _ | exact ext_app _ _ _ _ _ | exact ext_app2 _ _ _ _ _ _ | exact ext_app3 _ _ _ _ _ _ _ | exact ext_app4 _ _ _ _ _ _ _ _ | exact ext_app5 _ _ _ _ _ _ _ _ _)) | ((with_reducible refine ext_suffix ⟨_, ?_⟩); (try simp only [Array.append_assoc]); rfl) | (with_reducible (first | apply Ext.drew | apply Ext.alloc | apply Ext.more_)) | apply Ext.drew | apply Ext.alloc | apply Ext.more_)))
              try simp only [Act.put, zqA, zqB, zqC]
              (refine wpPl_eff rfl ?_ (fun K hK => ?_); rfl; go_simp; refine (refSame_any _ _ _ _ _ _ _ _ _ _ [badV 6] [badV 6] _ (aT.ext (by repeat (first | (with_reducible (first | exact Ext.refl _ | exact ext_d _ _ _ _ | exact ext_app _ _ _ _ _ | exact ext_app2 _ _ _ _ _ _ | exact ext_app3 _ _ _ _ _ _ _)) | ((with_reducible refine ext_suffix ⟨_, ?_⟩); (try simp only [Array.append_assoc]); rfl) | (with_reducible (first | apply Ext.drew | apply Ext.alloc | apply Ext.more_))))) (ArrIn.mk (Rd.mono hs4 (Nat.zero_le _)) rfl hc4 (by decide) (by simpa using badV_ok 6 (by unfold I64; omega)))).mono ?_; rintro e w' ⟨rfl, hb⟩; obtain ⟨os6, d6, rfl⟩ := hb.more; clear hb; refine hK _ _ ?_ ?_; (repeat (first | (with_reducible (first | exact Ext.refl _ | exact ext_d _ _ _ _ | exact ext_app _ _ _ _ _ | exact ext_app2 _ _ _ _ _ _ | exact ext_app3 _ _ _ _ _ _ _ | exact ext_app4 _ _ _ _ _ _ _ _ | exact ext_app5 _ _ _ _ _ _ _ _ _)) | ((with_reducible refine ext_suffix ⟨_, ?_⟩); (try simp only [Array.append_assoc]); rfl) | (with_reducible (first | apply Ext.drew | apply Ext.alloc | apply Ext.more_)) | apply Ext.drew | apply Ext.alloc | apply Ext.more_)))
              try simp only [Act.put, zqA, zqB, zqC]
              refine wpPl_nil ?_
              go_wp2_with (go_at_call 12; (with_reducible refine (refSame_any _ _ _ _ _ _ _ _ _ _ [badV 6] [badV 6] _ (aX4.ext (by repeat (first | (with_reducible (first | exact Ext.refl _ | exact ext_d _ _ _ _ | exact ext_app _ _ _ _ _ | exact ext_app2 _ _ _ _ _ _ | exact ext_app3 _ _ _ _ _ _ _)) | ((with_reducible refine ext_suffix ⟨_, ?_⟩); (try simp only [Array.append_assoc]); rfl) | (with_reducible (first | apply Ext.drew | apply Ext.alloc | apply Ext.more_))))) (aT.ext (by repeat (first | (with_reducible (first | exact Ext.refl _ | exact ext_d _ _ _ _ | exact ext_app _ _ _ _ _ | exact ext_app2 _ _ _ _ _ _ | exact ext_app3 _ _ _ _ _ _ _)) | ((with_reducible refine ext_suffix ⟨_, ?_⟩); (try simp only [Array.append_assoc]); rfl) | (with_reducible (first | apply Ext.drew | apply Ext.alloc | apply Ext.more_)))))).mono ?_); rintro e w' ⟨rfl, hb⟩; obtain ⟨os, d, rfl⟩ := hb.more; clear hb)
              go_ret
              exact ⟨rfl, hwW4.trans (by repeat (first | (with_reducible (first | exact Ext.refl _ | exact ext_d _ _ _ _ | exact ext_app _ _ _ _ _ | exact ext_app2 _ _ _ _ _ _ | exact ext_app3 _ _ _ _ _ _ _)) | ((with_reducible refine ext_suffix ⟨_, ?_⟩); (try simp only [Array.append_assoc]); rfl) | (with_reducible (first | apply Ext.drew | apply Ext.alloc | apply Ext.more_))))⟩
            · obtain ⟨k, rfl⟩ : ∃ k : Nat, t = (k : Int) := ⟨t.toNat, by omega⟩
              have hkR : k < R := by omega
              have htb : ((k : Int) + 1).natAbs < T 15 := by have : T 15 = 1000000000000000 := (by decide); omega
              have hp11 : placeO (k : Int) = oneA (cntV ((k : Int) + 1)) := by unfold placeO; rw [if_neg ht]
              rw [hp11] at aT r11
              have ry := cnt_right htb
              have uy := whole_cnt htb
              have hX : X9 = ⟨1, C, (partA ⟨R, C, l⟩ k 0 1 C).l⟩ := by
                rw [← HX9.out, if_neg ht]; rfl
              have hIX : indexO ⟨R, C, l⟩ (wholeO (cntV ((k : Int) + 1))) (wholeO y0) = ⟨1, C, (partA ⟨R, C, l⟩ k 0 1 C).l⟩ := by
                rw [uy, U0.out]; unfold indexO
                rw [if_neg (fun h => h rfl), if_neg (fun h => h rfl), if_neg (by show ¬ ((k : Int) + 1 < 0 ∨ (0 : Int) < 0); omega), if_neg (by show ¬ ((R : Int) < (k : Int) + 1 ∨ (C : Int) < 0); omega)]
                rw [if_neg (by show ¬ (k : Int) + 1 = 0; omega), if_pos rfl, show ((k : Int) + 1).toNat - 1 = k by omega]
                rfl
              generalize (partA ⟨R, C, l⟩ k 0 1 C).l = L at *
              clear HX9 uy hp11
              subst hX
              have z3 : sameA 1 1 [cntV ((k : Int) + 1)] 1 1 [badV 6] = false := by simp [sameA, cntV, badV]
              have aT : ArrIn W4 D11 m11 c11 [cntV ((k : Int) + 1)] := aT
              have aX4 : ArrIn W4 D9 m9 c9 L := aX4
              generalize cntV ((k : Int) + 1) = y at *
              have hS : ∀ W B n cap, ArrIn W D11 m11 c11 [y] → ArrIn W B n cap [badV 6] → Calls Tryd.prog 12 #[AV 1 1 (.slice D11 m11 c11), AV 1 1 (.slice B n cap)] W fun e w' => e = .returned (.bool false) ∧ Ext W w' := by
                intro W B n cap ha hb
                have := refSame_any 1 1 1 1 D11 B m11 c11 n cap [y] [badV 6] W ha hb
                rw [z3] at this; exact this
              have z4 : sameA 1 C L 1 C L = true := by simp [sameA]
              have g0 : W4.cell? ⟨p11, 0, none⟩ = some (.int .i64 1) := cell_of_row _ _ 0 _ _ _ r11
              have g1 : W4.cell? ⟨p11, 1, none⟩ = some (.int .i64 1) := cell_of_row _ _ 1 _ _ _ r11
              have g2 : W4.cell? ⟨p11, 2, none⟩ = some (.slice D11 m11 c11) := cell_of_row _ _ 2 _ _ _ r11
              have i0 : W4.cell? ⟨p9, 0, none⟩ = some (.int .i64 1) := cell_of_row _ _ 0 _ _ _ r9'
              have i1 : W4.cell? ⟨p9, 1, none⟩ = some (.int .i64 C) := cell_of_row _ _ 1 _ _ _ r9'
              have i2 : W4.cell? ⟨p9, 2, none⟩ = some (.slice D9 m9 c9) := cell_of_row _ _ 2 _ _ _ r9'
              have IX := Lib.hid hIX
              clear hrg ht r11 r9' HKl z3 htb hIX
              refine wp_plan (S := Ext _) [(0, 0), (1, 1), (2, 1)] [] (by kernel_rfl) (by kernel_rfl) (by kernel_rfl) (fun _ _ d _ _ h => by cases d <;> exact h) (Ext.drew (Ext.refl _)) ?_
              (refine wpPl_read (v := ?_) rfl ?_ (fun _ h => ?_) ?_; rotate_left 1; rfl; (obtain ⟨_, _, rfl⟩ := h.more; go_simp; try rfl))
              try simp only [Act.put, zqA, zqB, zqC]
              (refine wpPl_eff rfl ?_ (fun K hK => ?_); rfl; go_simp; refine (refBad_any _ _).mono ?_; rintro e w' ⟨⟨D4, c4, rfl, hs4, hc4⟩, hb⟩; obtain ⟨os4, d4, rfl⟩ := hb.more; clear hb; (try simp only [more_more, Array.append_assoc] at hs4); refine hK _ _ ?_ ?_; (repeat (first | (with_reducible (first | exact Ext.refl _ | exact ext_d _ _ _ _ | exact ext_app _ _ _ _ _ | exact ext_app2 _ _ _ _ _ _ | exact ext_app3 _ _ _ _ _ _ _ | exact ext_app4 _ _ _ _ _ _ _ _ | exact ext_app5 _ _ _ _ _ _ _ _ _)) | ((with_reducible refine ext_suffix ⟨_, ?_⟩); (try simp only [Array.append_assoc]); rfl) | (with_reducible (first | apply Ext.drew | apply Ext.alloc | apply Ext.more_)) | apply Ext.drew | apply Ext.alloc | apply Ext.more_)))
              try simp only [Act.put, zqA, zqB, zqC]
              (refine wpPl_eff rfl ?_ (fun K hK => ?_); rfl; go_simp; refine (hS _ _ _ _ (aT.ext (by repeat (first | (with_reducible (first | exact Ext.refl _ | exact ext_d _ _ _ _ | exact ext_app _ _ _ _ _ | exact ext_app2 _ _ _ _ _ _ | exact ext_app3 _ _ _ _ _ _ _)) | ((with_reducible refine ext_suffix ⟨_, ?_⟩); (try simp only [Array.append_assoc]); rfl) | (with_reducible (first | apply Ext.drew | apply Ext.alloc | apply Ext.more_))))) (ArrIn.mk (Rd.mono hs4 (Nat.zero_le _)) rfl hc4 (by decide) (by simpa using badV_ok 6 (by unfold I64; omega)))).mono ?_; rintro e w' ⟨rfl, hb⟩; obtain ⟨os6, d6, rfl⟩ := hb.more; clear hb; refine hK _ _ ?_ ?_; (repeat (first | (with_reducible (first | exact Ext.refl _ | exact ext_d _ _ _ _ | exact ext_app _ _ _ _ _ | exact ext_app2 _ _ _ _ _ _ | exact ext_app3 _ _ _ _ _ _ _ | exact ext_app4 _ _ _ _ _ _ _ _ | exact ext_app5 _ _ _ _ _ _ _ _ _)) | ((with_reducible refine ext_suffix ⟨_, ?_⟩); (try simp only [Array.append_assoc]); rfl) | (with_reducible (first | apply Ext.drew | apply Ext.alloc | apply Ext.more_)) | apply Ext.drew | apply Ext.alloc | apply Ext.more_)))
              try simp only [Act.put, zqA, zqB, zqC]
              refine wpPl_nil ?_
              go_wp2_with (first | (go_at_call 10; go_loud ((with_reducible refine (index3_new l y y0 (by simp) (h4.ext (by repeat (first | (with_reducible (first | exact Ext.refl _ | exact ext_d _ _ _ _ | exact ext_app _ _ _ _ _ | exact ext_app2 _ _ _ _ _ _ | exact ext_app3 _ _ _ _ _ _ _)) | ((with_reducible refine ext_suffix ⟨_, ?_⟩); (try simp only [Array.append_assoc]); rfl) | (with_reducible (first | apply Ext.drew | apply Ext.alloc | apply Ext.more_))))) HR.out (aT.ext (by repeat (first | (with_reducible (first | exact Ext.refl _ | exact ext_d _ _ _ _ | exact ext_app _ _ _ _ _ | exact ext_app2 _ _ _ _ _ _ | exact ext_app3 _ _ _ _ _ _ _)) | ((with_reducible refine ext_suffix ⟨_, ?_⟩); (try simp only [Array.append_assoc]); rfl) | (with_reducible (first | apply Ext.drew | apply Ext.alloc | apply Ext.more_))))) (aN4.ext (by repeat (first | (with_reducible (first | exact Ext.refl _ | exact ext_d _ _ _ _ | exact ext_app _ _ _ _ _ | exact ext_app2 _ _ _ _ _ _ | exact ext_app3 _ _ _ _ _ _ _)) | ((with_reducible refine ext_suffix ⟨_, ?_⟩); (try simp only [Array.append_assoc]); rfl) | (with_reducible (first | apply Ext.drew | apply Ext.alloc | apply Ext.more_))))) ry ry0 ⟨1, C, L⟩ IX.out).mono ?_); rintro e w' ⟨D13, m13, c13, rfl, hN13, hb⟩; obtain ⟨os13, d13, rfl⟩ := hb.more; clear hb)) | (go_at_call 12; refine (refSame_any 1 C 1 C _ _ _ _ _ _ L L _ (aX4.ext (by repeat (first | (with_reducible (first | exact Ext.refl _ | exact ext_d _ _ _ _ | exact ext_app _ _ _ _ _ | exact ext_app2 _ _ _ _ _ _ | exact ext_app3 _ _ _ _ _ _ _)) | ((with_reducible refine ext_suffix ⟨_, ?_⟩); (try simp only [Array.append_assoc]); rfl) | (with_reducible (first | apply Ext.drew | apply Ext.alloc | apply Ext.more_))))) (hN13.arr.ext (by repeat (first | (with_reducible (first | exact Ext.refl _ | exact ext_d _ _ _ _ | exact ext_app _ _ _ _ _ | exact ext_app2 _ _ _ _ _ _ | exact ext_app3 _ _ _ _ _ _ _)) | ((with_reducible refine ext_suffix ⟨_, ?_⟩); (try simp only [Array.append_assoc]); rfl) | (with_reducible (first | apply Ext.drew | apply Ext.alloc | apply Ext.more_)))))).mono ?_; rintro e w' ⟨rfl, hb⟩; obtain ⟨os14, d14, rfl⟩ := hb.more; clear hb))
              go_ret
              exact ⟨rfl, hwW4.trans (by repeat (first | (with_reducible (first | exact Ext.refl _ | exact ext_d _ _ _ _ | exact ext_app _ _ _ _ _ | exact ext_app2 _ _ _ _ _ _ | exact ext_app3 _ _ _ _ _ _ _)) | ((with_reducible refine ext_suffix ⟨_, ?_⟩); (try simp only [Array.append_assoc]); rfl) | (with_reducible (first | apply Ext.drew | apply Ext.alloc | apply Ext.more_))))⟩
end Go.Proofs.YteigcfflljoioaaDoor
namespace Go.Proofs.YteigcfflljoioaaDoor
open Go.ChangeShapes Go.WideShapes Go.ChangeAt Go.RowKit Go.Deep
theorem own : ownKnob Tryd.prog.godebug = none := by kernel_rfl
theorem laidOut : laidOutB Tryd.prog = true := by kernel_rfl
theorem cells_num : Tryd.prog.cellsOf 26 = 2 := by kernel_rfl
theorem cells_int : Tryd.prog.cellsOf 3 = 1 := by kernel_rfl
/-- What all rows of this seat list. -/
def laid3 : List (String × DataW Unit) := [("math/bits.deBruijn32tab", Rows.laid_math_bits_deBruijn32tab), ("math/bits.deBruijn64tab", Rows.laid_math_bits_deBruijn64tab), ("internal/strconv.uint64pow10", Rows.laid_internal_strconv_uint64pow10)]
theorem pow10_data : (Rows.laid_internal_strconv_uint64pow10 : DataW Unit) = Lib.tabData .u64 Lib.pow10Tab := by
  unfold Rows.laid_internal_strconv_uint64pow10 Lib.tabData Lib.pow10Tab
  simp [List.range_succ]
theorem gPow : Tryd.prog.globalNamed "internal/strconv.uint64pow10" = some 1 := by kernel_rfl
theorem tPow : (Tryd.prog.globals[1]?).map (·.type) = some 121 := by kernel_rfl
theorem tab_of_laid {W : World} (h : laidMetH Tryd.prog laid3 W) : Tab W := by
  rw [MakeChecks.laidMetH_plain _ _ _ (by kernel_rfl)] at h
  obtain ⟨ps, ⟨g0, t0, cs0, f0, p0, q0, hg0, ht0, hv0, hd0, ⟨g1, t1, cs1, f1, p1, q1, hg1, ht1, hv1, hd1, ⟨g2, t2, cs2, f2, p2, q2, hg2, ht2, hv2, hd2, _, _⟩, _⟩, _⟩, _, _⟩ := h
  obtain rfl := Option.some.inj (gPow.symm.trans hg2)
  obtain rfl := Option.some.inj (tPow.symm.trans ht2)
  rw [pow10_data] at hd2
  unfold Tab Lib.TabIs
  rw [hv2, ← Lib.cells_of_tab Tryd.underlying121 Tryd.underlying89 (by kernel_rfl) (by kernel_rfl) hd2]
theorem door_met (os : Os) (args : Array Value) : laidMetH Tryd.prog laid3 ((World.doorLaid Tryd.prog 400 os).forCall (fun _ _ => 0) ⟨#[], args, []⟩).memory :=
  laidMetH_of_parts3 (fuel := 8) (laidMet_of_run' 8 (by kernel_rfl) (by kernel_rfl)) (by kernel_rfl) (by kernel_rfl)
set_option maxRecDepth 100000
section
variable {H : Type} {enc : TypeId × Value → H} {w : World} {base : Nat} {spare : Nat → Bool} {held : Bool}
theorem i64_of {n : Int} (h : (Lit.int .i64 n).wf = true) : I64 n := by
  simpa [Lit.wf, IntKind.min, IntKind.max, IntKind.signed, IntKind.bits, I64] using h
theorem trod_blocks_ {t : TypeId} {v : Value} {d : DataW H} {p : List MemPlace} (h : DataW.Trod enc Tryd.prog w base spare held t v d p) : ∀ x ∈ p, x.block < w.heap.size := by
  obtain ⟨m, hm⟩ := h
  exact DataW.trod_lt m _ _ _ hm
end
end Go.Proofs.YteigcfflljoioaaDoor
namespace Go.Proofs.YteigcfflljoioaaDoor
open Go.ChangeShapes Go.WideShapes Go.ChangeAt Go.RowKit Go.Deep
theorem cells_val : Tryd.prog.cellsOf 28 = 6 := by kernel_rfl
theorem cells_string : Tryd.prog.cellsOf 9 = 1 := by kernel_rfl
theorem cells_bool : Tryd.prog.cellsOf 4 = 1 := by kernel_rfl
theorem cells_arr : Tryd.prog.cellsOf 24 = 3 := by kernel_rfl
set_option maxRecDepth 100000
section
variable {H : Type} {enc : TypeId × Value → H} {w : World} {base : Nat} {spare : Nat → Bool} {held : Bool}
theorem open_num {fuel : Nat} {c1 c2 : Value} {x : DataW H × List MemPlace} (h : DataW.trod enc Tryd.prog w base spare held fuel 26 [c1, c2] = some x) : ∃ m e : Int, [c1, c2] = [.int .i64 m, .int .i64 e] ∧ I64 m ∧ I64 e := by
  obtain ⟨xs, n, rfl, _, hl, hxs, hf⟩ := DataW.trod_struct Tryd.underlying26 h
  obtain ⟨y0, hy0⟩ : ∃ y, xs[0]? = some y := ⟨_, List.getElem?_eq_getElem (by rw [hxs]; decide)⟩
  have g0 : DataW.trod enc Tryd.prog w base spare held n 3 [c1] = some y0 := by rw [← hy0]; have := hf 0 _ rfl; simpa [cells_int] using this
  obtain ⟨y1, hy1⟩ : ∃ y, xs[1]? = some y := ⟨_, List.getElem?_eq_getElem (by rw [hxs]; decide)⟩
  have g1 : DataW.trod enc Tryd.prog w base spare held n 3 [c2] = some y1 := by rw [← hy1]; have := hf 1 _ rfl; simpa [cells_int] using this
  obtain ⟨m, e0, _, w0⟩ := DataW.trod_int Tryd.underlying3 g0
  obtain ⟨e, e1, _, w1⟩ := DataW.trod_int Tryd.underlying3 g1
  simp only [List.cons.injEq, and_true] at e0 e1
  subst e0 e1
  exact ⟨m, e, rfl, i64_of w0, i64_of w1⟩
set_option maxHeartbeats 800000 in
theorem open_val {fuel : Nat} {cs : List Value} {x : DataW H × List MemPlace} (h : DataW.trod enc Tryd.prog w base spare held fuel 28 cs = some x) : ∃ y : Val, cs = y.cells ∧ y.ok := by
  obtain ⟨xs, n, rfl, _, hl, hxs, hf⟩ := DataW.trod_struct Tryd.underlying28 h
  rw [cells_val] at hl
  match cs, hl with
  | [c0, c1, c2, c3, c4, c5], _ =>
    obtain ⟨y0, hy0⟩ : ∃ y, xs[0]? = some y := ⟨_, List.getElem?_eq_getElem (by rw [hxs]; decide)⟩
    have g0 : DataW.trod enc Tryd.prog w base spare held n 3 [c0] = some y0 := by rw [← hy0]; have := hf 0 _ rfl; simpa [cells_int] using this
    obtain ⟨y1, hy1⟩ : ∃ y, xs[1]? = some y := ⟨_, List.getElem?_eq_getElem (by rw [hxs]; decide)⟩
    have g1 : DataW.trod enc Tryd.prog w base spare held n 26 [c1, c2] = some y1 := by rw [← hy1]; have := hf 1 _ rfl; simpa [cells_num] using this
    obtain ⟨y2, hy2⟩ : ∃ y, xs[2]? = some y := ⟨_, List.getElem?_eq_getElem (by rw [hxs]; decide)⟩
    have g2 : DataW.trod enc Tryd.prog w base spare held n 9 [c3] = some y2 := by rw [← hy2]; have := hf 2 _ rfl; simpa [cells_string] using this
    obtain ⟨y3, hy3⟩ : ∃ y, xs[3]? = some y := ⟨_, List.getElem?_eq_getElem (by rw [hxs]; decide)⟩
    have g3 : DataW.trod enc Tryd.prog w base spare held n 4 [c4] = some y3 := by rw [← hy3]; have := hf 3 _ rfl; simpa [cells_bool] using this
    obtain ⟨y4, hy4⟩ : ∃ y, xs[4]? = some y := ⟨_, List.getElem?_eq_getElem (by rw [hxs]; decide)⟩
    have g4 : DataW.trod enc Tryd.prog w base spare held n 3 [c5] = some y4 := by rw [← hy4]; have := hf 4 _ rfl; simpa [cells_int] using this
    obtain ⟨k, e0, _, w0⟩ := DataW.trod_int Tryd.underlying3 g0
    obtain ⟨m, ex, e1, w1, w2⟩ := open_num g1
    obtain ⟨t, e3, _, w3⟩ := DataW.trod_string Tryd.underlying9 g2
    obtain ⟨b, e4, _⟩ := DataW.trod_bool Tryd.underlying4 g3
    obtain ⟨f, e5, _, w5⟩ := DataW.trod_int Tryd.underlying3 g4
    simp only [List.cons.injEq, and_true] at e0 e1 e3 e4 e5
    obtain ⟨rfl, rfl⟩ := e1
    subst e0 e3 e4 e5
    exact ⟨⟨k, m, ex, t, b, f⟩, rfl, i64_of w0, w1, w2, w3, i64_of w5⟩
/-- A slice of values. -/
theorem open_vals {fuel : Nat} {a : Option Addr} {len cap : Nat} {x : DataW H × List MemPlace} (h : DataW.trod enc Tryd.prog w base spare held fuel 22 [.slice a len cap] = some x) : ∃ l, ArrIn w a len cap l := by
  rcases open_slice Tryd.underlying22 h with ⟨hcs, _⟩ | ⟨ad, len', cap', m, n, D, Pl, hcs, hb, hl, hm, hmm, _, hi⟩
  · simp only [List.cons.injEq, Value.slice.injEq, and_true] at hcs
    obtain ⟨rfl, rfl, rfl⟩ := hcs
    exact ⟨[], SlV.nil _ _ _, rfl, Nat.le_refl _, by omega, by simp⟩
  · simp only [List.cons.injEq, Value.slice.injEq, and_true] at hcs
    obtain ⟨rfl, rfl, rfl⟩ := hcs
    have hlm : len ≤ m := by rw [hmm]; split <;> omega
    obtain ⟨X, hX⟩ := choose_lt (α := Val) (n := len) (p := fun i y => w.cells? base (ad.add (i * 6)) 6 = some y.cells ∧ y.ok) (fun i hil => by
      obtain ⟨cs', h1, h2⟩ := hi i (by omega)
      rw [cells_val] at h1
      obtain ⟨y, rfl, hy⟩ := open_val h2
      exact ⟨y, h1, hy⟩)
    refine ⟨(List.range len).map X, ?_, by simp, hl, by simp only [maxLen] at hm; omega, ?_⟩
    · intro j u hu
      have hj : j / 6 < len := by
        have := (List.getElem?_eq_some_iff.1 hu).1
        rw [vcells_length] at this
        simp at this
        omega
      have hat := vcells_at ((List.range len).map X) (j / 6) (X (j / 6)) (by simp [hj]) (j % 6) (by omega)
      rw [show j / 6 * 6 + j % 6 = j by omega, hu] at hat
      obtain ⟨_, _, hc⟩ := World.cells?_some (hX (j / 6) hj).1
      have h6 := hc (j % 6) (by omega)
      rw [← hat, Go.Deep.add_add, show j / 6 * 6 + j % 6 = j by omega] at h6
      obtain ⟨b, off, spot⟩ := ad
      have hsp : spot = none := by
        obtain ⟨_, _, hc0⟩ := World.cells?_some (hX 0 (by omega)).1
        have h0 := hc0 0 (by omega)
        simp [Addr.add, Val.cells] at h0
        exact World.cell?_spot h0
      subst hsp
      rw [Addr.add_mid] at h6
      exact ⟨b, off, rfl, Nat.zero_le _, h6⟩
    · intro y hy
      simp only [List.mem_map, List.mem_range] at hy
      obtain ⟨i, hi', rfl⟩ := hy
      exact (hX i hi').2
theorem open_arr {r : Reach} {b0 : Nat} {v : Value} {d : DataW H} {p : List MemPlace} (hv : Value.okWide Tryd.prog w r b0 24 v) (h : DataW.Trod enc Tryd.prog w base spare held 24 v d p) :
    ∃ (a c : Int) (A : Option Addr) (n cap : Nat) (l : List Val), v = AV a c (.slice A n cap) ∧ I64 a ∧ I64 c ∧ ArrIn w A n cap l := by
  obtain ⟨c0, c1, c2, y0, y1, y2, m, rfl, rfl, rfl, hy0, hy1, hy2⟩ := Joins.open_agg3 Tryd.underlying24 (by kernel_rfl) cells_arr hv h
  obtain ⟨a, e0, _, w0⟩ := DataW.trod_int Tryd.underlying3 hy0
  obtain ⟨c, e1, _, w1⟩ := DataW.trod_int Tryd.underlying3 hy1
  obtain ⟨A, n, cap, e2⟩ := Joins.slice_form Tryd.underlying22 hy2
  simp only [List.cons.injEq, and_true] at e0 e1 e2
  subst e0 e1 e2
  obtain ⟨l, hl⟩ := open_vals hy2
  exact ⟨a, c, A, n, cap, l, rfl, i64_of w0, i64_of w1, hl⟩
theorem open_valV {r : Reach} {b0 : Nat} {v : Value} {d : DataW H} {p : List MemPlace} (hv : Value.okWide Tryd.prog w r b0 28 v) (h : DataW.Trod enc Tryd.prog w base spare held 28 v d p) :
    ∃ x : Val, v = VV x.kind x.mant x.exp x.text x.truth x.fault ∧ x.ok := by
  obtain ⟨cs, rfl, hsz⟩ : ∃ cs, v = .agg cs ∧ cs.size = Tryd.prog.cellsOf 28 := by
    simp only [Value.okWide, Tryd.underlying28] at hv
    obtain ⟨cs, h1, h2, _⟩ := hv
    exact ⟨cs, h1, h2⟩
  obtain ⟨fuel, hf⟩ := h
  obtain ⟨cl⟩ := cs
  have hf' : DataW.trod enc Tryd.prog w base spare held fuel 28 cl = some (d, p) := by simpa [Value.cells] using hf
  obtain ⟨x, rfl, hx⟩ := open_val hf'
  exact ⟨x, rfl, hx⟩
end
end Go.Proofs.YteigcfflljoioaaDoor
