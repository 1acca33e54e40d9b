/- What the rows' proofs lean on: the contracts of the functions that they reach, and plain facts (part P2). -/
import Derived.WalkKit
import Derived.WalkLawsBesides
import Derived.WalkSpells
import Derived.Outline
import Derived.Below
import Derived.Deep.RegionHeld3
import Derived.Deep.DeepCutAuto
import Derived.Deep.AppendLies
import Derived.Maps.AppendAt
import Derived.Lib.Hide
import Derived.OrdersHeld
import Derived.Test.YtlfbdodokldkhaaGreatDoorProg
import Derived.Shelf.Small.Bits
import Derived.Shelf.Small.Strs
import Derived.Shelf.Strconv.Itoa0
import Derived.Shelf.Strconv.Itoa1
import Derived.Shelf.LaysM
import Derived.Shelf.Strconv.Itoa2
import Derived.Shelf.Bits.Mul64
import Derived.Lib.ItoaMem
import Derived.Lib.OthersKept
import Derived.Deep.CutBlock
import Derived.Laws.Bits64b
import Derived.Lib.AppendZeros
import Derived.Lib.Bytealg
import Derived.Laws.RangeAny
import Derived.Maps.OwnSet
import Derived.Maps.Own
import Derived.Laws.EntriesVeiled
import Derived.Lib.ConvBytes
import Derived.Lib.SlBytesRow
import Derived.Lib.SmallJoins
import Derived.RegionTactic
import Derived.Shelf.SlIter.Nil
import Derived.Shelf.SortM.Plain
import Derived.Shelf.SortM.SortNone
import Derived.Ground.GgzProg
import Derived.Ground.SlgmProg
import Derived.Test.YtlfbdodokldkhaaGreatDoorRows
import Derived.Test.YtlfbdodokldkhaaGreatDoorCards
import Derived.Test.YtlfbdodokldkhaaGreatDoorTie
import Derived.ProofKit
import Derived.LaidMore
import Derived.OpenShut
import Derived.ShutString
import Derived.ChangeOld
import Derived.Stop.Joined
import Derived.Deep.Slices
import Derived.SevenTiedAt
import Derived.Test.YtlfbdodokldkhaaGreatDoorP1
set_option linter.unusedSimpArgs false
set_option linter.unusedVariables false
set_option maxRecDepth 100000
namespace Go.Proofs.YtlfbdodokldkhaaGreatDoor
open Go.RowKit NM
theorem ArgsIn.first15 {w : World} {A : Option Addr} {n cap : Nat} {xs : List Ar} (h : ArgsIn w A n cap xs) (h1 : 1 ≤ n) : (argN xs 0).right := by
  have hl := h.len
  cases xs with
  | nil => simp at hl; omega
  | cons a l => exact (h.all a (by simp)).right
abbrev cutV (c : Int × Int × Bool) : Value := .tuple #[.int .i64 c.1, .int .i64 c.2.1, .bool c.2.2]
set_option maxHeartbeats 1000000 in
theorem rcut15_any (n : Int) (h : Nat) (take out : Bool) (w : World) (hn : I64 n) (h1 : 1 ≤ h) (hh : h ≤ 4096) :
    Calls Tryz.prog 77 #[.int .i64 n, .int .i64 (h : Int), .bool take, .bool out] w fun e w' => e = .returned (cutV (cutT n h take out)) ∧ Ext w w' := by
  unfold I64 at hn
  cases take with
  | true =>
    cases out with
    | true =>
      rw [show cutT n h true true = (0, (h : Int), true) by unfold cutT; rw [if_pos rfl, if_pos (Or.inl rfl)]; rfl]
      (go_enter Tryz.func77, Tryz.ntmps77; go_wp2_with fail; exact bodyPost_ret (v := .tuple #[.int .i64 (0), .int .i64 ((h : Int)), .bool true]) (by simp [results, Tryz.results77, go_sem]) rfl ⟨rfl, by with_reducible repeat (first | exact Ext.refl _ | apply Ext.drew | apply Ext.alloc | apply Ext.more_)⟩)
    | false =>
      by_cases q1 : (h : Int) ≤ n
      · have hz : (n != 0) = true := by simp; omega
        rw [show cutT n h true false = (0, (h : Int), true) by unfold cutT; rw [if_pos rfl, if_pos (Or.inr (Or.inl q1))]; simp; omega]
        (go_enter Tryz.func77, Tryz.ntmps77; go_wp2_with fail; exact bodyPost_ret (v := .tuple #[.int .i64 (0), .int .i64 ((h : Int)), .bool true]) (by simp [results, Tryz.results77, go_sem]) rfl ⟨rfl, by with_reducible repeat (first | exact Ext.refl _ | apply Ext.drew | apply Ext.alloc | apply Ext.more_)⟩)
      · by_cases q2 : n ≤ -(h : Int)
        · have hz : (n != 0) = true := by simp; omega
          rw [show cutT n h true false = (0, (h : Int), true) by unfold cutT; rw [if_pos rfl, if_pos (Or.inr (Or.inr q2))]; simp; omega]
          (go_enter Tryz.func77, Tryz.ntmps77; go_wp2_with fail; exact bodyPost_ret (v := .tuple #[.int .i64 (0), .int .i64 ((h : Int)), .bool true]) (by simp [results, Tryz.results77, go_sem]) rfl ⟨rfl, by with_reducible repeat (first | exact Ext.refl _ | apply Ext.drew | apply Ext.alloc | apply Ext.more_)⟩)
        · by_cases q3 : 0 < n
          · rw [show cutT n h true false = (0, n, true) by unfold cutT; rw [if_pos rfl, if_neg (by rintro (e | e | e) <;> first | exact q1 e | exact q2 e | cases e), if_pos q3]]
            (go_enter Tryz.func77, Tryz.ntmps77; go_wp2_with fail; exact bodyPost_ret (v := .tuple #[.int .i64 (0), .int .i64 (n), .bool true]) (by simp [results, Tryz.results77, go_sem]) rfl ⟨rfl, by with_reducible repeat (first | exact Ext.refl _ | apply Ext.drew | apply Ext.alloc | apply Ext.more_)⟩)
          · have hw : IntKind.i64.wrap ((h : Int) + n) = (h : Int) + n := by rw [IntKind.wrap_i64]; omega
            by_cases q4 : n = 0
            · subst q4
              rw [show cutT 0 h true false = ((h : Int) + 0, (h : Int), false) by unfold cutT; rw [if_pos rfl, if_neg (by rintro (e | e | e) <;> first | exact q1 e | exact q2 e | cases e), if_neg q3]; rfl]
              (go_enter Tryz.func77, Tryz.ntmps77; go_wp2_with fail; exact bodyPost_ret (v := .tuple #[.int .i64 ((h : Int) + 0), .int .i64 ((h : Int)), .bool false]) (by simp [results, Tryz.results77, go_sem]) rfl ⟨rfl, by with_reducible repeat (first | exact Ext.refl _ | apply Ext.drew | apply Ext.alloc | apply Ext.more_)⟩)
            · have hz : (n != 0) = true := by simp; omega
              rw [show cutT n h true false = ((h : Int) + n, (h : Int), true) by unfold cutT; rw [if_pos rfl, if_neg (by rintro (e | e | e) <;> first | exact q1 e | exact q2 e | cases e), if_neg q3]; simp; omega]
              (go_enter Tryz.func77, Tryz.ntmps77; go_wp2_with fail; exact bodyPost_ret (v := .tuple #[.int .i64 ((h : Int) + n), .int .i64 ((h : Int)), .bool true]) (by simp [results, Tryz.results77, go_sem]) rfl ⟨rfl, by with_reducible repeat (first | exact Ext.refl _ | apply Ext.drew | apply Ext.alloc | apply Ext.more_)⟩)
  | false =>
    by_cases q1 : (h : Int) ≤ n
    · rw [show cutT n h false out = (0, 0, false) by unfold cutT; rw [if_neg (by simp), if_pos (Or.inl q1)]]
      (go_enter Tryz.func77, Tryz.ntmps77; go_wp2_with fail; exact bodyPost_ret (v := .tuple #[.int .i64 (0), .int .i64 (0), .bool false]) (by simp [results, Tryz.results77, go_sem]) rfl ⟨rfl, by with_reducible repeat (first | exact Ext.refl _ | apply Ext.drew | apply Ext.alloc | apply Ext.more_)⟩)
    · by_cases q2 : n ≤ -(h : Int)
      · rw [show cutT n h false out = (0, 0, false) by unfold cutT; rw [if_neg (by simp), if_pos (Or.inr q2)]]
        (go_enter Tryz.func77, Tryz.ntmps77; go_wp2_with fail; exact bodyPost_ret (v := .tuple #[.int .i64 (0), .int .i64 (0), .bool false]) (by simp [results, Tryz.results77, go_sem]) rfl ⟨rfl, by with_reducible repeat (first | exact Ext.refl _ | apply Ext.drew | apply Ext.alloc | apply Ext.more_)⟩)
      · by_cases q3 : 0 ≤ n
        · rw [show cutT n h false out = (n, (h : Int), true) by unfold cutT; rw [if_neg (by simp), if_neg (by rintro (e | e) <;> first | exact q1 e | exact q2 e), if_pos q3]]
          (go_enter Tryz.func77, Tryz.ntmps77; go_wp2_with fail; exact bodyPost_ret (v := .tuple #[.int .i64 (n), .int .i64 ((h : Int)), .bool true]) (by simp [results, Tryz.results77, go_sem]) rfl ⟨rfl, by with_reducible repeat (first | exact Ext.refl _ | apply Ext.drew | apply Ext.alloc | apply Ext.more_)⟩)
        · have hw : IntKind.i64.wrap ((h : Int) + n) = (h : Int) + n := by rw [IntKind.wrap_i64]; omega
          rw [show cutT n h false out = (0, (h : Int) + n, true) by unfold cutT; rw [if_neg (by simp), if_neg (by rintro (e | e) <;> first | exact q1 e | exact q2 e), if_neg q3]]
          (go_enter Tryz.func77, Tryz.ntmps77; go_wp2_with fail; exact bodyPost_ret (v := .tuple #[.int .i64 (0), .int .i64 ((h : Int) + n), .bool true]) (by simp [results, Tryz.results77, go_sem]) rfl ⟨rfl, by with_reducible repeat (first | exact Ext.refl _ | apply Ext.drew | apply Ext.alloc | apply Ext.more_)⟩)
set_option maxHeartbeats 4000000 in
theorem rpart15_any (A : Option Addr) (n cap : Nat) (xs : List Ar) (take : Bool) (w : World) (h : ArgsIn w A n cap xs) (h1 : 1 ≤ n) :
    Calls Tryz.prog 38 #[.slice A n cap, .bool take] w fun e w' => ResA w (docPart xs take) e w' := by
  obtain ⟨R, C, l, b1, off1, n1, cap1, b, off, x0, ha, rfl, ⟨v0, v1, v2⟩, _, hc1, _, _, _, hbl, _, _, _, harr, _⟩ := h.first h1
  have hxr : NA.right ⟨R, C, l⟩ := (h.all _ (List.mem_of_getElem? ha)).right
  have hcap := h.cap
  have hsm := h.small
  simp only [Nat.zero_mul, Nat.add_zero] at v0 v1 v2
  have hx0 : argN xs 0 = ⟨R, C, l⟩ := by unfold argN; rw [ha]
  obtain ⟨r1, r2, r3, r4, r5⟩ := rightA_nat.1 hxr
  simp only at r1 r2 r3 r4
  have hR4 : R ≤ 4096 := Nat.le_trans (Nat.le_mul_of_pos_right R r2) r3
  have hC4 : C ≤ 4096 := Nat.le_trans (Nat.le_mul_of_pos_left C r1) r3
  have n0 := fun W (hW : ArgsIn W (some ⟨b, off, none⟩) n cap xs) => rnumber15_any _ n cap xs 1 0 W hW _ rfl
  have n2 := fun W (hW : ArgsIn W (some ⟨b, off, none⟩) n cap xs) => rnumber15_any _ n cap xs 2 0 W hW _ rfl
  have l1 := fun W (hW : ArgsIn W (some ⟨b, off, none⟩) n cap xs) => left_any _ n cap xs 1 W hW _ rfl
  have l2 := fun W (hW : ArgsIn W (some ⟨b, off, none⟩) n cap xs) => left_any _ n cap xs 2 W hW _ rfl
  have i1 : I64 (numO xs 1 0).1 := numO_i64 h (by unfold I64; omega)
  have i2 : I64 (numO xs 2 0).1 := numO_i64 h (by unfold I64; omega)
  have f1 := numO_bd (k := 1) (l := 0) h
  have f2 := numO_bd (k := 2) (l := 0) h
  unfold docPart
  rw [hx0]
  show Calls _ _ _ _ fun e w' => ResA w (partT ⟨R, C, l⟩ (numO xs 1 0) (numO xs 2 0) (cutT (numO xs 1 0).1 R take (!givenB xs 1)) (cutT (numO xs 2 0).1 C take (!givenB xs 2))) e w'
  generalize numO xs 1 0 = mm at *
  generalize numO xs 2 0 = kk at *
  generalize (!givenB xs 1) = g1 at *
  generalize (!givenB xs 2) = g2 at *
  obtain ⟨mi, mf⟩ := mm
  obtain ⟨ki, kf⟩ := kk
  simp only [show ((1 : Nat) : Int) = 1 from rfl, show ((2 : Nat) : Int) = 2 from rfl] at n0 n2 l1 l2 f1 f2 i1 i2
  have H := Lib.hid h
  have HA := Lib.hid harr
  have k1 := fun W => rcut15_any mi R take g1 W i1 r1 hR4
  have k2 := fun W => rcut15_any ki C take g2 W i2 r2 hC4
  have HC1 : (cutT mi R take g1).2.2 = true → ∃ lo hi : Nat, cutT mi R take g1 = ((lo : Int), (hi : Int), true) ∧ lo < hi ∧ hi ≤ R := by
    intro ht
    rcases cut_cases (n := mi) (h := R) take g1 r1 with hf | ⟨ps, lo, hi, e, q1, q2, _⟩
    · rw [hf] at ht; cases ht
    · exact ⟨lo, hi, e, q1, q2⟩
  have HC2 : (cutT ki C take g2).2.2 = true → ∃ lo hi : Nat, cutT ki C take g2 = ((lo : Int), (hi : Int), true) ∧ lo < hi ∧ hi ≤ C := by
    intro ht
    rcases cut_cases (n := ki) (h := C) take g2 r2 with hf | ⟨ps, lo, hi, e, q1, q2, _⟩
    · rw [hf] at ht; cases ht
    · exact ⟨lo, hi, e, q1, q2⟩
  clear h harr i1 i2 ha hx0 r4 r5
  generalize cutT mi R take g1 = cc1 at *
  generalize cutT ki C take g2 = cc2 at *
  obtain ⟨X, hX⟩ : ∃ X, partT ⟨R, C, l⟩ (mi, mf) (ki, kf) cc1 cc2 = X := ⟨_, rfl⟩
  rw [hX]
  by_cases hmf : mf = 0
  · subst hmf
    by_cases hkf : kf = 0
    · subst hkf
      obtain ⟨c1, c2, c3⟩ := cc1
      obtain ⟨e1, e2, e3⟩ := cc2
      have hX' : (if c3 = false ∨ e3 = false then aloneO 9 else partA ⟨R, C, l⟩ c1.toNat e1.toNat (c2 - c1).toNat (e2 - e1).toNat) = X := by rw [← hX]; unfold partT; simp only [ne_eq, not_true_eq_false, if_false]
      simp only [cutV] at k1 k2 HC1 HC2
      have HK1 := Lib.hid k1
      have HK2 := Lib.hid k2
      clear hX f1 f2 k1 k2
      cases c3 with
      | false =>
        obtain rfl : aloneO 9 = X := by rw [← hX', if_pos (Or.inl rfl)]
        clear hX' HC1 HC2
        go_enter Tryz.func38, Tryz.ntmps38
        go_upto_region 8 with (first | (go_at_call 76; (with_reducible refine (n0 _ (H.out.ext (by with_reducible repeat (first | exact Ext.refl _ | apply Ext.drew | apply Ext.alloc | apply Ext.more_)))).mono ?_); rintro e w' ⟨rfl, hb⟩; obtain ⟨osa, da, rfl⟩ := hb.more; clear hb) | (go_at_call 76; (with_reducible refine (n2 _ (H.out.ext (by with_reducible repeat (first | exact Ext.refl _ | apply Ext.drew | apply Ext.alloc | apply Ext.more_)))).mono ?_); rintro e w' ⟨rfl, hb⟩; obtain ⟨osb, db, rfl⟩ := hb.more; clear hb))
        refine wp_plan (S := Ext _) [(0, 0), (1, 0), (2, 0), (3, 0), (4, 0), (5, 1), (6, 1), (7, 0), (8, 0), (9, 0), (10, 0), (11, 0), (12, 0), (13, 0)] [] (by kernel_rfl) (by kernel_rfl) (by kernel_rfl) (fun _ _ d _ _ h => by cases d <;> exact h) (Ext.drew (Ext.refl _)) ?_
        iterate 5 ((refine wpPl_read (v := ?_) rfl ?_ (fun _ h => ?_) ?_; rotate_left 1; rfl; (obtain ⟨_, _, rfl⟩ := h.more; go_simp; try rfl)); try simp only [Act.put, zqA, zqB, zqC])
        (refine wpPl_eff rfl ?_ (fun K hK => ?_); rfl; go_simp; refine (l1 _ (H.out.ext (by with_reducible repeat (first | exact Ext.refl _ | apply Ext.drew | apply Ext.alloc | apply Ext.more_)))).mono ?_; rintro e w' ⟨rfl, hb⟩; obtain ⟨osl, dl, rfl⟩ := hb.more; clear hb; refine hK _ _ ?_ ?_; (repeat (first | (with_reducible (first | exact Ext.refl _ | exact ext_d _ _ _ _ | exact ext_app _ _ _ _ _ | exact ext_app2 _ _ _ _ _ _ | exact ext_app3 _ _ _ _ _ _ _ | exact ext_app4 _ _ _ _ _ _ _ _ | exact ext_app5 _ _ _ _ _ _ _ _ _)) | ((with_reducible refine ext_suffix ⟨_, ?_⟩); (try simp only [Array.append_assoc]); rfl) | (with_reducible (first | apply Ext.drew | apply Ext.alloc | apply Ext.more_)) | apply Ext.drew | apply Ext.alloc | apply Ext.more_)))
        try simp only [Act.put, zqA, zqB, zqC]
        (refine wpPl_eff rfl ?_ (fun K hK => ?_); rfl; go_simp; refine (HK1.out _).mono ?_; rintro e w' ⟨rfl, hb⟩; obtain ⟨osk, dk, rfl⟩ := hb.more; clear hb; refine hK _ _ ?_ ?_; (repeat (first | (with_reducible (first | exact Ext.refl _ | exact ext_d _ _ _ _ | exact ext_app _ _ _ _ _ | exact ext_app2 _ _ _ _ _ _ | exact ext_app3 _ _ _ _ _ _ _ | exact ext_app4 _ _ _ _ _ _ _ _ | exact ext_app5 _ _ _ _ _ _ _ _ _)) | ((with_reducible refine ext_suffix ⟨_, ?_⟩); (try simp only [Array.append_assoc]); rfl) | (with_reducible (first | apply Ext.drew | apply Ext.alloc | apply Ext.more_)) | apply Ext.drew | apply Ext.alloc | apply Ext.more_)))
        try simp only [Act.put, zqA, zqB, zqC]
        iterate 7 ((refine wpPl_read (v := ?_) rfl ?_ (fun _ h => ?_) ?_; rotate_left 1; rfl; (obtain ⟨_, _, rfl⟩ := h.more; go_simp; try rfl)); try simp only [Act.put, zqA, zqB, zqC])
        refine wpPl_nil ?_
        go_upto_region 9 with fail
        try simp only [more_more, drew_more, more_drew, Array.append_assoc]
        refine wp_plan (S := Ext _) [(0, 0), (1, 0), (2, 0), (3, 0), (4, 0), (5, 1), (6, 1), (7, 0), (8, 0), (9, 0), (10, 0), (11, 0), (12, 0), (13, 0)] [] (by kernel_rfl) (by kernel_rfl) (by kernel_rfl) (fun _ _ d _ _ h => by cases d <;> exact h) (Ext.drew (Ext.refl _)) ?_
        iterate 5 ((refine wpPl_read (v := ?_) rfl ?_ (fun _ h => ?_) ?_; rotate_left 1; rfl; (obtain ⟨_, _, rfl⟩ := h.more; go_simp; try rfl)); try simp only [Act.put, zqA, zqB, zqC])
        (refine wpPl_eff rfl ?_ (fun K hK => ?_); rfl; go_simp; refine (l2 _ (H.out.ext (by with_reducible repeat (first | exact Ext.refl _ | apply Ext.drew | apply Ext.alloc | apply Ext.more_)))).mono ?_; rintro e w' ⟨rfl, hb⟩; obtain ⟨osl, dl, rfl⟩ := hb.more; clear hb; refine hK _ _ ?_ ?_; (repeat (first | (with_reducible (first | exact Ext.refl _ | exact ext_d _ _ _ _ | exact ext_app _ _ _ _ _ | exact ext_app2 _ _ _ _ _ _ | exact ext_app3 _ _ _ _ _ _ _ | exact ext_app4 _ _ _ _ _ _ _ _ | exact ext_app5 _ _ _ _ _ _ _ _ _)) | ((with_reducible refine ext_suffix ⟨_, ?_⟩); (try simp only [Array.append_assoc]); rfl) | (with_reducible (first | apply Ext.drew | apply Ext.alloc | apply Ext.more_)) | apply Ext.drew | apply Ext.alloc | apply Ext.more_)))
        try simp only [Act.put, zqA, zqB, zqC]
        (refine wpPl_eff rfl ?_ (fun K hK => ?_); rfl; go_simp; refine (HK2.out _).mono ?_; rintro e w' ⟨rfl, hb⟩; obtain ⟨osk, dk, rfl⟩ := hb.more; clear hb; refine hK _ _ ?_ ?_; (repeat (first | (with_reducible (first | exact Ext.refl _ | exact ext_d _ _ _ _ | exact ext_app _ _ _ _ _ | exact ext_app2 _ _ _ _ _ _ | exact ext_app3 _ _ _ _ _ _ _ | exact ext_app4 _ _ _ _ _ _ _ _ | exact ext_app5 _ _ _ _ _ _ _ _ _)) | ((with_reducible refine ext_suffix ⟨_, ?_⟩); (try simp only [Array.append_assoc]); rfl) | (with_reducible (first | apply Ext.drew | apply Ext.alloc | apply Ext.more_)) | apply Ext.drew | apply Ext.alloc | apply Ext.more_)))
        try simp only [Act.put, zqA, zqB, zqC]
        iterate 7 ((refine wpPl_read (v := ?_) rfl ?_ (fun _ h => ?_) ?_; rotate_left 1; rfl; (obtain ⟨_, _, rfl⟩ := h.more; go_simp; try rfl)); try simp only [Act.put, zqA, zqB, zqC])
        refine wpPl_nil ?_
        go_wp2_with (go_at_call 20; (with_reducible refine (rbad_res 9 (by omega) _).mono ?_); rintro e w' ⟨D, m, cc, rfl, hD, hb⟩; obtain ⟨os5, d5, rfl⟩ := hb.more; clear hb; have hDr := hD.rd)
        exact bodyPost_ret (v := AV (aloneO 9).R (aloneO 9).C (.slice D m cc)) (by simp [results, Tryz.results38, go_sem]) rfl ⟨D, m, cc, rfl, ⟨(by (try simp only [more_alloc, more_more] at hDr); (try simp only [more_alloc, more_more]); (try simp only [drew_more] at hDr); (try simp only [more_drew] at hDr); (try simp only [Array.append_assoc] at hDr); (try simp only [Array.append_assoc]); exact Rd.swap hDr (by first | (simp; done) | (simp; omega) | omega) (by first | (simp; done) | (simp; omega) | omega) (by first | (simp; done) | (simp; omega) | omega)), hD.len, hD.cap, hD.small, hD.ok⟩, by with_reducible repeat (first | exact Ext.refl _ | apply Ext.drew | apply Ext.alloc | apply Ext.more_)⟩
      | true =>
        cases e3 with
        | false =>
          obtain rfl : aloneO 9 = X := by rw [← hX', if_pos (Or.inr rfl)]
          clear hX' HC1 HC2
          go_enter Tryz.func38, Tryz.ntmps38
          go_upto_region 8 with (first | (go_at_call 76; (with_reducible refine (n0 _ (H.out.ext (by with_reducible repeat (first | exact Ext.refl _ | apply Ext.drew | apply Ext.alloc | apply Ext.more_)))).mono ?_); rintro e w' ⟨rfl, hb⟩; obtain ⟨osa, da, rfl⟩ := hb.more; clear hb) | (go_at_call 76; (with_reducible refine (n2 _ (H.out.ext (by with_reducible repeat (first | exact Ext.refl _ | apply Ext.drew | apply Ext.alloc | apply Ext.more_)))).mono ?_); rintro e w' ⟨rfl, hb⟩; obtain ⟨osb, db, rfl⟩ := hb.more; clear hb))
          refine wp_plan (S := Ext _) [(0, 0), (1, 0), (2, 0), (3, 0), (4, 0), (5, 1), (6, 1), (7, 0), (8, 0), (9, 0), (10, 0), (11, 0), (12, 0), (13, 0)] [] (by kernel_rfl) (by kernel_rfl) (by kernel_rfl) (fun _ _ d _ _ h => by cases d <;> exact h) (Ext.drew (Ext.refl _)) ?_
          iterate 5 ((refine wpPl_read (v := ?_) rfl ?_ (fun _ h => ?_) ?_; rotate_left 1; rfl; (obtain ⟨_, _, rfl⟩ := h.more; go_simp; try rfl)); try simp only [Act.put, zqA, zqB, zqC])
          (refine wpPl_eff rfl ?_ (fun K hK => ?_); rfl; go_simp; refine (l1 _ (H.out.ext (by with_reducible repeat (first | exact Ext.refl _ | apply Ext.drew | apply Ext.alloc | apply Ext.more_)))).mono ?_; rintro e w' ⟨rfl, hb⟩; obtain ⟨osl, dl, rfl⟩ := hb.more; clear hb; refine hK _ _ ?_ ?_; (repeat (first | (with_reducible (first | exact Ext.refl _ | exact ext_d _ _ _ _ | exact ext_app _ _ _ _ _ | exact ext_app2 _ _ _ _ _ _ | exact ext_app3 _ _ _ _ _ _ _ | exact ext_app4 _ _ _ _ _ _ _ _ | exact ext_app5 _ _ _ _ _ _ _ _ _)) | ((with_reducible refine ext_suffix ⟨_, ?_⟩); (try simp only [Array.append_assoc]); rfl) | (with_reducible (first | apply Ext.drew | apply Ext.alloc | apply Ext.more_)) | apply Ext.drew | apply Ext.alloc | apply Ext.more_)))
          try simp only [Act.put, zqA, zqB, zqC]
          (refine wpPl_eff rfl ?_ (fun K hK => ?_); rfl; go_simp; refine (HK1.out _).mono ?_; rintro e w' ⟨rfl, hb⟩; obtain ⟨osk, dk, rfl⟩ := hb.more; clear hb; refine hK _ _ ?_ ?_; (repeat (first | (with_reducible (first | exact Ext.refl _ | exact ext_d _ _ _ _ | exact ext_app _ _ _ _ _ | exact ext_app2 _ _ _ _ _ _ | exact ext_app3 _ _ _ _ _ _ _ | exact ext_app4 _ _ _ _ _ _ _ _ | exact ext_app5 _ _ _ _ _ _ _ _ _)) | ((with_reducible refine ext_suffix ⟨_, ?_⟩); (try simp only [Array.append_assoc]); rfl) | (with_reducible (first | apply Ext.drew | apply Ext.alloc | apply Ext.more_)) | apply Ext.drew | apply Ext.alloc | apply Ext.more_)))
          try simp only [Act.put, zqA, zqB, zqC]
          iterate 7 ((refine wpPl_read (v := ?_) rfl ?_ (fun _ h => ?_) ?_; rotate_left 1; rfl; (obtain ⟨_, _, rfl⟩ := h.more; go_simp; try rfl)); try simp only [Act.put, zqA, zqB, zqC])
          refine wpPl_nil ?_
          go_upto_region 9 with fail
          try simp only [more_more, drew_more, more_drew, Array.append_assoc]
          refine wp_plan (S := Ext _) [(0, 0), (1, 0), (2, 0), (3, 0), (4, 0), (5, 1), (6, 1), (7, 0), (8, 0), (9, 0), (10, 0), (11, 0), (12, 0), (13, 0)] [] (by kernel_rfl) (by kernel_rfl) (by kernel_rfl) (fun _ _ d _ _ h => by cases d <;> exact h) (Ext.drew (Ext.refl _)) ?_
          iterate 5 ((refine wpPl_read (v := ?_) rfl ?_ (fun _ h => ?_) ?_; rotate_left 1; rfl; (obtain ⟨_, _, rfl⟩ := h.more; go_simp; try rfl)); try simp only [Act.put, zqA, zqB, zqC])
          (refine wpPl_eff rfl ?_ (fun K hK => ?_); rfl; go_simp; refine (l2 _ (H.out.ext (by with_reducible repeat (first | exact Ext.refl _ | apply Ext.drew | apply Ext.alloc | apply Ext.more_)))).mono ?_; rintro e w' ⟨rfl, hb⟩; obtain ⟨osl, dl, rfl⟩ := hb.more; clear hb; refine hK _ _ ?_ ?_; (repeat (first | (with_reducible (first | exact Ext.refl _ | exact ext_d _ _ _ _ | exact ext_app _ _ _ _ _ | exact ext_app2 _ _ _ _ _ _ | exact ext_app3 _ _ _ _ _ _ _ | exact ext_app4 _ _ _ _ _ _ _ _ | exact ext_app5 _ _ _ _ _ _ _ _ _)) | ((with_reducible refine ext_suffix ⟨_, ?_⟩); (try simp only [Array.append_assoc]); rfl) | (with_reducible (first | apply Ext.drew | apply Ext.alloc | apply Ext.more_)) | apply Ext.drew | apply Ext.alloc | apply Ext.more_)))
          try simp only [Act.put, zqA, zqB, zqC]
          (refine wpPl_eff rfl ?_ (fun K hK => ?_); rfl; go_simp; refine (HK2.out _).mono ?_; rintro e w' ⟨rfl, hb⟩; obtain ⟨osk, dk, rfl⟩ := hb.more; clear hb; refine hK _ _ ?_ ?_; (repeat (first | (with_reducible (first | exact Ext.refl _ | exact ext_d _ _ _ _ | exact ext_app _ _ _ _ _ | exact ext_app2 _ _ _ _ _ _ | exact ext_app3 _ _ _ _ _ _ _ | exact ext_app4 _ _ _ _ _ _ _ _ | exact ext_app5 _ _ _ _ _ _ _ _ _)) | ((with_reducible refine ext_suffix ⟨_, ?_⟩); (try simp only [Array.append_assoc]); rfl) | (with_reducible (first | apply Ext.drew | apply Ext.alloc | apply Ext.more_)) | apply Ext.drew | apply Ext.alloc | apply Ext.more_)))
          try simp only [Act.put, zqA, zqB, zqC]
          iterate 7 ((refine wpPl_read (v := ?_) rfl ?_ (fun _ h => ?_) ?_; rotate_left 1; rfl; (obtain ⟨_, _, rfl⟩ := h.more; go_simp; try rfl)); try simp only [Act.put, zqA, zqB, zqC])
          refine wpPl_nil ?_
          go_wp2_with (go_at_call 20; (with_reducible refine (rbad_res 9 (by omega) _).mono ?_); rintro e w' ⟨D, m, cc, rfl, hD, hb⟩; obtain ⟨os5, d5, rfl⟩ := hb.more; clear hb; have hDr := hD.rd)
          exact bodyPost_ret (v := AV (aloneO 9).R (aloneO 9).C (.slice D m cc)) (by simp [results, Tryz.results38, go_sem]) rfl ⟨D, m, cc, rfl, ⟨(by (try simp only [more_alloc, more_more] at hDr); (try simp only [more_alloc, more_more]); (try simp only [drew_more] at hDr); (try simp only [more_drew] at hDr); (try simp only [Array.append_assoc] at hDr); (try simp only [Array.append_assoc]); exact Rd.swap hDr (by first | (simp; done) | (simp; omega) | omega) (by first | (simp; done) | (simp; omega) | omega) (by first | (simp; done) | (simp; omega) | omega)), hD.len, hD.cap, hD.small, hD.ok⟩, by with_reducible repeat (first | exact Ext.refl _ | apply Ext.drew | apply Ext.alloc | apply Ext.more_)⟩
        | true =>
          obtain ⟨lo, hi, ec, q1, q2⟩ := HC1 rfl
          obtain ⟨lo', hi', ee, q3, q4⟩ := HC2 rfl
          simp only [Prod.mk.injEq, and_true] at ec ee
          obtain ⟨rfl, rfl⟩ := ec
          obtain ⟨rfl, rfl⟩ := ee
          obtain rfl : partA ⟨R, C, l⟩ lo lo' (hi - lo) (hi' - lo') = X := by
            rw [← hX', if_neg (by simp)]
            simp only [Int.toNat_natCast]
            rw [show ((hi : Int) - (lo : Int)).toNat = hi - lo by omega, show ((hi' : Int) - (lo' : Int)).toNat = hi' - lo' by omega]
          have hpt := fun W (hW : ArrIn W (some ⟨b1, off1, none⟩) n1 cap1 l) => refPart_yes R C lo lo' (hi - lo) (hi' - lo') _ n1 cap1 l W hW hxr (by omega) (by omega) (by omega) (by omega)
          have hok : (partA ⟨R, C, l⟩ lo lo' (hi - lo) (hi' - lo')).ok := partA_ok (a := ⟨R, C, l⟩) HA.out.ok hxr (by show lo + (hi - lo) ≤ R; omega) (by show lo' + (hi' - lo') ≤ C; omega)
          have hlen : (partL C lo lo' (hi - lo) (hi' - lo') l).length = (hi - lo) * (hi' - lo') := partL_length _ _ _ _ _ _
          have hsz : (hi - lo) * (hi' - lo') ≤ 4096 := Nat.le_trans (Nat.mul_le_mul (show hi - lo ≤ R by omega) (show hi' - lo' ≤ C by omega)) r3
          have s1 : IntKind.i64.wrap ((hi : Int) - (lo : Int)) = ((hi - lo : Nat) : Int) := by rw [IntKind.wrap_i64]; omega
          have s2 : IntKind.i64.wrap ((hi' : Int) - (lo' : Int)) = ((hi' - lo' : Nat) : Int) := by rw [IntKind.wrap_i64]; omega
          unfold partA at hok ⊢
          show Calls _ _ _ _ fun e w' => ResA w ⟨hi - lo, hi' - lo', partL C lo lo' (hi - lo) (hi' - lo') l⟩ e w'
          simp only at hok
          generalize partL C lo lo' (hi - lo) (hi' - lo') l = L at *
          generalize (hi - lo) * (hi' - lo') = N at *
          generalize hrr : hi - lo = rr at *
          generalize hcr : hi' - lo' = cr at *
          have HOK := Lib.hid hok
          have HPT := Lib.hid hpt
          clear hX' HC1 HC2 hok hpt hxr hrr hcr q1 q2 q3 q4
          go_enter Tryz.func38, Tryz.ntmps38
          go_upto_region 8 with (first | (go_at_call 76; (with_reducible refine (n0 _ (H.out.ext (by with_reducible repeat (first | exact Ext.refl _ | apply Ext.drew | apply Ext.alloc | apply Ext.more_)))).mono ?_); rintro e w' ⟨rfl, hb⟩; obtain ⟨osa, da, rfl⟩ := hb.more; clear hb) | (go_at_call 76; (with_reducible refine (n2 _ (H.out.ext (by with_reducible repeat (first | exact Ext.refl _ | apply Ext.drew | apply Ext.alloc | apply Ext.more_)))).mono ?_); rintro e w' ⟨rfl, hb⟩; obtain ⟨osb, db, rfl⟩ := hb.more; clear hb))
          refine wp_plan (S := Ext _) [(0, 0), (1, 0), (2, 0), (3, 0), (4, 0), (5, 1), (6, 1), (7, 0), (8, 0), (9, 0), (10, 0), (11, 0), (12, 0), (13, 0)] [] (by kernel_rfl) (by kernel_rfl) (by kernel_rfl) (fun _ _ d _ _ h => by cases d <;> exact h) (Ext.drew (Ext.refl _)) ?_
          iterate 5 ((refine wpPl_read (v := ?_) rfl ?_ (fun _ h => ?_) ?_; rotate_left 1; rfl; (obtain ⟨_, _, rfl⟩ := h.more; go_simp; try rfl)); try simp only [Act.put, zqA, zqB, zqC])
          (refine wpPl_eff rfl ?_ (fun K hK => ?_); rfl; go_simp; refine (l1 _ (H.out.ext (by with_reducible repeat (first | exact Ext.refl _ | apply Ext.drew | apply Ext.alloc | apply Ext.more_)))).mono ?_; rintro e w' ⟨rfl, hb⟩; obtain ⟨osl, dl, rfl⟩ := hb.more; clear hb; refine hK _ _ ?_ ?_; (repeat (first | (with_reducible (first | exact Ext.refl _ | exact ext_d _ _ _ _ | exact ext_app _ _ _ _ _ | exact ext_app2 _ _ _ _ _ _ | exact ext_app3 _ _ _ _ _ _ _ | exact ext_app4 _ _ _ _ _ _ _ _ | exact ext_app5 _ _ _ _ _ _ _ _ _)) | ((with_reducible refine ext_suffix ⟨_, ?_⟩); (try simp only [Array.append_assoc]); rfl) | (with_reducible (first | apply Ext.drew | apply Ext.alloc | apply Ext.more_)) | apply Ext.drew | apply Ext.alloc | apply Ext.more_)))
          try simp only [Act.put, zqA, zqB, zqC]
          (refine wpPl_eff rfl ?_ (fun K hK => ?_); rfl; go_simp; refine (HK1.out _).mono ?_; rintro e w' ⟨rfl, hb⟩; obtain ⟨osk, dk, rfl⟩ := hb.more; clear hb; refine hK _ _ ?_ ?_; (repeat (first | (with_reducible (first | exact Ext.refl _ | exact ext_d _ _ _ _ | exact ext_app _ _ _ _ _ | exact ext_app2 _ _ _ _ _ _ | exact ext_app3 _ _ _ _ _ _ _ | exact ext_app4 _ _ _ _ _ _ _ _ | exact ext_app5 _ _ _ _ _ _ _ _ _)) | ((with_reducible refine ext_suffix ⟨_, ?_⟩); (try simp only [Array.append_assoc]); rfl) | (with_reducible (first | apply Ext.drew | apply Ext.alloc | apply Ext.more_)) | apply Ext.drew | apply Ext.alloc | apply Ext.more_)))
          try simp only [Act.put, zqA, zqB, zqC]
          iterate 7 ((refine wpPl_read (v := ?_) rfl ?_ (fun _ h => ?_) ?_; rotate_left 1; rfl; (obtain ⟨_, _, rfl⟩ := h.more; go_simp; try rfl)); try simp only [Act.put, zqA, zqB, zqC])
          refine wpPl_nil ?_
          go_upto_region 9 with fail
          try simp only [more_more, drew_more, more_drew, Array.append_assoc]
          refine wp_plan (S := Ext _) [(0, 0), (1, 0), (2, 0), (3, 0), (4, 0), (5, 1), (6, 1), (7, 0), (8, 0), (9, 0), (10, 0), (11, 0), (12, 0), (13, 0)] [] (by kernel_rfl) (by kernel_rfl) (by kernel_rfl) (fun _ _ d _ _ h => by cases d <;> exact h) (Ext.drew (Ext.refl _)) ?_
          iterate 5 ((refine wpPl_read (v := ?_) rfl ?_ (fun _ h => ?_) ?_; rotate_left 1; rfl; (obtain ⟨_, _, rfl⟩ := h.more; go_simp; try rfl)); try simp only [Act.put, zqA, zqB, zqC])
          (refine wpPl_eff rfl ?_ (fun K hK => ?_); rfl; go_simp; refine (l2 _ (H.out.ext (by with_reducible repeat (first | exact Ext.refl _ | apply Ext.drew | apply Ext.alloc | apply Ext.more_)))).mono ?_; rintro e w' ⟨rfl, hb⟩; obtain ⟨osl, dl, rfl⟩ := hb.more; clear hb; refine hK _ _ ?_ ?_; (repeat (first | (with_reducible (first | exact Ext.refl _ | exact ext_d _ _ _ _ | exact ext_app _ _ _ _ _ | exact ext_app2 _ _ _ _ _ _ | exact ext_app3 _ _ _ _ _ _ _ | exact ext_app4 _ _ _ _ _ _ _ _ | exact ext_app5 _ _ _ _ _ _ _ _ _)) | ((with_reducible refine ext_suffix ⟨_, ?_⟩); (try simp only [Array.append_assoc]); rfl) | (with_reducible (first | apply Ext.drew | apply Ext.alloc | apply Ext.more_)) | apply Ext.drew | apply Ext.alloc | apply Ext.more_)))
          try simp only [Act.put, zqA, zqB, zqC]
          (refine wpPl_eff rfl ?_ (fun K hK => ?_); rfl; go_simp; refine (HK2.out _).mono ?_; rintro e w' ⟨rfl, hb⟩; obtain ⟨osk, dk, rfl⟩ := hb.more; clear hb; refine hK _ _ ?_ ?_; (repeat (first | (with_reducible (first | exact Ext.refl _ | exact ext_d _ _ _ _ | exact ext_app _ _ _ _ _ | exact ext_app2 _ _ _ _ _ _ | exact ext_app3 _ _ _ _ _ _ _ | exact ext_app4 _ _ _ _ _ _ _ _ | exact ext_app5 _ _ _ _ _ _ _ _ _)) | ((with_reducible refine ext_suffix ⟨_, ?_⟩); (try simp only [Array.append_assoc]); rfl) | (with_reducible (first | apply Ext.drew | apply Ext.alloc | apply Ext.more_)) | apply Ext.drew | apply Ext.alloc | apply Ext.more_)))
          try simp only [Act.put, zqA, zqB, zqC]
          iterate 7 ((refine wpPl_read (v := ?_) rfl ?_ (fun _ h => ?_) ?_; rotate_left 1; rfl; (obtain ⟨_, _, rfl⟩ := h.more; go_simp; try rfl)); try simp only [Act.put, zqA, zqB, zqC])
          refine wpPl_nil ?_
          go_wp2_with (go_at_call 79; (with_reducible refine (HPT.out _ (HA.out.ext (by with_reducible repeat (first | exact Ext.refl _ | apply Ext.drew | apply Ext.alloc | apply Ext.more_)))).mono ?_); rintro e w' ⟨D, c, rfl, hD, hc, hb⟩; obtain ⟨osp, dp, rfl⟩ := hb.more; clear hb)
          exact bodyPost_ret (v := AV rr cr (.slice D N c)) (by simp [results, Tryz.results38, go_sem]) rfl ⟨D, N, c, rfl, ⟨Rd.alloc ((by (try simp only [more_alloc, more_more] at hD); (try simp only [more_alloc, more_more]); (try simp only [drew_more] at hD); (try simp only [more_drew] at hD); (try simp only [Array.append_assoc] at hD); (try simp only [Array.append_assoc]); exact Rd.swap hD (by first | (simp; done) | (simp; omega) | omega) (by first | (simp; done) | (simp; omega) | omega) (by first | (simp; done) | (simp; omega) | omega))) _, hlen, hc, by omega, HOK.out⟩, by with_reducible repeat (first | exact Ext.refl _ | apply Ext.drew | apply Ext.alloc | apply Ext.more_)⟩
    · obtain rfl : aloneO kf = X := by rw [← hX]; unfold partT; rw [if_neg (by simp), if_pos hkf]
      have hf' : (kf != 0) = true := by simpa using hkf
      have hfb : 1 ≤ kf ∧ kf ≤ 9 := f2.resolve_left hkf
      clear hX hkf HC1 HC2 k1 k2 f1 f2
      have HF := Lib.hid hfb
      clear hfb
      go_enter Tryz.func38, Tryz.ntmps38
      go_wp2_with (first | (first | (go_at_call 76; (with_reducible refine (n0 _ (H.out.ext (by with_reducible repeat (first | exact Ext.refl _ | apply Ext.drew | apply Ext.alloc | apply Ext.more_)))).mono ?_); rintro e w' ⟨rfl, hb⟩; obtain ⟨osa, da, rfl⟩ := hb.more; clear hb) | (go_at_call 76; (with_reducible refine (n2 _ (H.out.ext (by with_reducible repeat (first | exact Ext.refl _ | apply Ext.drew | apply Ext.alloc | apply Ext.more_)))).mono ?_); rintro e w' ⟨rfl, hb⟩; obtain ⟨osb, db, rfl⟩ := hb.more; clear hb)) | (go_at_call 20; (with_reducible refine (rbad_res _ HF.out _).mono ?_); rintro e w' ⟨D, m, cc, rfl, hD, hb⟩; obtain ⟨os5, d5, rfl⟩ := hb.more; clear hb; have hDr := hD.rd))
      exact bodyPost_ret (v := AV (aloneO kf).R (aloneO kf).C (.slice D m cc)) (by simp [results, Tryz.results38, go_sem]) rfl ⟨D, m, cc, rfl, ⟨(by (try simp only [more_alloc, more_more] at hDr); (try simp only [more_alloc, more_more]); (try simp only [drew_more] at hDr); (try simp only [more_drew] at hDr); (try simp only [Array.append_assoc] at hDr); (try simp only [Array.append_assoc]); exact Rd.swap hDr (by first | (simp; done) | (simp; omega) | omega) (by first | (simp; done) | (simp; omega) | omega) (by first | (simp; done) | (simp; omega) | omega)), hD.len, hD.cap, hD.small, hD.ok⟩, by with_reducible repeat (first | exact Ext.refl _ | apply Ext.drew | apply Ext.alloc | apply Ext.more_)⟩
  · obtain rfl : aloneO mf = X := by rw [← hX]; unfold partT; rw [if_pos hmf]
    have hf' : (mf != 0) = true := by simpa using hmf
    have hfb : 1 ≤ mf ∧ mf ≤ 9 := f1.resolve_left hmf
    clear hX hmf HC1 HC2 k1 k2 f1 f2
    have HF := Lib.hid hfb
    clear hfb
    go_enter Tryz.func38, Tryz.ntmps38
    go_wp2_with (first | (first | (go_at_call 76; (with_reducible refine (n0 _ (H.out.ext (by with_reducible repeat (first | exact Ext.refl _ | apply Ext.drew | apply Ext.alloc | apply Ext.more_)))).mono ?_); rintro e w' ⟨rfl, hb⟩; obtain ⟨osa, da, rfl⟩ := hb.more; clear hb) | (go_at_call 76; (with_reducible refine (n2 _ (H.out.ext (by with_reducible repeat (first | exact Ext.refl _ | apply Ext.drew | apply Ext.alloc | apply Ext.more_)))).mono ?_); rintro e w' ⟨rfl, hb⟩; obtain ⟨osb, db, rfl⟩ := hb.more; clear hb)) | (go_at_call 20; (with_reducible refine (rbad_res _ HF.out _).mono ?_); rintro e w' ⟨D, m, cc, rfl, hD, hb⟩; obtain ⟨os5, d5, rfl⟩ := hb.more; clear hb; have hDr := hD.rd))
    exact bodyPost_ret (v := AV (aloneO mf).R (aloneO mf).C (.slice D m cc)) (by simp [results, Tryz.results38, go_sem]) rfl ⟨D, m, cc, rfl, ⟨(by (try simp only [more_alloc, more_more] at hDr); (try simp only [more_alloc, more_more]); (try simp only [drew_more] at hDr); (try simp only [more_drew] at hDr); (try simp only [Array.append_assoc] at hDr); (try simp only [Array.append_assoc]); exact Rd.swap hDr (by first | (simp; done) | (simp; omega) | omega) (by first | (simp; done) | (simp; omega) | omega) (by first | (simp; done) | (simp; omega) | omega)), hD.len, hD.cap, hD.small, hD.ok⟩, by with_reducible repeat (first | exact Ext.refl _ | apply Ext.drew | apply Ext.alloc | apply Ext.more_)⟩
end Go.Proofs.YtlfbdodokldkhaaGreatDoor
namespace Go.Proofs.YtlfbdodokldkhaaGreatDoor
open Go.RowKit NM
set_option maxHeartbeats 4000000 in
theorem rcall_take (A : Option Addr) (n cap : Nat) (xs : List Ar) (w : World) (h : ArgsIn w A n cap xs) (h1 : 1 ≤ n) (h2 : n ≤ 3) : Calls Tryz.prog 24 #[.string ⟨#[84, 65, 75, 69]⟩, .slice A n cap] w (CallI w (takeO xs)) := by
  have hsm := h.small
  have hcap := h.cap
  have q1 : ¬ n < 1 := by omega
  have q2 : ¬ 3 < n := by omega
  have hst := fun W (hW : ArgsIn W A n cap xs) => doc_take (h.first15 h1) ▸ rpart15_any A n cap xs true W hW h1
  obtain ⟨R0, C0, l0, b1, off1, n1, cap1, b, off, x0, _, rfl, ⟨v0, v1, v2⟩, _, _, _, _, _, hbl, _, _, _, _, _⟩ := h.first (k := 0) (by omega)
  simp only [Nat.zero_mul, Nat.add_zero] at v0 v1 v2
  have H := Lib.hid h
  clear h
  generalize (takeO xs) = X at *
  go_enter Tryz.func24, Tryz.ntmps24
  go_wp2_with (go_at_call 32; (with_reducible refine (rcount_take _).mono ?_); rintro e w' ⟨rfl, hb⟩; obtain ⟨os1, d1, rfl⟩ := hb.more; clear hb)
  go_loopw [8] (fun i wr => ∃ k : Nat, k ≤ n ∧ i = .int .i64 k ∧ Ext (more (w.alloc (Obj.cells #[.int .i64 0, .int .i64 0, .slice none 0 0] 30)) os1 d1) wr) (fun i _ => n - (intOf i).toNat)
  case atStart => exact ⟨0, Nat.zero_le _, rfl, Ext.refl _⟩
  case round =>
    obtain ⟨k, hk, rfl, hX⟩ := hrel
    obtain ⟨os, d, rfl⟩ := hX.more
    clear hX
    by_cases hlt : k < n
    · obtain ⟨a, b', off', ha, hbo, ⟨u0, u1, u2⟩, hok⟩ := H.out.at hlt
      simp only [Option.some.injEq, Addr.mk.injEq, and_true] at hbo
      obtain ⟨rfl, rfl⟩ := hbo
      have hra := fun W (hW : ArrIn W a.A a.n a.cap a.x.l) => refRightA_any a.x.R a.x.C a.A a.n a.cap a.x.l W hW
      rw [← rightA_eq _ _ _ hok.arr.ok, show rightA (a.x.R : Int) a.x.C a.x.l = true from hok.right] at hra
      have HOK := Lib.hid hok.arr
      clear hok hst
      go_wp2_with (go_at_call 14; refine (hra _ (HOK.out.ext (by repeat (first | (with_reducible (first | exact Ext.refl _ | exact ext_app3 _ _ _ _ _ _ _ | exact ext_app4 _ _ _ _ _ _ _ _ | exact ext_app _ _ _ _ _ | exact ext_app2 _ _ _ _ _ _)) | ((with_reducible refine ext_suffix ⟨_, ?_⟩); (try simp only [Array.append_assoc]); rfl) | (with_reducible (first | apply Ext.drew | apply Ext.alloc | apply Ext.more_)))))).mono ?_; rintro e w' ⟨rfl, hb⟩; obtain ⟨os', d', rfl⟩ := hb.more; clear hb)
      exact ⟨⟨k + 1, by omega, by go_num, by repeat (first | (with_reducible (first | exact Ext.refl _ | exact ext_app3 _ _ _ _ _ _ _ | exact ext_app4 _ _ _ _ _ _ _ _ | exact ext_app _ _ _ _ _ | exact ext_app2 _ _ _ _ _ _)) | ((with_reducible refine ext_suffix ⟨_, ?_⟩); (try simp only [Array.append_assoc]); rfl) | (with_reducible (first | apply Ext.drew | apply Ext.alloc | apply Ext.more_)))⟩, by simp [intOf]; omega⟩
    · go_wp2_with (go_at_call 38; (with_reducible refine (hst _ (H.out.ext (by repeat (first | (with_reducible (first | exact Ext.refl _ | exact ext_app3 _ _ _ _ _ _ _ | exact ext_app4 _ _ _ _ _ _ _ _ | exact ext_app _ _ _ _ _ | exact ext_app2 _ _ _ _ _ _)) | ((with_reducible refine ext_suffix ⟨_, ?_⟩); (try simp only [Array.append_assoc]); rfl) | (with_reducible (first | apply Ext.drew | apply Ext.alloc | apply Ext.more_)))))).mono ?_); rintro e w' ⟨D, m, cc, rfl, hD, hb⟩; have hNl := hD.len; have hNc := hD.cap; have hNs := hD.small; have hNo := hD.ok; have hDr := hD.rd; clear hD; obtain ⟨os5, d5, rfl⟩ := hb.more; clear hb)
      exact bodyPost_ret (v := .tuple #[AV X.R X.C (.slice D m cc), .bool true]) (by simp [results, Tryz.results24, go_sem]) rfl ⟨D, m, cc, rfl, ArrN.arr (base := w.heap.size) ⟨(by (try simp only [more_alloc, more_more] at hDr); (try simp only [more_alloc, more_more]); (try simp only [drew_more] at hDr); (try simp only [more_drew] at hDr); (try simp only [Array.append_assoc] at hDr); (try simp only [Array.append_assoc]); exact Rd.swap hDr (by first | (simp; done) | (simp; omega) | omega) (by first | (simp; done) | (simp; omega) | omega) (by first | (simp; done) | (simp; omega) | omega)), hNl, hNc, hNs, hNo⟩, by repeat (first | (with_reducible (first | exact Ext.refl _ | exact ext_app3 _ _ _ _ _ _ _ | exact ext_app4 _ _ _ _ _ _ _ _ | exact ext_app _ _ _ _ _ | exact ext_app2 _ _ _ _ _ _)) | ((with_reducible refine ext_suffix ⟨_, ?_⟩); (try simp only [Array.append_assoc]); rfl) | (with_reducible (first | apply Ext.drew | apply Ext.alloc | apply Ext.more_)))⟩
set_option maxHeartbeats 4000000 in
theorem rcall_drop (A : Option Addr) (n cap : Nat) (xs : List Ar) (w : World) (h : ArgsIn w A n cap xs) (h1 : 1 ≤ n) (h2 : n ≤ 3) : Calls Tryz.prog 24 #[.string ⟨#[68, 82, 79, 80]⟩, .slice A n cap] w (CallI w (dropO xs)) := by
  have hsm := h.small
  have hcap := h.cap
  have q1 : ¬ n < 1 := by omega
  have q2 : ¬ 3 < n := by omega
  have hst := fun W (hW : ArgsIn W A n cap xs) => doc_drop (h.first15 h1) ▸ rpart15_any A n cap xs false W hW h1
  obtain ⟨R0, C0, l0, b1, off1, n1, cap1, b, off, x0, _, rfl, ⟨v0, v1, v2⟩, _, _, _, _, _, hbl, _, _, _, _, _⟩ := h.first (k := 0) (by omega)
  simp only [Nat.zero_mul, Nat.add_zero] at v0 v1 v2
  have H := Lib.hid h
  clear h
  generalize (dropO xs) = X at *
  go_enter Tryz.func24, Tryz.ntmps24
  go_wp2_with (go_at_call 32; (with_reducible refine (rcount_drop _).mono ?_); rintro e w' ⟨rfl, hb⟩; obtain ⟨os1, d1, rfl⟩ := hb.more; clear hb)
  go_loopw [8] (fun i wr => ∃ k : Nat, k ≤ n ∧ i = .int .i64 k ∧ Ext (more (w.alloc (Obj.cells #[.int .i64 0, .int .i64 0, .slice none 0 0] 30)) os1 d1) wr) (fun i _ => n - (intOf i).toNat)
  case atStart => exact ⟨0, Nat.zero_le _, rfl, Ext.refl _⟩
  case round =>
    obtain ⟨k, hk, rfl, hX⟩ := hrel
    obtain ⟨os, d, rfl⟩ := hX.more
    clear hX
    by_cases hlt : k < n
    · obtain ⟨a, b', off', ha, hbo, ⟨u0, u1, u2⟩, hok⟩ := H.out.at hlt
      simp only [Option.some.injEq, Addr.mk.injEq, and_true] at hbo
      obtain ⟨rfl, rfl⟩ := hbo
      have hra := fun W (hW : ArrIn W a.A a.n a.cap a.x.l) => refRightA_any a.x.R a.x.C a.A a.n a.cap a.x.l W hW
      rw [← rightA_eq _ _ _ hok.arr.ok, show rightA (a.x.R : Int) a.x.C a.x.l = true from hok.right] at hra
      have HOK := Lib.hid hok.arr
      clear hok hst
      go_wp2_with (go_at_call 14; refine (hra _ (HOK.out.ext (by repeat (first | (with_reducible (first | exact Ext.refl _ | exact ext_app3 _ _ _ _ _ _ _ | exact ext_app4 _ _ _ _ _ _ _ _ | exact ext_app _ _ _ _ _ | exact ext_app2 _ _ _ _ _ _)) | ((with_reducible refine ext_suffix ⟨_, ?_⟩); (try simp only [Array.append_assoc]); rfl) | (with_reducible (first | apply Ext.drew | apply Ext.alloc | apply Ext.more_)))))).mono ?_; rintro e w' ⟨rfl, hb⟩; obtain ⟨os', d', rfl⟩ := hb.more; clear hb)
      exact ⟨⟨k + 1, by omega, by go_num, by repeat (first | (with_reducible (first | exact Ext.refl _ | exact ext_app3 _ _ _ _ _ _ _ | exact ext_app4 _ _ _ _ _ _ _ _ | exact ext_app _ _ _ _ _ | exact ext_app2 _ _ _ _ _ _)) | ((with_reducible refine ext_suffix ⟨_, ?_⟩); (try simp only [Array.append_assoc]); rfl) | (with_reducible (first | apply Ext.drew | apply Ext.alloc | apply Ext.more_)))⟩, by simp [intOf]; omega⟩
    · go_wp2_with (go_at_call 38; (with_reducible refine (hst _ (H.out.ext (by repeat (first | (with_reducible (first | exact Ext.refl _ | exact ext_app3 _ _ _ _ _ _ _ | exact ext_app4 _ _ _ _ _ _ _ _ | exact ext_app _ _ _ _ _ | exact ext_app2 _ _ _ _ _ _)) | ((with_reducible refine ext_suffix ⟨_, ?_⟩); (try simp only [Array.append_assoc]); rfl) | (with_reducible (first | apply Ext.drew | apply Ext.alloc | apply Ext.more_)))))).mono ?_); rintro e w' ⟨D, m, cc, rfl, hD, hb⟩; have hNl := hD.len; have hNc := hD.cap; have hNs := hD.small; have hNo := hD.ok; have hDr := hD.rd; clear hD; obtain ⟨os5, d5, rfl⟩ := hb.more; clear hb)
      exact bodyPost_ret (v := .tuple #[AV X.R X.C (.slice D m cc), .bool true]) (by simp [results, Tryz.results24, go_sem]) rfl ⟨D, m, cc, rfl, ArrN.arr (base := w.heap.size) ⟨(by (try simp only [more_alloc, more_more] at hDr); (try simp only [more_alloc, more_more]); (try simp only [drew_more] at hDr); (try simp only [more_drew] at hDr); (try simp only [Array.append_assoc] at hDr); (try simp only [Array.append_assoc]); exact Rd.swap hDr (by first | (simp; done) | (simp; omega) | omega) (by first | (simp; done) | (simp; omega) | omega) (by first | (simp; done) | (simp; omega) | omega)), hNl, hNc, hNs, hNo⟩, by repeat (first | (with_reducible (first | exact Ext.refl _ | exact ext_app3 _ _ _ _ _ _ _ | exact ext_app4 _ _ _ _ _ _ _ _ | exact ext_app _ _ _ _ _ | exact ext_app2 _ _ _ _ _ _)) | ((with_reducible refine ext_suffix ⟨_, ?_⟩); (try simp only [Array.append_assoc]); rfl) | (with_reducible (first | apply Ext.drew | apply Ext.alloc | apply Ext.more_)))⟩
end Go.Proofs.YtlfbdodokldkhaaGreatDoor
namespace Go.Proofs.YtlfbdodokldkhaaGreatDoor
open Go.RowKit NM
/-- Places that may be taken. -/
structure PlOk (ps : List Nat) (h : Nat) : Prop where
  pos : 1 ≤ ps.length
  le : ps.length ≤ h
  lt : ∀ r ∈ ps, r < h
theorem CutIs.pl {c : Int × Int × Bool} {ps : List Nat} {h : Nat} (hc : CutIs c ps h) : PlOk ps h := by
  obtain ⟨lo, hi, _, h1, h2, rfl⟩ := hc
  exact ⟨by rw [rng_length]; omega, by rw [rng_length]; omega, fun r hr => Nat.lt_of_lt_of_le (rng_lt hr) h2⟩
theorem kept_pl {n : Int} {h : Nat} (h1 : 1 ≤ h) (hn : n ≠ 0) : PlOk (keptL n h) h := (cut_kept h1 hn).pl
theorem rest_pl {n : Int} {h : Nat} (h1 : 1 ≤ h) (hn : restL n h ≠ []) : PlOk (restL n h) h := by
  rcases cut_rest (n := n) (o := false) h1 with ⟨_, h2⟩ | h2
  · exact absurd h2 hn
  · exact h2.pl
/-- rowsOf, at an array and places known by name. -/
theorem rowsOf_pl (a : NA) (A : Option Addr) (n cap : Nat) (ps : List Nat) (B : Option Addr) (cb : Nat) (w : World) (h : ArrIn w A n cap a.l) (hr : a.right) (hps : Rd 0 w B (i6 ps)) (hcb : ps.length ≤ cb) (hp : PlOk ps a.R) :
    Calls Tryz.prog 96 #[AV a.R a.C (.slice A n cap), .slice B ps.length cb] w fun e w' => ResA w (rowsN a ps) e w' := by
  obtain ⟨r1, r2, r3, r4, r5⟩ := rightA_nat.1 hr
  exact rowsOf_any a.R a.C a.l A n cap ps B cb w h hr hps hcb hp.lt (Nat.le_trans (Nat.mul_le_mul_right _ hp.le) r3) (Nat.le_trans hp.le (Nat.le_trans (Nat.le_mul_of_pos_right a.R r2) r3))
theorem colsOf_pl (a : NA) (A : Option Addr) (n cap : Nat) (ps : List Nat) (B : Option Addr) (cb : Nat) (w : World) (h : ArrIn w A n cap a.l) (hr : a.right) (hps : Rd 0 w B (i6 ps)) (hcb : ps.length ≤ cb) (hp : PlOk ps a.C) :
    Calls Tryz.prog 95 #[AV a.R a.C (.slice A n cap), .slice B ps.length cb] w fun e w' => ResA w (colsN a ps) e w' := by
  obtain ⟨r1, r2, r3, r4, r5⟩ := rightA_nat.1 hr
  exact colsOf_any a.R a.C a.l A n cap ps B cb w h hr hps hcb hp.lt (Nat.le_trans (Nat.mul_le_mul_left _ hp.le) r3) (Nat.le_trans hp.le (Nat.le_trans (Nat.le_mul_of_pos_left a.C r1) r3))
set_option maxHeartbeats 4000000 in
theorem gtake_any (A : Option Addr) (n cap : Nat) (xs : List Ar) (w : World) (h : ArgsIn w A n cap xs) (h1 : 1 ≤ n) :
    Calls Tryz.prog 56 #[.slice A n cap] w fun e w' => ResA w (takeO xs) e w' := by
  obtain ⟨R, C, l, b1, off1, n1, cap1, b, off, x0, ha, rfl, ⟨v0, v1, v2⟩, _, hc1, _, _, _, hbl, _, _, _, harr, _⟩ := h.first h1
  have hxr : NA.right ⟨R, C, l⟩ := (h.all _ (List.mem_of_getElem? ha)).right
  have hcap := h.cap
  have hsm := h.small
  simp only [Nat.zero_mul, Nat.add_zero] at v0 v1 v2
  have hx0 : argN xs 0 = ⟨R, C, l⟩ := by unfold argN; rw [ha]
  obtain ⟨r1, r2, r3, r4, r5⟩ := rightA_nat.1 hxr
  simp only at r1 r2 r3 r4
  have hR4 : R ≤ 4096 := Nat.le_trans (Nat.le_mul_of_pos_right R r2) r3
  have hC4 : C ≤ 4096 := Nat.le_trans (Nat.le_mul_of_pos_left C r1) r3
  have n0 := fun W (hW : ArgsIn W (some ⟨b, off, none⟩) n cap xs) => gnumber_any _ n cap xs 1 (R : Int) W hW _ rfl
  have n2 := fun W (hW : ArgsIn W (some ⟨b, off, none⟩) n cap xs) => gnumber_any _ n cap xs 2 (C : Int) W hW _ rfl
  have i1 : I64 (numO xs 1 (R : Int)).1 := numO_i64 h (by unfold I64; omega)
  have i2 : I64 (numO xs 2 (C : Int)).1 := numO_i64 h (by unfold I64; omega)
  unfold takeO
  rw [hx0]
  show Calls _ _ _ _ fun e w' => ResA w (takeT ⟨R, C, l⟩ (numO xs 1 (R : Int)) (numO xs 2 (C : Int))) e w'
  generalize numO xs 1 (R : Int) = mm at *
  generalize numO xs 2 (C : Int) = kk at *
  obtain ⟨mi, mf⟩ := mm
  obtain ⟨ki, kf⟩ := kk
  simp only [show ((1 : Nat) : Int) = 1 from rfl, show ((2 : Nat) : Int) = 2 from rfl] at n0 n2
  have H := Lib.hid h
  have HA := Lib.hid harr
  have HI1 := Lib.hid i1
  have HI2 := Lib.hid i2
  clear h harr i1 i2 ha hx0 r4 r5
  obtain ⟨X, hX⟩ : ∃ X, takeT ⟨R, C, l⟩ (mi, mf) (ki, kf) = X := ⟨_, rfl⟩
  rw [hX]
  by_cases hmf : mf = 0
  · subst hmf
    by_cases hkf : kf = 0
    · subst hkf
      by_cases hz : mi = 0 ∨ ki = 0
      · obtain rfl : aloneO 9 = X := by rw [← hX]; unfold takeT; rw [if_neg (by simp), if_neg (by simp), if_pos hz]
        clear hX HI1 HI2
        by_cases hm0 : mi = 0
        · subst hm0
          go_enter Tryz.func56, Tryz.ntmps56
          go_wp2_with (first | (go_at_call 93; (with_reducible refine (n0 _ (H.out.ext (by with_reducible repeat (first | exact Ext.refl _ | apply Ext.drew | apply Ext.alloc | apply Ext.more_)))).mono ?_); rintro e w' ⟨rfl, hb⟩; obtain ⟨osa, da, rfl⟩ := hb.more; clear hb) | (go_at_call 93; (with_reducible refine (n2 _ (H.out.ext (by with_reducible repeat (first | exact Ext.refl _ | apply Ext.drew | apply Ext.alloc | apply Ext.more_)))).mono ?_); rintro e w' ⟨rfl, hb⟩; obtain ⟨osb, db, rfl⟩ := hb.more; clear hb) | (go_at_call 27; (with_reducible refine (galone_any _ _).mono ?_); rintro e w' ⟨D, m, cc, rfl, hD, hb⟩; obtain ⟨os5, d5, rfl⟩ := hb.more; clear hb; have hDr := hD.rd))
          exact bodyPost_ret (v := AV (aloneO 9).R (aloneO 9).C (.slice D m cc)) (by simp [results, Tryz.results56, go_sem]) rfl ⟨D, m, cc, rfl, ⟨(by (try simp only [more_more] at hDr); (try simp only [drew_more] at hDr); (try simp only [more_drew] at hDr); (try simp only [Array.append_assoc] at hDr); exact Rd.swap hDr (by first | (simp; done) | (simp; omega) | omega) (by first | (simp; done) | (simp; omega) | omega) (by first | (simp; done) | (simp; omega) | omega)), hD.len, hD.cap, hD.small, hD.ok⟩, by with_reducible repeat (first | exact Ext.refl _ | apply Ext.drew | apply Ext.alloc | apply Ext.more_)⟩
        · obtain rfl : ki = 0 := hz.resolve_left hm0
          have hm0' : (mi == 0) = false := by simpa using hm0
          clear hz hm0
          go_enter Tryz.func56, Tryz.ntmps56
          go_wp2_with (first | (go_at_call 93; (with_reducible refine (n0 _ (H.out.ext (by with_reducible repeat (first | exact Ext.refl _ | apply Ext.drew | apply Ext.alloc | apply Ext.more_)))).mono ?_); rintro e w' ⟨rfl, hb⟩; obtain ⟨osa, da, rfl⟩ := hb.more; clear hb) | (go_at_call 93; (with_reducible refine (n2 _ (H.out.ext (by with_reducible repeat (first | exact Ext.refl _ | apply Ext.drew | apply Ext.alloc | apply Ext.more_)))).mono ?_); rintro e w' ⟨rfl, hb⟩; obtain ⟨osb, db, rfl⟩ := hb.more; clear hb) | (go_at_call 27; (with_reducible refine (galone_any _ _).mono ?_); rintro e w' ⟨D, m, cc, rfl, hD, hb⟩; obtain ⟨os5, d5, rfl⟩ := hb.more; clear hb; have hDr := hD.rd))
          exact bodyPost_ret (v := AV (aloneO 9).R (aloneO 9).C (.slice D m cc)) (by simp [results, Tryz.results56, go_sem]) rfl ⟨D, m, cc, rfl, ⟨(by (try simp only [more_more] at hDr); (try simp only [drew_more] at hDr); (try simp only [more_drew] at hDr); (try simp only [Array.append_assoc] at hDr); exact Rd.swap hDr (by first | (simp; done) | (simp; omega) | omega) (by first | (simp; done) | (simp; omega) | omega) (by first | (simp; done) | (simp; omega) | omega)), hD.len, hD.cap, hD.small, hD.ok⟩, by with_reducible repeat (first | exact Ext.refl _ | apply Ext.drew | apply Ext.alloc | apply Ext.more_)⟩
      · obtain rfl : colsN (rowsN ⟨R, C, l⟩ (keptL mi R)) (keptL ki C) = X := by rw [← hX]; unfold takeT; rw [if_neg (by simp), if_neg (by simp), if_neg hz]
        have hm0 : mi ≠ 0 := fun e => hz (Or.inl e)
        have hk0 : ki ≠ 0 := fun e => hz (Or.inr e)
        have p1 := kept_pl r1 hm0
        have p2 := kept_pl r2 hk0
        have k1 := fun W => kept_any mi R HI1.out hR4 W
        have k2 := fun W => kept_any ki C HI2.out hC4 W
        have hm0' : (mi == 0) = false := by simpa using hm0
        have hk0' : (ki == 0) = false := by simpa using hk0
        generalize keptL mi R = ps at *
        generalize keptL ki C = qs at *
        have hr1 := fun W B cb (hW : ArrIn W (some ⟨b1, off1, none⟩) n1 cap1 l) hB hcb => rowsOf_pl ⟨R, C, l⟩ _ n1 cap1 ps B cb W hW hxr hB hcb p1
        have hYr : (rowsN ⟨R, C, l⟩ ps).right := rowsN_right hxr p1.lt p1.pos p1.le
        have hYC : (rowsN ⟨R, C, l⟩ ps).C = C := rfl
        generalize rowsN ⟨R, C, l⟩ ps = Y at *
        have hr2 := fun W D m cc B cb (hW : ArrIn W D m cc Y.l) hB hcb => colsOf_pl Y D m cc qs B cb W hW hYr hB hcb (by rw [hYC]; exact p2)
        generalize colsN Y qs = X at *
        clear hX HI1 HI2 hz hm0 hk0 p1 p2 hYr hYC hxr
        have HR1 := Lib.hid hr1
        have HR2 := Lib.hid hr2
        have HK1 := Lib.hid k1
        have HK2 := Lib.hid k2
        clear hr1 hr2 k1 k2
        go_enter Tryz.func56, Tryz.ntmps56
        go_upto_region 10 with (first | (go_at_call 93; (with_reducible refine (n0 _ (H.out.ext (by with_reducible repeat (first | exact Ext.refl _ | apply Ext.drew | apply Ext.alloc | apply Ext.more_)))).mono ?_); rintro e w' ⟨rfl, hb⟩; obtain ⟨osa, da, rfl⟩ := hb.more; clear hb) | (go_at_call 93; (with_reducible refine (n2 _ (H.out.ext (by with_reducible repeat (first | exact Ext.refl _ | apply Ext.drew | apply Ext.alloc | apply Ext.more_)))).mono ?_); rintro e w' ⟨rfl, hb⟩; obtain ⟨osb, db, rfl⟩ := hb.more; clear hb))
        refine wp_plan (S := Ext _) [(0, 0), (1, 0), (2, 0), (3, 0), (6, 0), (7, 0), (8, 0), (4, 1), (5, 1), (9, 1), (10, 1), (11, 2)] [11] (by kernel_rfl) (by kernel_rfl) (by kernel_rfl) (fun _ _ d _ _ h => by cases d <;> exact h) (Ext.drew (Ext.refl _)) ?_
        iterate 7 ((refine wpPl_read (v := ?_) rfl ?_ (fun _ h => ?_) ?_; rotate_left 1; rfl; (obtain ⟨_, _, rfl⟩ := h.more; go_simp; try rfl)); try simp only [Act.put, zqA, zqB, zqC])
        (refine wpPl_eff rfl ?_ (fun K hK => ?_); rfl; go_simp; refine (HK1.out _).mono ?_; rintro e w' ⟨v, rfl, hv, hb⟩; obtain ⟨B1, cb1, rfl, hB1, hcb1⟩ := Rd.of_own hv; have hB1 := Rd.mono hB1 (Nat.zero_le _); obtain ⟨os1, d1, rfl⟩ := hb.more; clear hb hv; (try simp only [more_more, drew_more, more_drew, Array.append_assoc] at hB1); refine hK _ _ ?_ ?_; (repeat (first | (with_reducible (first | exact Ext.refl _ | exact ext_d _ _ _ _ | exact ext_app _ _ _ _ _ | exact ext_app2 _ _ _ _ _ _ | exact ext_app3 _ _ _ _ _ _ _ | exact ext_app4 _ _ _ _ _ _ _ _ | exact ext_app5 _ _ _ _ _ _ _ _ _)) | ((with_reducible refine ext_suffix ⟨_, ?_⟩); (try simp only [Array.append_assoc]); rfl) | (with_reducible (first | apply Ext.drew | apply Ext.alloc | apply Ext.more_)) | apply Ext.drew | apply Ext.alloc | apply Ext.more_)))
        try simp only [Act.put, zqA, zqB, zqC]
        (refine wpPl_eff rfl ?_ (fun K hK => ?_); rfl; go_simp; refine (HR1.out _ B1 cb1 (HA.out.ext (by with_reducible repeat (first | exact Ext.refl _ | apply Ext.drew | apply Ext.alloc | apply Ext.more_))) hB1 hcb1).mono ?_; rintro e w' ⟨D1, m1, c1, rfl, hD1, hb⟩; have a1 := hD1.arr; obtain ⟨os2, d2, rfl⟩ := hb.more; clear hb hB1 hD1; (try simp only [more_more, drew_more, more_drew, Array.append_assoc] at a1); refine hK _ _ ?_ ?_; (repeat (first | (with_reducible (first | exact Ext.refl _ | exact ext_d _ _ _ _ | exact ext_app _ _ _ _ _ | exact ext_app2 _ _ _ _ _ _ | exact ext_app3 _ _ _ _ _ _ _ | exact ext_app4 _ _ _ _ _ _ _ _ | exact ext_app5 _ _ _ _ _ _ _ _ _)) | ((with_reducible refine ext_suffix ⟨_, ?_⟩); (try simp only [Array.append_assoc]); rfl) | (with_reducible (first | apply Ext.drew | apply Ext.alloc | apply Ext.more_)) | apply Ext.drew | apply Ext.alloc | apply Ext.more_)))
        try simp only [Act.put, zqA, zqB, zqC]
        (refine wpPl_eff rfl ?_ (fun K hK => ?_); rfl; go_simp; refine (HK2.out _).mono ?_; rintro e w' ⟨v, rfl, hv, hb⟩; obtain ⟨B2, cb2, rfl, hB2, hcb2⟩ := Rd.of_own hv; have hB2 := Rd.mono hB2 (Nat.zero_le _); obtain ⟨os3, d3, rfl⟩ := hb.more; clear hb hv; (try simp only [more_more, drew_more, more_drew, Array.append_assoc] at hB2); refine hK _ _ ?_ ?_; (repeat (first | (with_reducible (first | exact Ext.refl _ | exact ext_d _ _ _ _ | exact ext_app _ _ _ _ _ | exact ext_app2 _ _ _ _ _ _ | exact ext_app3 _ _ _ _ _ _ _ | exact ext_app4 _ _ _ _ _ _ _ _ | exact ext_app5 _ _ _ _ _ _ _ _ _)) | ((with_reducible refine ext_suffix ⟨_, ?_⟩); (try simp only [Array.append_assoc]); rfl) | (with_reducible (first | apply Ext.drew | apply Ext.alloc | apply Ext.more_)) | apply Ext.drew | apply Ext.alloc | apply Ext.more_)))
        try simp only [Act.put, zqA, zqB, zqC]
        (refine wpPl_eff rfl ?_ (fun K hK => ?_); rfl; go_simp; refine (HR2.out _ D1 m1 c1 B2 cb2 (a1.ext (by repeat (first | (with_reducible (first | exact Ext.refl _ | exact ext_app _ _ _ _ _ | exact ext_app2 _ _ _ _ _ _ | exact ext_app3 _ _ _ _ _ _ _ | exact ext_app4 _ _ _ _ _ _ _ _ | exact ext_app5 _ _ _ _ _ _ _ _ _)) | ((with_reducible refine ext_suffix ⟨_, ?_⟩); (try simp only [Array.append_assoc]); rfl) | (with_reducible (first | apply Ext.drew | apply Ext.alloc | apply Ext.more_))))) hB2 hcb2).mono ?_; rintro e w' ⟨D, m, cc, rfl, hD, hb⟩; obtain ⟨os4, d4, rfl⟩ := hb.more; clear hb; have hDr := hD.rd; refine hK _ _ ?_ ?_; (repeat (first | (with_reducible (first | exact Ext.refl _ | exact ext_d _ _ _ _ | exact ext_app _ _ _ _ _ | exact ext_app2 _ _ _ _ _ _ | exact ext_app3 _ _ _ _ _ _ _ | exact ext_app4 _ _ _ _ _ _ _ _ | exact ext_app5 _ _ _ _ _ _ _ _ _)) | ((with_reducible refine ext_suffix ⟨_, ?_⟩); (try simp only [Array.append_assoc]); rfl) | (with_reducible (first | apply Ext.drew | apply Ext.alloc | apply Ext.more_)) | apply Ext.drew | apply Ext.alloc | apply Ext.more_)))
        try simp only [Act.put, zqA, zqB, zqC]
        (refine wpPl_tail rfl ?_ (fun K hK => ?_); rfl; go_simp; refine hK _ _ ?_)
        try simp only [Act.put]
        refine wpPl_nil ?_
        go_wp2_with fail
        exact bodyPost_ret (v := AV X.R X.C (.slice D m cc)) (by simp [results, Tryz.results56, go_sem]) rfl ⟨D, m, cc, rfl, ⟨(by (try simp only [more_more] at hDr); (try simp only [drew_more] at hDr); (try simp only [more_drew] at hDr); (try simp only [Array.append_assoc] at hDr); exact Rd.swap hDr (by first | (simp; done) | (simp; omega) | omega) (by first | (simp; done) | (simp; omega) | omega) (by first | (simp; done) | (simp; omega) | omega)), hD.len, hD.cap, hD.small, hD.ok⟩, by with_reducible repeat (first | exact Ext.refl _ | apply Ext.drew | apply Ext.alloc | apply Ext.more_)⟩
    · obtain rfl : aloneO kf = X := by rw [← hX]; unfold takeT; rw [if_neg (by simp), if_pos hkf]
      have hf' : (kf != 0) = true := by simpa using hkf
      clear hX hkf HI1 HI2
      go_enter Tryz.func56, Tryz.ntmps56
      go_wp2_with (first | (go_at_call 93; (with_reducible refine (n0 _ (H.out.ext (by with_reducible repeat (first | exact Ext.refl _ | apply Ext.drew | apply Ext.alloc | apply Ext.more_)))).mono ?_); rintro e w' ⟨rfl, hb⟩; obtain ⟨osa, da, rfl⟩ := hb.more; clear hb) | (go_at_call 93; (with_reducible refine (n2 _ (H.out.ext (by with_reducible repeat (first | exact Ext.refl _ | apply Ext.drew | apply Ext.alloc | apply Ext.more_)))).mono ?_); rintro e w' ⟨rfl, hb⟩; obtain ⟨osb, db, rfl⟩ := hb.more; clear hb) | (go_at_call 27; (with_reducible refine (galone_any _ _).mono ?_); rintro e w' ⟨D, m, cc, rfl, hD, hb⟩; obtain ⟨os5, d5, rfl⟩ := hb.more; clear hb; have hDr := hD.rd))
      exact bodyPost_ret (v := AV (aloneO kf).R (aloneO kf).C (.slice D m cc)) (by simp [results, Tryz.results56, go_sem]) rfl ⟨D, m, cc, rfl, ⟨(by (try simp only [more_more] at hDr); (try simp only [drew_more] at hDr); (try simp only [more_drew] at hDr); (try simp only [Array.append_assoc] at hDr); exact Rd.swap hDr (by first | (simp; done) | (simp; omega) | omega) (by first | (simp; done) | (simp; omega) | omega) (by first | (simp; done) | (simp; omega) | omega)), hD.len, hD.cap, hD.small, hD.ok⟩, by with_reducible repeat (first | exact Ext.refl _ | apply Ext.drew | apply Ext.alloc | apply Ext.more_)⟩
  · obtain rfl : aloneO mf = X := by rw [← hX]; unfold takeT; rw [if_pos hmf]
    have hf' : (mf != 0) = true := by simpa using hmf
    clear hX hmf HI1 HI2
    go_enter Tryz.func56, Tryz.ntmps56
    go_wp2_with (first | (go_at_call 93; (with_reducible refine (n0 _ (H.out.ext (by with_reducible repeat (first | exact Ext.refl _ | apply Ext.drew | apply Ext.alloc | apply Ext.more_)))).mono ?_); rintro e w' ⟨rfl, hb⟩; obtain ⟨osa, da, rfl⟩ := hb.more; clear hb) | (go_at_call 27; (with_reducible refine (galone_any _ _).mono ?_); rintro e w' ⟨D, m, cc, rfl, hD, hb⟩; obtain ⟨os5, d5, rfl⟩ := hb.more; clear hb; have hDr := hD.rd))
    exact bodyPost_ret (v := AV (aloneO mf).R (aloneO mf).C (.slice D m cc)) (by simp [results, Tryz.results56, go_sem]) rfl ⟨D, m, cc, rfl, ⟨(by (try simp only [more_more] at hDr); (try simp only [drew_more] at hDr); (try simp only [more_drew] at hDr); (try simp only [Array.append_assoc] at hDr); exact Rd.swap hDr (by first | (simp; done) | (simp; omega) | omega) (by first | (simp; done) | (simp; omega) | omega) (by first | (simp; done) | (simp; omega) | omega)), hD.len, hD.cap, hD.small, hD.ok⟩, by with_reducible repeat (first | exact Ext.refl _ | apply Ext.drew | apply Ext.alloc | apply Ext.more_)⟩
set_option maxHeartbeats 4000000 in
theorem gdrop_any (A : Option Addr) (n cap : Nat) (xs : List Ar) (w : World) (h : ArgsIn w A n cap xs) (h1 : 1 ≤ n) :
    Calls Tryz.prog 48 #[.slice A n cap] w fun e w' => ResA w (dropO xs) e w' := by
  obtain ⟨R, C, l, b1, off1, n1, cap1, b, off, x0, ha, rfl, ⟨v0, v1, v2⟩, _, hc1, _, _, _, hbl, _, _, _, harr, _⟩ := h.first h1
  have hxr : NA.right ⟨R, C, l⟩ := (h.all _ (List.mem_of_getElem? ha)).right
  have hcap := h.cap
  have hsm := h.small
  simp only [Nat.zero_mul, Nat.add_zero] at v0 v1 v2
  have hx0 : argN xs 0 = ⟨R, C, l⟩ := by unfold argN; rw [ha]
  obtain ⟨r1, r2, r3, r4, r5⟩ := rightA_nat.1 hxr
  simp only at r1 r2 r3 r4
  have hR4 : R ≤ 4096 := Nat.le_trans (Nat.le_mul_of_pos_right R r2) r3
  have hC4 : C ≤ 4096 := Nat.le_trans (Nat.le_mul_of_pos_left C r1) r3
  have n0 := fun W (hW : ArgsIn W (some ⟨b, off, none⟩) n cap xs) => gnumber_any _ n cap xs 1 0 W hW _ rfl
  have n2 := fun W (hW : ArgsIn W (some ⟨b, off, none⟩) n cap xs) => gnumber_any _ n cap xs 2 0 W hW _ rfl
  have i1 : I64 (numO xs 1 0).1 := numO_i64 h (by unfold I64; omega)
  have i2 : I64 (numO xs 2 0).1 := numO_i64 h (by unfold I64; omega)
  unfold dropO
  rw [hx0]
  generalize numO xs 1 0 = mm at *
  generalize numO xs 2 0 = kk at *
  obtain ⟨mi, mf⟩ := mm
  obtain ⟨ki, kf⟩ := kk
  simp only [show ((1 : Nat) : Int) = 1 from rfl, show ((2 : Nat) : Int) = 2 from rfl] at n0 n2
  have H := Lib.hid h
  have HA := Lib.hid harr
  have HI1 := Lib.hid i1
  have HI2 := Lib.hid i2
  clear h harr i1 i2 ha hx0 r4 r5
  obtain ⟨X, hX⟩ : ∃ X, dropT ⟨R, C, l⟩ (mi, mf) (ki, kf) = X := ⟨_, rfl⟩
  rw [hX]
  by_cases hmf : mf = 0
  · subst hmf
    by_cases hkf : kf = 0
    · subst hkf
      have k1 := fun W => rest_any mi R HI1.out hR4 W
      have k2 := fun W => rest_any ki C HI2.out hC4 W
      have hX' : (if restL mi R = [] ∨ restL ki C = [] then aloneO 9 else colsN (rowsN ⟨R, C, l⟩ (restL mi R)) (restL ki C)) = X := by rw [← hX]; unfold dropT; simp only [ne_eq, not_true_eq_false, if_false]
      have p1 := fun e => rest_pl (n := mi) r1 e
      have p2 := fun e => rest_pl (n := ki) r2 e
      clear hX HI1 HI2
      generalize restL mi R = ps at *
      generalize restL ki C = qs at *
      by_cases e1 : ps = []
      · obtain rfl : aloneO 9 = X := by rw [← hX', if_pos (Or.inl e1)]
        have e1' : (((ps.length : Nat) : Int) == 0) = true := by rw [e1]; rfl
        have HK1 := Lib.hid k1
        have HK2 := Lib.hid k2
        clear hX' e1 k1 k2 p1 p2
        go_enter Tryz.func48, Tryz.ntmps48
        go_upto_region 8 with (first | (go_at_call 93; (with_reducible refine (n0 _ (H.out.ext (by with_reducible repeat (first | exact Ext.refl _ | apply Ext.drew | apply Ext.alloc | apply Ext.more_)))).mono ?_); rintro e w' ⟨rfl, hb⟩; obtain ⟨osa, da, rfl⟩ := hb.more; clear hb) | (go_at_call 93; (with_reducible refine (n2 _ (H.out.ext (by with_reducible repeat (first | exact Ext.refl _ | apply Ext.drew | apply Ext.alloc | apply Ext.more_)))).mono ?_); rintro e w' ⟨rfl, hb⟩; obtain ⟨osb, db, rfl⟩ := hb.more; clear hb))
        refine wp_plan (S := Ext _) [(0, 0), (1, 0), (2, 0), (4, 0), (5, 0), (6, 0), (3, 1), (7, 1), (8, 0), (9, 0)] [] (by kernel_rfl) (by kernel_rfl) (by kernel_rfl) (fun _ _ d _ _ h => by cases d <;> exact h) (Ext.drew (Ext.refl _)) ?_
        iterate 6 ((refine wpPl_read (v := ?_) rfl ?_ (fun _ h => ?_) ?_; rotate_left 1; rfl; (obtain ⟨_, _, rfl⟩ := h.more; go_simp; try rfl)); try simp only [Act.put, zqA, zqB, zqC])
        (refine wpPl_eff rfl ?_ (fun K hK => ?_); rfl; go_simp; refine (HK1.out _).mono ?_; rintro e w' ⟨v, rfl, hv, hb⟩; obtain ⟨B1, cb1, rfl, hB1, hcb1⟩ := Rd.of_own hv; obtain ⟨os1, d1, rfl⟩ := hb.more; clear hb hv hB1; refine hK _ _ ?_ ?_; (repeat (first | (with_reducible (first | exact Ext.refl _ | exact ext_d _ _ _ _ | exact ext_app _ _ _ _ _ | exact ext_app2 _ _ _ _ _ _ | exact ext_app3 _ _ _ _ _ _ _ | exact ext_app4 _ _ _ _ _ _ _ _ | exact ext_app5 _ _ _ _ _ _ _ _ _)) | ((with_reducible refine ext_suffix ⟨_, ?_⟩); (try simp only [Array.append_assoc]); rfl) | (with_reducible (first | apply Ext.drew | apply Ext.alloc | apply Ext.more_)) | apply Ext.drew | apply Ext.alloc | apply Ext.more_)))
        try simp only [Act.put, zqA, zqB, zqC]
        (refine wpPl_eff rfl ?_ (fun K hK => ?_); rfl; go_simp; refine (HK2.out _).mono ?_; rintro e w' ⟨v, rfl, hv, hb⟩; obtain ⟨B2, cb2, rfl, hB2, hcb2⟩ := Rd.of_own hv; obtain ⟨os3, d3, rfl⟩ := hb.more; clear hb hv hB2; refine hK _ _ ?_ ?_; (repeat (first | (with_reducible (first | exact Ext.refl _ | exact ext_d _ _ _ _ | exact ext_app _ _ _ _ _ | exact ext_app2 _ _ _ _ _ _ | exact ext_app3 _ _ _ _ _ _ _ | exact ext_app4 _ _ _ _ _ _ _ _ | exact ext_app5 _ _ _ _ _ _ _ _ _)) | ((with_reducible refine ext_suffix ⟨_, ?_⟩); (try simp only [Array.append_assoc]); rfl) | (with_reducible (first | apply Ext.drew | apply Ext.alloc | apply Ext.more_)) | apply Ext.drew | apply Ext.alloc | apply Ext.more_)))
        try simp only [Act.put, zqA, zqB, zqC]
        iterate 2 ((refine wpPl_read (v := ?_) rfl ?_ (fun _ h => ?_) ?_; rotate_left 1; rfl; (obtain ⟨_, _, rfl⟩ := h.more; go_simp; try rfl)); try simp only [Act.put, zqA, zqB, zqC])
        refine wpPl_nil ?_
        go_wp2_with (go_at_call 27; (with_reducible refine (galone_any _ _).mono ?_); rintro e w' ⟨D, m, cc, rfl, hD, hb⟩; obtain ⟨os5, d5, rfl⟩ := hb.more; clear hb; have hDr := hD.rd)
        exact bodyPost_ret (v := AV (aloneO 9).R (aloneO 9).C (.slice D m cc)) (by simp [results, Tryz.results48, go_sem]) rfl ⟨D, m, cc, rfl, ⟨(by (try simp only [more_more] at hDr); (try simp only [drew_more] at hDr); (try simp only [more_drew] at hDr); (try simp only [Array.append_assoc] at hDr); exact Rd.swap hDr (by first | (simp; done) | (simp; omega) | omega) (by first | (simp; done) | (simp; omega) | omega) (by first | (simp; done) | (simp; omega) | omega)), hD.len, hD.cap, hD.small, hD.ok⟩, by with_reducible repeat (first | exact Ext.refl _ | apply Ext.drew | apply Ext.alloc | apply Ext.more_)⟩
      · have q1 := p1 e1
        have l1 : (((ps.length : Nat) : Int) == 0) = false := by have := q1.pos; simp; omega
        by_cases e2 : qs = []
        · obtain rfl : aloneO 9 = X := by rw [← hX', if_pos (Or.inr e2)]
          have e2' : (((qs.length : Nat) : Int) == 0) = true := by rw [e2]; rfl
          have HK1 := Lib.hid k1
          have HK2 := Lib.hid k2
          clear hX' e1 e2 k1 k2 p1 p2 q1
          go_enter Tryz.func48, Tryz.ntmps48
          go_upto_region 8 with (first | (go_at_call 93; (with_reducible refine (n0 _ (H.out.ext (by with_reducible repeat (first | exact Ext.refl _ | apply Ext.drew | apply Ext.alloc | apply Ext.more_)))).mono ?_); rintro e w' ⟨rfl, hb⟩; obtain ⟨osa, da, rfl⟩ := hb.more; clear hb) | (go_at_call 93; (with_reducible refine (n2 _ (H.out.ext (by with_reducible repeat (first | exact Ext.refl _ | apply Ext.drew | apply Ext.alloc | apply Ext.more_)))).mono ?_); rintro e w' ⟨rfl, hb⟩; obtain ⟨osb, db, rfl⟩ := hb.more; clear hb))
          refine wp_plan (S := Ext _) [(0, 0), (1, 0), (2, 0), (4, 0), (5, 0), (6, 0), (3, 1), (7, 1), (8, 0), (9, 0)] [] (by kernel_rfl) (by kernel_rfl) (by kernel_rfl) (fun _ _ d _ _ h => by cases d <;> exact h) (Ext.drew (Ext.refl _)) ?_
          iterate 6 ((refine wpPl_read (v := ?_) rfl ?_ (fun _ h => ?_) ?_; rotate_left 1; rfl; (obtain ⟨_, _, rfl⟩ := h.more; go_simp; try rfl)); try simp only [Act.put, zqA, zqB, zqC])
          (refine wpPl_eff rfl ?_ (fun K hK => ?_); rfl; go_simp; refine (HK1.out _).mono ?_; rintro e w' ⟨v, rfl, hv, hb⟩; obtain ⟨B1, cb1, rfl, hB1, hcb1⟩ := Rd.of_own hv; obtain ⟨os1, d1, rfl⟩ := hb.more; clear hb hv hB1; refine hK _ _ ?_ ?_; (repeat (first | (with_reducible (first | exact Ext.refl _ | exact ext_d _ _ _ _ | exact ext_app _ _ _ _ _ | exact ext_app2 _ _ _ _ _ _ | exact ext_app3 _ _ _ _ _ _ _ | exact ext_app4 _ _ _ _ _ _ _ _ | exact ext_app5 _ _ _ _ _ _ _ _ _)) | ((with_reducible refine ext_suffix ⟨_, ?_⟩); (try simp only [Array.append_assoc]); rfl) | (with_reducible (first | apply Ext.drew | apply Ext.alloc | apply Ext.more_)) | apply Ext.drew | apply Ext.alloc | apply Ext.more_)))
          try simp only [Act.put, zqA, zqB, zqC]
          (refine wpPl_eff rfl ?_ (fun K hK => ?_); rfl; go_simp; refine (HK2.out _).mono ?_; rintro e w' ⟨v, rfl, hv, hb⟩; obtain ⟨B2, cb2, rfl, hB2, hcb2⟩ := Rd.of_own hv; obtain ⟨os3, d3, rfl⟩ := hb.more; clear hb hv hB2; refine hK _ _ ?_ ?_; (repeat (first | (with_reducible (first | exact Ext.refl _ | exact ext_d _ _ _ _ | exact ext_app _ _ _ _ _ | exact ext_app2 _ _ _ _ _ _ | exact ext_app3 _ _ _ _ _ _ _ | exact ext_app4 _ _ _ _ _ _ _ _ | exact ext_app5 _ _ _ _ _ _ _ _ _)) | ((with_reducible refine ext_suffix ⟨_, ?_⟩); (try simp only [Array.append_assoc]); rfl) | (with_reducible (first | apply Ext.drew | apply Ext.alloc | apply Ext.more_)) | apply Ext.drew | apply Ext.alloc | apply Ext.more_)))
          try simp only [Act.put, zqA, zqB, zqC]
          iterate 2 ((refine wpPl_read (v := ?_) rfl ?_ (fun _ h => ?_) ?_; rotate_left 1; rfl; (obtain ⟨_, _, rfl⟩ := h.more; go_simp; try rfl)); try simp only [Act.put, zqA, zqB, zqC])
          refine wpPl_nil ?_
          go_wp2_with (go_at_call 27; (with_reducible refine (galone_any _ _).mono ?_); rintro e w' ⟨D, m, cc, rfl, hD, hb⟩; obtain ⟨os5, d5, rfl⟩ := hb.more; clear hb; have hDr := hD.rd)
          exact bodyPost_ret (v := AV (aloneO 9).R (aloneO 9).C (.slice D m cc)) (by simp [results, Tryz.results48, go_sem]) rfl ⟨D, m, cc, rfl, ⟨(by (try simp only [more_more] at hDr); (try simp only [drew_more] at hDr); (try simp only [more_drew] at hDr); (try simp only [Array.append_assoc] at hDr); exact Rd.swap hDr (by first | (simp; done) | (simp; omega) | omega) (by first | (simp; done) | (simp; omega) | omega) (by first | (simp; done) | (simp; omega) | omega)), hD.len, hD.cap, hD.small, hD.ok⟩, by with_reducible repeat (first | exact Ext.refl _ | apply Ext.drew | apply Ext.alloc | apply Ext.more_)⟩
        · have q2 := p2 e2
          have l2 : (((qs.length : Nat) : Int) == 0) = false := by have := q2.pos; simp; omega
          obtain rfl : colsN (rowsN ⟨R, C, l⟩ ps) qs = X := by rw [← hX', if_neg (fun e => e.elim e1 e2)]
          have hr1 := fun W B cb (hW : ArrIn W (some ⟨b1, off1, none⟩) n1 cap1 l) hB hcb => rowsOf_pl ⟨R, C, l⟩ _ n1 cap1 ps B cb W hW hxr hB hcb q1
          have hYr : (rowsN ⟨R, C, l⟩ ps).right := rowsN_right hxr q1.lt q1.pos q1.le
          have hYC : (rowsN ⟨R, C, l⟩ ps).C = C := rfl
          generalize rowsN ⟨R, C, l⟩ ps = Y at *
          have hr2 := fun W D m cc B cb (hW : ArrIn W D m cc Y.l) hB hcb => colsOf_pl Y D m cc qs B cb W hW hYr hB hcb (by rw [hYC]; exact q2)
          generalize colsN Y qs = X at *
          clear hX' e1 e2 p1 p2 q1 q2 hYr hYC hxr
          have HR1 := Lib.hid hr1
          have HR2 := Lib.hid hr2
          have HK1 := Lib.hid k1
          have HK2 := Lib.hid k2
          clear hr1 hr2 k1 k2
          go_enter Tryz.func48, Tryz.ntmps48
          go_upto_region 8 with (first | (go_at_call 93; (with_reducible refine (n0 _ (H.out.ext (by with_reducible repeat (first | exact Ext.refl _ | apply Ext.drew | apply Ext.alloc | apply Ext.more_)))).mono ?_); rintro e w' ⟨rfl, hb⟩; obtain ⟨osa, da, rfl⟩ := hb.more; clear hb) | (go_at_call 93; (with_reducible refine (n2 _ (H.out.ext (by with_reducible repeat (first | exact Ext.refl _ | apply Ext.drew | apply Ext.alloc | apply Ext.more_)))).mono ?_); rintro e w' ⟨rfl, hb⟩; obtain ⟨osb, db, rfl⟩ := hb.more; clear hb))
          refine wp_plan (S := Ext _) [(0, 0), (1, 0), (2, 0), (4, 0), (5, 0), (6, 0), (3, 1), (7, 1), (8, 0), (9, 0)] [] (by kernel_rfl) (by kernel_rfl) (by kernel_rfl) (fun _ _ d _ _ h => by cases d <;> exact h) (Ext.drew (Ext.refl _)) ?_
          iterate 6 ((refine wpPl_read (v := ?_) rfl ?_ (fun _ h => ?_) ?_; rotate_left 1; rfl; (obtain ⟨_, _, rfl⟩ := h.more; go_simp; try rfl)); try simp only [Act.put, zqA, zqB, zqC])
          (refine wpPl_eff rfl ?_ (fun K hK => ?_); rfl; go_simp; refine (HK1.out _).mono ?_; rintro e w' ⟨v, rfl, hv, hb⟩; obtain ⟨B1, cb1, rfl, hB1, hcb1⟩ := Rd.of_own hv; have hB1 := Rd.mono hB1 (Nat.zero_le _); obtain ⟨os1, d1, rfl⟩ := hb.more; clear hb hv; (try simp only [more_more, drew_more, more_drew, Array.append_assoc] at hB1); have HB1 := Lib.hid hB1; clear hB1; refine hK _ _ ?_ ?_; (repeat (first | (with_reducible (first | exact Ext.refl _ | exact ext_d _ _ _ _ | exact ext_app _ _ _ _ _ | exact ext_app2 _ _ _ _ _ _ | exact ext_app3 _ _ _ _ _ _ _ | exact ext_app4 _ _ _ _ _ _ _ _ | exact ext_app5 _ _ _ _ _ _ _ _ _)) | ((with_reducible refine ext_suffix ⟨_, ?_⟩); (try simp only [Array.append_assoc]); rfl) | (with_reducible (first | apply Ext.drew | apply Ext.alloc | apply Ext.more_)) | apply Ext.drew | apply Ext.alloc | apply Ext.more_)))
          try simp only [Act.put, zqA, zqB, zqC]
          (refine wpPl_eff rfl ?_ (fun K hK => ?_); rfl; go_simp; refine (HK2.out _).mono ?_; rintro e w' ⟨v, rfl, hv, hb⟩; obtain ⟨B2, cb2, rfl, hB2, hcb2⟩ := Rd.of_own hv; have hB2 := Rd.mono hB2 (Nat.zero_le _); obtain ⟨os3, d3, rfl⟩ := hb.more; clear hb hv; (try simp only [more_more, drew_more, more_drew, Array.append_assoc] at hB2); have HB2 := Lib.hid hB2; clear hB2; refine hK _ _ ?_ ?_; (repeat (first | (with_reducible (first | exact Ext.refl _ | exact ext_d _ _ _ _ | exact ext_app _ _ _ _ _ | exact ext_app2 _ _ _ _ _ _ | exact ext_app3 _ _ _ _ _ _ _ | exact ext_app4 _ _ _ _ _ _ _ _ | exact ext_app5 _ _ _ _ _ _ _ _ _)) | ((with_reducible refine ext_suffix ⟨_, ?_⟩); (try simp only [Array.append_assoc]); rfl) | (with_reducible (first | apply Ext.drew | apply Ext.alloc | apply Ext.more_)) | apply Ext.drew | apply Ext.alloc | apply Ext.more_)))
          try simp only [Act.put, zqA, zqB, zqC]
          iterate 2 ((refine wpPl_read (v := ?_) rfl ?_ (fun _ h => ?_) ?_; rotate_left 1; rfl; (obtain ⟨_, _, rfl⟩ := h.more; go_simp; try rfl)); try simp only [Act.put, zqA, zqB, zqC])
          refine wpPl_nil ?_
          go_wp2_with (first | (go_at_call 96; refine (HR1.out _ B1 cb1 (HA.out.ext (by with_reducible repeat (first | exact Ext.refl _ | apply Ext.drew | apply Ext.alloc | apply Ext.more_))) (HB1.out.ext (by repeat (first | (with_reducible (first | exact Ext.refl _ | exact ext_app _ _ _ _ _ | exact ext_app2 _ _ _ _ _ _ | exact ext_app3 _ _ _ _ _ _ _ | exact ext_app4 _ _ _ _ _ _ _ _ | exact ext_app5 _ _ _ _ _ _ _ _ _)) | ((with_reducible refine ext_suffix ⟨_, ?_⟩); (try simp only [Array.append_assoc]); rfl) | (with_reducible (first | apply Ext.drew | apply Ext.alloc | apply Ext.more_))))) hcb1).mono ?_; rintro e w' ⟨D1, m1, c1, rfl, hD1, hb⟩; have a1 := hD1.arr; obtain ⟨os2, d2, rfl⟩ := hb.more; clear hb hD1; (try simp only [more_more, drew_more, more_drew, Array.append_assoc] at a1)) | (go_at_call 95; refine (HR2.out _ D1 m1 c1 B2 cb2 (a1.ext (by repeat (first | (with_reducible (first | exact Ext.refl _ | exact ext_app _ _ _ _ _ | exact ext_app2 _ _ _ _ _ _ | exact ext_app3 _ _ _ _ _ _ _ | exact ext_app4 _ _ _ _ _ _ _ _ | exact ext_app5 _ _ _ _ _ _ _ _ _)) | ((with_reducible refine ext_suffix ⟨_, ?_⟩); (try simp only [Array.append_assoc]); rfl) | (with_reducible (first | apply Ext.drew | apply Ext.alloc | apply Ext.more_))))) (HB2.out.ext (by repeat (first | (with_reducible (first | exact Ext.refl _ | exact ext_app _ _ _ _ _ | exact ext_app2 _ _ _ _ _ _ | exact ext_app3 _ _ _ _ _ _ _ | exact ext_app4 _ _ _ _ _ _ _ _ | exact ext_app5 _ _ _ _ _ _ _ _ _)) | ((with_reducible refine ext_suffix ⟨_, ?_⟩); (try simp only [Array.append_assoc]); rfl) | (with_reducible (first | apply Ext.drew | apply Ext.alloc | apply Ext.more_))))) hcb2).mono ?_; rintro e w' ⟨D, m, cc, rfl, hD, hb⟩; obtain ⟨os4, d4, rfl⟩ := hb.more; clear hb; have hDr := hD.rd))
          exact bodyPost_ret (v := AV X.R X.C (.slice D m cc)) (by simp [results, Tryz.results48, go_sem]) rfl ⟨D, m, cc, rfl, ⟨(by (try simp only [more_more] at hDr); (try simp only [drew_more] at hDr); (try simp only [more_drew] at hDr); (try simp only [Array.append_assoc] at hDr); exact Rd.swap hDr (by first | (simp; done) | (simp; omega) | omega) (by first | (simp; done) | (simp; omega) | omega) (by first | (simp; done) | (simp; omega) | omega)), hD.len, hD.cap, hD.small, hD.ok⟩, by with_reducible repeat (first | exact Ext.refl _ | apply Ext.drew | apply Ext.alloc | apply Ext.more_)⟩
    · obtain rfl : aloneO kf = X := by rw [← hX]; unfold dropT; rw [if_neg (by simp), if_pos hkf]
      have hf' : (kf != 0) = true := by simpa using hkf
      clear hX hkf HI1 HI2
      go_enter Tryz.func48, Tryz.ntmps48
      go_wp2_with (first | (go_at_call 93; (with_reducible refine (n0 _ (H.out.ext (by with_reducible repeat (first | exact Ext.refl _ | apply Ext.drew | apply Ext.alloc | apply Ext.more_)))).mono ?_); rintro e w' ⟨rfl, hb⟩; obtain ⟨osa, da, rfl⟩ := hb.more; clear hb) | (go_at_call 93; (with_reducible refine (n2 _ (H.out.ext (by with_reducible repeat (first | exact Ext.refl _ | apply Ext.drew | apply Ext.alloc | apply Ext.more_)))).mono ?_); rintro e w' ⟨rfl, hb⟩; obtain ⟨osb, db, rfl⟩ := hb.more; clear hb) | (go_at_call 27; (with_reducible refine (galone_any _ _).mono ?_); rintro e w' ⟨D, m, cc, rfl, hD, hb⟩; obtain ⟨os5, d5, rfl⟩ := hb.more; clear hb; have hDr := hD.rd))
      exact bodyPost_ret (v := AV (aloneO kf).R (aloneO kf).C (.slice D m cc)) (by simp [results, Tryz.results48, go_sem]) rfl ⟨D, m, cc, rfl, ⟨(by (try simp only [more_more] at hDr); (try simp only [drew_more] at hDr); (try simp only [more_drew] at hDr); (try simp only [Array.append_assoc] at hDr); exact Rd.swap hDr (by first | (simp; done) | (simp; omega) | omega) (by first | (simp; done) | (simp; omega) | omega) (by first | (simp; done) | (simp; omega) | omega)), hD.len, hD.cap, hD.small, hD.ok⟩, by with_reducible repeat (first | exact Ext.refl _ | apply Ext.drew | apply Ext.alloc | apply Ext.more_)⟩
  · obtain rfl : aloneO mf = X := by rw [← hX]; unfold dropT; rw [if_pos hmf]
    have hf' : (mf != 0) = true := by simpa using hmf
    clear hX hmf HI1 HI2
    go_enter Tryz.func48, Tryz.ntmps48
    go_wp2_with (first | (go_at_call 93; (with_reducible refine (n0 _ (H.out.ext (by with_reducible repeat (first | exact Ext.refl _ | apply Ext.drew | apply Ext.alloc | apply Ext.more_)))).mono ?_); rintro e w' ⟨rfl, hb⟩; obtain ⟨osa, da, rfl⟩ := hb.more; clear hb) | (go_at_call 27; (with_reducible refine (galone_any _ _).mono ?_); rintro e w' ⟨D, m, cc, rfl, hD, hb⟩; obtain ⟨os5, d5, rfl⟩ := hb.more; clear hb; have hDr := hD.rd))
    exact bodyPost_ret (v := AV (aloneO mf).R (aloneO mf).C (.slice D m cc)) (by simp [results, Tryz.results48, go_sem]) rfl ⟨D, m, cc, rfl, ⟨(by (try simp only [more_more] at hDr); (try simp only [drew_more] at hDr); (try simp only [more_drew] at hDr); (try simp only [Array.append_assoc] at hDr); exact Rd.swap hDr (by first | (simp; done) | (simp; omega) | omega) (by first | (simp; done) | (simp; omega) | omega) (by first | (simp; done) | (simp; omega) | omega)), hD.len, hD.cap, hD.small, hD.ok⟩, by with_reducible repeat (first | exact Ext.refl _ | apply Ext.drew | apply Ext.alloc | apply Ext.more_)⟩
end Go.Proofs.YtlfbdodokldkhaaGreatDoor
namespace Go.Proofs.YtlfbdodokldkhaaGreatDoor
open Go.RowKit NM
theorem pcall_take (A : Option Addr) (n cap : Nat) (gs : List GA) (w : World) (h : ArgsG w A n cap gs) : Calls Tryz.prog 15 #[.string ⟨#[84, 65, 75, 69]⟩, .slice A n cap] w (CallG w (callX 1 3 gs (takeO (arsOf gs)))) :=
  gcall_any ⟨#[84, 65, 75, 69]⟩ 1 3 56 (fun _ _ => #[]) (by decide) (fun _ _ => rfl) (fun args W => by go_simp) (by decide) (by decide) A n cap gs w h _ (fun hr h1 _ p1 p2 W hW _ => gtake_any A n cap _ W ((arsOf_in h hr).ext hW) h1)
theorem pcall_drop (A : Option Addr) (n cap : Nat) (gs : List GA) (w : World) (h : ArgsG w A n cap gs) : Calls Tryz.prog 15 #[.string ⟨#[68, 82, 79, 80]⟩, .slice A n cap] w (CallG w (callX 1 3 gs (dropO (arsOf gs)))) :=
  gcall_any ⟨#[68, 82, 79, 80]⟩ 1 3 48 (fun _ _ => #[]) (by decide) (fun _ _ => rfl) (fun args W => by go_simp) (by decide) (by decide) A n cap gs w h _ (fun hr h1 _ p1 p2 W hW _ => gdrop_any A n cap _ W ((arsOf_in h hr).ext hW) h1)
theorem part_take (A : Option Addr) (n cap : Nat) (gs : List GA) (w : World) (h : ArgsG w A n cap gs) : Calls Tryz.prog 13 #[.string ⟨#[84, 65, 75, 69]⟩, .slice A n cap] w fun e w' => e = .returned (.bool true) ∧ Ext w w' :=
  call15_any ⟨#[84, 65, 75, 69]⟩ A n cap w (callX 1 3 gs (takeO (arsOf gs))) (fun W hW => pcall_take A n cap gs W (h.ext hW)) (fun W hW => rcall_x _ 1 3 (by decide) (by decide) (by decide) (fun W' => rcount_take W') _ A n cap gs W (h.ext hW) (fun hi h1 h2 => rcall_take A n cap _ W hi h1 h2))
theorem part_drop (A : Option Addr) (n cap : Nat) (gs : List GA) (w : World) (h : ArgsG w A n cap gs) : Calls Tryz.prog 13 #[.string ⟨#[68, 82, 79, 80]⟩, .slice A n cap] w fun e w' => e = .returned (.bool true) ∧ Ext w w' :=
  call15_any ⟨#[68, 82, 79, 80]⟩ A n cap w (callX 1 3 gs (dropO (arsOf gs))) (fun W hW => pcall_drop A n cap gs W (h.ext hW)) (fun W hW => rcall_x _ 1 3 (by decide) (by decide) (by decide) (fun W' => rcount_drop W') _ A n cap gs W (h.ext hW) (fun hi h1 h2 => rcall_drop A n cap _ W hi h1 h2))
set_option maxHeartbeats 4000000 in
theorem farrayParts_any (A : Option Addr) (n cap : Nat) (gs : List GA) (w : World) (htab : Tab w) (h : ArgsG w A n cap gs) :
    Calls Tryz.prog 4 #[.slice A n cap] w fun e w' => e = .returned (.bool true) ∧ Ext w w' := by
  have HT := Lib.hid htab
  have H := Lib.hid h
  clear htab h
  go_enter Tryz.func4, Tryz.ntmps4
  go_wp2_with (first | (go_at_call 11; (with_reducible refine (awake15_any _ (HT.out.ext (by with_reducible repeat (first | exact Ext.refl _ | apply Ext.drew | apply Ext.alloc | apply Ext.more_)))).mono ?_); rintro e w' ⟨rfl, hb⟩; obtain ⟨osw, dw, rfl⟩ := hb.more; clear hb) | (go_at_call 12; (with_reducible refine (small15_any _ _ _ _ _ (H.out.ext (by with_reducible repeat (first | exact Ext.refl _ | apply Ext.drew | apply Ext.alloc | apply Ext.more_)))).mono ?_); rintro e w' ⟨s, rfl, hs, hb⟩; obtain ⟨oss, ds, rfl⟩ := hb.more; clear hb; rcases hs with rfl | rfl) | (go_at_call 13; first | (with_reducible refine (part_take _ _ _ _ _ (H.out.ext (by with_reducible repeat (first | exact Ext.refl _ | apply Ext.drew | apply Ext.alloc | apply Ext.more_)))).mono ?_); rintro e w' ⟨rfl, hb⟩; obtain ⟨os1, d1, rfl⟩ := hb.more; clear hb | (with_reducible refine (part_drop _ _ _ _ _ (H.out.ext (by with_reducible repeat (first | exact Ext.refl _ | apply Ext.drew | apply Ext.alloc | apply Ext.more_)))).mono ?_); rintro e w' ⟨rfl, hb⟩; obtain ⟨os2, d2, rfl⟩ := hb.more; clear hb))
  all_goals
    go_ret
    exact ⟨rfl, by with_reducible repeat (first | exact Ext.refl _ | apply Ext.drew | apply Ext.alloc | apply Ext.more_)⟩
end Go.Proofs.YtlfbdodokldkhaaGreatDoor
namespace Go.Proofs.YtlfbdodokldkhaaGreatDoor
open Go.RowKit NM
theorem push_app (a b : Array Obj) (o : Obj) (c : Array Obj) : (a ++ b).push o ++ c = a ++ (b.push o ++ c) := by
  apply Array.ext'; simp
theorem rwhole_one (W : World) : Calls Tryz.prog 35 #[.int .i64 1] W fun e w' => e = .returned (NV 1 0) ∧ Ext W w' := by
  have h := rwhole_any 1 W (by decide)
  rw [show wholeN 1 = (1, 0) by unfold wholeN; rw [show rndI 1 0 = some (1, 0) from rnd_of_right false rt_one]; rfl] at h
  exact h
theorem tnO_bd {w : World} {A : Option Addr} {n cap k : Nat} {xs : List Ar} (h : ArgsIn w A n cap xs) : (tnO xs k).2 = 0 ∨ (1 ≤ (tnO xs k).2 ∧ (tnO xs k).2 ≤ 9) := by
  unfold tnO
  cases hg : givenB xs k with
  | false => left; rfl
  | true => rw [if_pos rfl]; exact tnF_bd (argV_right h hg)
/-- The first number and the step, as far as they are read. -/
def SeqL (a s : (Int × Int) × Int) (j x1 x2 y1 y2 : Int) : Prop :=
  (j = 0 → x1 = 1 ∧ x2 = 0 ∧ y1 = 1 ∧ y2 = 0) ∧ (j = 1 → a = ((x1, x2), 0) ∧ y1 = 1 ∧ y2 = 0) ∧ (j = 2 → a = ((x1, x2), 0) ∧ s = ((y1, y2), 0))
/-- So many values, and the last number. -/
def SeqAt (a s : Int × Int) : Nat → List Val → Int × Int → Prop
  | 0, L, p => L = [] ∧ p = a
  | k + 1, L, p => seqS a s k = some (L, p)
set_option maxHeartbeats 8000000 in
theorem rseq_any (A : Option Addr) (n cap : Nat) (xs : List Ar) (w : World) (h : ArgsIn w A n cap xs) :
    Calls Tryz.prog 39 #[.slice A n cap] w fun e w' => ResA w (sequenceO xs) e w' := by
  have n0 := fun W (hW : ArgsIn W A n cap xs) => rnumber15_any A n cap xs 0 1 W hW _ rfl
  have n1 := fun W (hW : ArgsIn W A n cap xs) => rnumber15_any A n cap xs 1 1 W hW _ rfl
  have v2 := fun W (hW : ArgsIn W A n cap xs) => left_any A n cap xs 2 W hW _ rfl
  have v3 := fun W (hW : ArgsIn W A n cap xs) => left_any A n cap xs 3 W hW _ rfl
  have f1 := numO_bd (k := 0) (l := 1) h
  have f2 := numO_bd (k := 1) (l := 1) h
  have f3 := tnO_bd (k := 2) h
  have f4 := tnO_bd (k := 3) h
  have H := Lib.hid h
  unfold sequenceO
  generalize numO xs 0 1 = mm at *
  generalize numO xs 1 1 = kk at *
  obtain ⟨mi, mf⟩ := mm
  obtain ⟨ki, kf⟩ := kk
  simp only [show ((0 : Nat) : Int) = 0 from rfl, show ((1 : Nat) : Int) = 1 from rfl, show ((2 : Nat) : Int) = 2 from rfl, show ((3 : Nat) : Int) = 3 from rfl] at n0 n1 v2 v3 f1 f2
  clear h
  by_cases hmf : mf = 0
  · subst hmf
    by_cases hkf : kf = 0
    · subst hkf
      have har := tnO_rt (k := 2) H.out
      have hsr := tnO_rt (k := 3) H.out
      obtain ⟨a, ha⟩ : ∃ a, tnO xs 2 = a := ⟨_, rfl⟩
      obtain ⟨s, hs⟩ : ∃ s, tnO xs 3 = s := ⟨_, rfl⟩
      rw [ha] at har f3 ⊢
      rw [hs] at hsr f4 ⊢
      have HA := Lib.hid ha
      have HS := Lib.hid hs
      clear ha hs f1 f2
      have F3 := Lib.hid f3
      have F4 := Lib.hid f4
      clear f3 f4
      obtain ⟨X, hX⟩ : ∃ X, seqT (mi, 0) (ki, 0) a s = X := ⟨_, rfl⟩
      rw [hX]
      have HX := Lib.hid hX
      clear hX
      go_enter Tryz.func39, Tryz.ntmps39
      go_upto_region 7 with (first | (go_at_call 76; (with_reducible refine (n0 _ (H.out.ext (by with_reducible repeat (first | exact Ext.refl _ | apply Ext.drew | apply Ext.alloc | apply Ext.more_)))).mono ?_); rintro e w' ⟨rfl, hb⟩; obtain ⟨osa, da, rfl⟩ := hb.more; clear hb) | (go_at_call 76; (with_reducible refine (n1 _ (H.out.ext (by with_reducible repeat (first | exact Ext.refl _ | apply Ext.drew | apply Ext.alloc | apply Ext.more_)))).mono ?_); rintro e w' ⟨rfl, hb⟩; obtain ⟨osb, db, rfl⟩ := hb.more; clear hb) | (go_at_call 35; (with_reducible refine (rwhole_one _).mono ?_); rintro e w' ⟨rfl, hb⟩; obtain ⟨osc, dc, rfl⟩ := hb.more; clear hb))
      go_upto_region 8 with (first | (have _t := osc; clear _t; (go_at_call 35; (with_reducible refine (rwhole_one _).mono ?_); rintro e w' ⟨rfl, hb⟩; obtain ⟨ose, de, rfl⟩ := hb.more; clear hb)) | (go_at_call 35; (with_reducible refine (rwhole_one _).mono ?_); rintro e w' ⟨rfl, hb⟩; obtain ⟨osc, dc, rfl⟩ := hb.more; clear hb))
      generalize hoz : osa ++ (osb ++ (osc ++ ose)) = oz
      have hozs : osa.size + (osb.size + (osc.size + ose.size)) = oz.size := by rw [← hoz]; simp
      rw [hozs]
      generalize de = dz
      clear hoz hozs osa osb osc ose da db dc
      go_wp2_with fail
      go_loopw [8] (fun i wr => ∃ (j x1 x2 y1 y2 : Int) (os : Array Obj) (d : Nat), 0 ≤ j ∧ j ≤ 2 ∧ i = .int .i64 j ∧ wr = more ((more (w.alloc (Obj.cells #[.int .i64 0, .int .i64 0, .slice none 0 0] 30)) oz dz).alloc (Obj.cells #[.int .i64 x1, .int .i64 x2, .int .i64 y1, .int .i64 y2] 37)) os d ∧ Hid (SeqL a s j x1 x2 y1 y2)) (fun i _ => (2 - intOf i).toNat)
      case atStart => exact ⟨0, 1, 0, 1, 0, #[], _, by omega, by omega, rfl, (more_none _).symm, ⟨fun _ => ⟨rfl, rfl, rfl, rfl⟩, fun e => by omega, fun e => by omega⟩⟩
      case round =>
        obtain ⟨j, x1, x2, y1, y2, os, d, hj0, hj2, rfl, rfl, HL⟩ := hrel
        by_cases j0 : j = 0
        · subst j0
          obtain ⟨rfl, rfl, rfl, rfl⟩ := HL.out.1 rfl
          clear HL
          cases hg : givenB xs 2 with
          | false =>
            obtain rfl : ((1, 0), 0) = a := by rw [← HA.out]; unfold tnO; rw [hg]; rfl
            have hv := fun W (hW : ArgsIn W A n cap xs) => by have := v2 W hW; rw [hg] at this; exact this
            clear hg v2 v3
            go_wp2_with (go_at_call 78; (with_reducible refine (hv _ (H.out.ext (by with_reducible repeat (first | exact Ext.refl _ | apply Ext.drew | apply Ext.alloc | apply Ext.more_)))).mono ?_); rintro e w' ⟨rfl, hb⟩; obtain ⟨osg, dg, rfl⟩ := hb.more; clear hb)
            exact ⟨⟨1, _, _, _, _, _, _, by omega, by omega, rfl, rfl, ⟨fun e => by omega, fun _ => ⟨rfl, rfl, rfl⟩, fun e => by omega⟩⟩, by simp [intOf]⟩
          | true =>
            have hlt := given_lt H.out hg
            obtain ⟨R, C, l, b1, off1, n1', cap1, b, off, x, _, rfl, ⟨u0, u1, u2⟩, hn1, hc1, ⟨t0, t1, t2, t3, t4, t5⟩, _, hxr, hbl, hb1, hav, _, _, _⟩ := H.out.first hlt
            have hcap := H.out.cap
            have hsm := H.out.small
            simp only at u0 u1 u2
            have hv := fun W (hW : ArgsIn W (some ⟨b, off, none⟩) n cap xs) => by have := v2 W hW; rw [hg] at this; exact this
            obtain rfl : (tnP x, tnF x) = a := by rw [← HA.out]; unfold tnO; rw [hg, if_pos rfl, hav]
            have ht := fun W => rtoNum_any x W hxr
            clear hg hav v2 v3
            by_cases hf : tnF x = 0
            · simp only [tnV, hf] at ht
              go_wp2_with (first | (go_at_call 78; (with_reducible refine (hv _ (H.out.ext (by with_reducible repeat (first | exact Ext.refl _ | apply Ext.drew | apply Ext.alloc | apply Ext.more_)))).mono ?_); rintro e w' ⟨rfl, hb⟩; obtain ⟨osg, dg, rfl⟩ := hb.more; clear hb) | (go_at_call 80; (with_reducible refine (ht _).mono ?_); rintro e w' ⟨rfl, hb⟩; obtain ⟨ost, dt, rfl⟩ := hb.more; clear hb))
              exact ⟨⟨1, _, _, _, _, _, _, by omega, by omega, rfl, more_alloc _ _ _ _, ⟨fun e => by omega, fun _ => ⟨by rw [hf], rfl, rfl⟩, fun e => by omega⟩⟩, by simp [intOf]⟩
            · have hf' : (tnF x != 0) = true := by simpa using hf
              have HB := Lib.hid (F3.out.resolve_left hf)
              obtain rfl : aloneO (tnF x) = X := by rw [← HX.out]; unfold seqT; rw [if_neg (by simp), if_neg (by simp), if_pos hf]
              go_wp2_with (first | (go_at_call 78; (with_reducible refine (hv _ (H.out.ext (by with_reducible repeat (first | exact Ext.refl _ | apply Ext.drew | apply Ext.alloc | apply Ext.more_)))).mono ?_); rintro e w' ⟨rfl, hb⟩; obtain ⟨osg, dg, rfl⟩ := hb.more; clear hb) | (go_at_call 80; (with_reducible refine (ht _).mono ?_); rintro e w' ⟨rfl, hb⟩; obtain ⟨ost, dt, rfl⟩ := hb.more; clear hb) | (go_at_call 20; (with_reducible refine (rbad_res _ HB.out _).mono ?_); rintro e w' ⟨D, m, cc, rfl, hD, hb⟩; obtain ⟨os5, d5, rfl⟩ := hb.more; clear hb; have hDr := hD.rd))
              exact bodyPost_ret (v := AV (aloneO (tnF x)).R (aloneO (tnF x)).C (.slice D m cc)) (by simp [results, Tryz.results39, go_sem]) rfl ⟨D, m, cc, rfl, ⟨(by (try simp only [more_alloc, more_more] at hDr); (try simp only [more_alloc, more_more]); (try simp only [drew_more] at hDr); (try simp only [more_drew] at hDr); (try simp only [Array.append_assoc] at hDr); (try simp only [Array.append_assoc]); exact Rd.swap hDr (by first | (simp; done) | (simp; omega) | omega) (by first | (simp; done) | (simp; omega) | omega) (by first | (simp; done) | (simp; omega) | omega)), hD.len, hD.cap, hD.small, hD.ok⟩, by with_reducible repeat (first | exact Ext.refl _ | apply Ext.drew | apply Ext.alloc | apply Ext.more_)⟩
        · by_cases j1 : j = 1
          · subst j1
            obtain ⟨rfl, rfl, rfl⟩ := HL.out.2.1 rfl
            clear HL j0
            cases hg : givenB xs 3 with
            | false =>
              obtain rfl : ((1, 0), 0) = s := by rw [← HS.out]; unfold tnO; rw [hg]; rfl
              have hv := fun W (hW : ArgsIn W A n cap xs) => by have := v3 W hW; rw [hg] at this; exact this
              clear hg v2 v3
              go_wp2_with (go_at_call 78; (with_reducible refine (hv _ (H.out.ext (by with_reducible repeat (first | exact Ext.refl _ | apply Ext.drew | apply Ext.alloc | apply Ext.more_)))).mono ?_); rintro e w' ⟨rfl, hb⟩; obtain ⟨osg, dg, rfl⟩ := hb.more; clear hb)
              exact ⟨⟨2, _, _, _, _, _, _, by omega, by omega, rfl, rfl, ⟨fun e => by omega, fun e => by omega, fun _ => ⟨rfl, rfl⟩⟩⟩, by simp [intOf]⟩
            | true =>
              have hlt := given_lt H.out hg
              obtain ⟨R, C, l, b1, off1, n1', cap1, b, off, x, _, rfl, ⟨u0, u1, u2⟩, hn1, hc1, ⟨t0, t1, t2, t3, t4, t5⟩, _, hxr, hbl, hb1, hav, _, _, _⟩ := H.out.first hlt
              have hcap := H.out.cap
              have hsm := H.out.small
              simp only at u0 u1 u2
              have hv := fun W (hW : ArgsIn W (some ⟨b, off, none⟩) n cap xs) => by have := v3 W hW; rw [hg] at this; exact this
              obtain rfl : (tnP x, tnF x) = s := by rw [← HS.out]; unfold tnO; rw [hg, if_pos rfl, hav]
              have ht := fun W => rtoNum_any x W hxr
              clear hg hav v2 v3
              by_cases hf : tnF x = 0
              · simp only [tnV, hf] at ht
                go_wp2_with (first | (go_at_call 78; (with_reducible refine (hv _ (H.out.ext (by with_reducible repeat (first | exact Ext.refl _ | apply Ext.drew | apply Ext.alloc | apply Ext.more_)))).mono ?_); rintro e w' ⟨rfl, hb⟩; obtain ⟨osg, dg, rfl⟩ := hb.more; clear hb) | (go_at_call 80; (with_reducible refine (ht _).mono ?_); rintro e w' ⟨rfl, hb⟩; obtain ⟨ost, dt, rfl⟩ := hb.more; clear hb))
                exact ⟨⟨2, _, _, _, _, _, _, by omega, by omega, rfl, more_alloc _ _ _ _, ⟨fun e => by omega, fun e => by omega, fun _ => ⟨rfl, by rw [hf]⟩⟩⟩, by simp [intOf]⟩
              · have hf' : (tnF x != 0) = true := by simpa using hf
                have HB := Lib.hid (F4.out.resolve_left hf)
                obtain rfl : aloneO (tnF x) = X := by rw [← HX.out]; unfold seqT; rw [if_neg (by simp), if_neg (by simp), if_neg (by simp), if_pos hf]
                go_wp2_with (first | (go_at_call 78; (with_reducible refine (hv _ (H.out.ext (by with_reducible repeat (first | exact Ext.refl _ | apply Ext.drew | apply Ext.alloc | apply Ext.more_)))).mono ?_); rintro e w' ⟨rfl, hb⟩; obtain ⟨osg, dg, rfl⟩ := hb.more; clear hb) | (go_at_call 80; (with_reducible refine (ht _).mono ?_); rintro e w' ⟨rfl, hb⟩; obtain ⟨ost, dt, rfl⟩ := hb.more; clear hb) | (go_at_call 20; (with_reducible refine (rbad_res _ HB.out _).mono ?_); rintro e w' ⟨D, m, cc, rfl, hD, hb⟩; obtain ⟨os5, d5, rfl⟩ := hb.more; clear hb; have hDr := hD.rd))
                exact bodyPost_ret (v := AV (aloneO (tnF x)).R (aloneO (tnF x)).C (.slice D m cc)) (by simp [results, Tryz.results39, go_sem]) rfl ⟨D, m, cc, rfl, ⟨(by (try simp only [more_alloc, more_more] at hDr); (try simp only [more_alloc, more_more]); (try simp only [drew_more] at hDr); (try simp only [more_drew] at hDr); (try simp only [Array.append_assoc] at hDr); (try simp only [Array.append_assoc]); exact Rd.swap hDr (by first | (simp; done) | (simp; omega) | omega) (by first | (simp; done) | (simp; omega) | omega) (by first | (simp; done) | (simp; omega) | omega)), hD.len, hD.cap, hD.small, hD.ok⟩, by with_reducible repeat (first | exact Ext.refl _ | apply Ext.drew | apply Ext.alloc | apply Ext.more_)⟩
          · obtain rfl : j = 2 := by omega
            obtain ⟨rfl, rfl⟩ := HL.out.2.2 rfl
            clear HL j0 j1 hj0 hj2 v2 v3
            simp only at har hsr
            by_cases q1 : mi < 1
            · obtain rfl : aloneO 9 = X := by rw [← HX.out]; unfold seqT; rw [if_neg (by simp), if_neg (by simp), if_neg (by simp), if_neg (by simp), if_pos (Or.inl q1)]
              go_wp2_with (go_at_call 20; (with_reducible refine (rbad_res 9 (by omega) _).mono ?_); rintro e w' ⟨D, m, cc, rfl, hD, hb⟩; obtain ⟨os5, d5, rfl⟩ := hb.more; clear hb; have hDr := hD.rd)
              exact bodyPost_ret (v := AV (aloneO 9).R (aloneO 9).C (.slice D m cc)) (by simp [results, Tryz.results39, go_sem]) rfl ⟨D, m, cc, rfl, ⟨(by (try simp only [more_alloc, more_more] at hDr); (try simp only [more_alloc, more_more]); (try simp only [drew_more] at hDr); (try simp only [more_drew] at hDr); (try simp only [Array.append_assoc] at hDr); (try simp only [Array.append_assoc]); exact Rd.swap hDr (by first | (simp; done) | (simp; omega) | omega) (by first | (simp; done) | (simp; omega) | omega) (by first | (simp; done) | (simp; omega) | omega)), hD.len, hD.cap, hD.small, hD.ok⟩, by with_reducible repeat (first | exact Ext.refl _ | apply Ext.drew | apply Ext.alloc | apply Ext.more_)⟩
            · by_cases q2 : ki < 1
              · obtain rfl : aloneO 9 = X := by rw [← HX.out]; unfold seqT; rw [if_neg (by simp), if_neg (by simp), if_neg (by simp), if_neg (by simp), if_pos (Or.inr q2)]
                go_wp2_with (go_at_call 20; (with_reducible refine (rbad_res 9 (by omega) _).mono ?_); rintro e w' ⟨D, m, cc, rfl, hD, hb⟩; obtain ⟨os5, d5, rfl⟩ := hb.more; clear hb; have hDr := hD.rd)
                exact bodyPost_ret (v := AV (aloneO 9).R (aloneO 9).C (.slice D m cc)) (by simp [results, Tryz.results39, go_sem]) rfl ⟨D, m, cc, rfl, ⟨(by (try simp only [more_alloc, more_more] at hDr); (try simp only [more_alloc, more_more]); (try simp only [drew_more] at hDr); (try simp only [more_drew] at hDr); (try simp only [Array.append_assoc] at hDr); (try simp only [Array.append_assoc]); exact Rd.swap hDr (by first | (simp; done) | (simp; omega) | omega) (by first | (simp; done) | (simp; omega) | omega) (by first | (simp; done) | (simp; omega) | omega)), hD.len, hD.cap, hD.small, hD.ok⟩, by with_reducible repeat (first | exact Ext.refl _ | apply Ext.drew | apply Ext.alloc | apply Ext.more_)⟩
              · by_cases q3 : 4096 < mi * ki
                · obtain rfl : aloneO 5 = X := by rw [← HX.out]; unfold seqT; rw [if_neg (by simp), if_neg (by simp), if_neg (by simp), if_neg (by simp), if_neg (by omega), if_pos q3]
                  by_cases q4 : 4096 < mi
                  · go_wp2_with (go_at_call 20; (with_reducible refine (rbad_res 5 (by omega) _).mono ?_); rintro e w' ⟨D, m, cc, rfl, hD, hb⟩; obtain ⟨os5, d5, rfl⟩ := hb.more; clear hb; have hDr := hD.rd)
                    exact bodyPost_ret (v := AV (aloneO 5).R (aloneO 5).C (.slice D m cc)) (by simp [results, Tryz.results39, go_sem]) rfl ⟨D, m, cc, rfl, ⟨(by (try simp only [more_alloc, more_more] at hDr); (try simp only [more_alloc, more_more]); (try simp only [drew_more] at hDr); (try simp only [more_drew] at hDr); (try simp only [Array.append_assoc] at hDr); (try simp only [Array.append_assoc]); exact Rd.swap hDr (by first | (simp; done) | (simp; omega) | omega) (by first | (simp; done) | (simp; omega) | omega) (by first | (simp; done) | (simp; omega) | omega)), hD.len, hD.cap, hD.small, hD.ok⟩, by with_reducible repeat (first | exact Ext.refl _ | apply Ext.drew | apply Ext.alloc | apply Ext.more_)⟩
                  · by_cases q5 : 4096 < ki
                    · go_wp2_with (go_at_call 20; (with_reducible refine (rbad_res 5 (by omega) _).mono ?_); rintro e w' ⟨D, m, cc, rfl, hD, hb⟩; obtain ⟨os5, d5, rfl⟩ := hb.more; clear hb; have hDr := hD.rd)
                      exact bodyPost_ret (v := AV (aloneO 5).R (aloneO 5).C (.slice D m cc)) (by simp [results, Tryz.results39, go_sem]) rfl ⟨D, m, cc, rfl, ⟨(by (try simp only [more_alloc, more_more] at hDr); (try simp only [more_alloc, more_more]); (try simp only [drew_more] at hDr); (try simp only [more_drew] at hDr); (try simp only [Array.append_assoc] at hDr); (try simp only [Array.append_assoc]); exact Rd.swap hDr (by first | (simp; done) | (simp; omega) | omega) (by first | (simp; done) | (simp; omega) | omega) (by first | (simp; done) | (simp; omega) | omega)), hD.len, hD.cap, hD.small, hD.ok⟩, by with_reducible repeat (first | exact Ext.refl _ | apply Ext.drew | apply Ext.alloc | apply Ext.more_)⟩
                    · have e1 : IntKind.i64.wrap (mi * ki) = mi * ki := by
                        rw [IntKind.wrap_i64]
                        have h1 : mi * ki ≤ 4096 * 4096 := Int.mul_le_mul (by omega) (by omega) (by omega) (by omega)
                        omega
                      obtain ⟨z, hz⟩ : ∃ z, mi * ki = z := ⟨_, rfl⟩
                      rw [hz] at q3
                      have e2 : IntKind.i64.wrap (mi * ki) = z := e1.trans hz
                      clear e1 hz HX
                      go_wp2_with (go_at_call 20; (with_reducible refine (rbad_res 5 (by omega) _).mono ?_); rintro e w' ⟨D, m, cc, rfl, hD, hb⟩; obtain ⟨os5, d5, rfl⟩ := hb.more; clear hb; have hDr := hD.rd)
                      exact bodyPost_ret (v := AV (aloneO 5).R (aloneO 5).C (.slice D m cc)) (by simp [results, Tryz.results39, go_sem]) rfl ⟨D, m, cc, rfl, ⟨(by (try simp only [more_alloc, more_more] at hDr); (try simp only [more_alloc, more_more]); (try simp only [drew_more] at hDr); (try simp only [more_drew] at hDr); (try simp only [Array.append_assoc] at hDr); (try simp only [Array.append_assoc]); exact Rd.swap hDr (by first | (simp; done) | (simp; omega) | omega) (by first | (simp; done) | (simp; omega) | omega) (by first | (simp; done) | (simp; omega) | omega)), hD.len, hD.cap, hD.small, hD.ok⟩, by with_reducible repeat (first | exact Ext.refl _ | apply Ext.drew | apply Ext.alloc | apply Ext.more_)⟩
                · obtain ⟨M, rfl⟩ : ∃ M : Nat, mi = M := ⟨mi.toNat, by omega⟩
                  obtain ⟨Kc, rfl⟩ : ∃ Kc : Nat, ki = Kc := ⟨ki.toNat, by omega⟩
                  have q5 : M * Kc ≤ 4096 := by rw [← Int.natCast_mul] at q3; omega
                  have e1 : IntKind.i64.wrap ((M : Int) * (Kc : Int)) = ((M * Kc : Nat) : Int) := by rw [IntKind.wrap_i64, ← Int.natCast_mul]; omega
                  have q6 : 1 ≤ M * Kc := Nat.mul_pos (by omega) (by omega)
                  have q7 : (M : Int) ≤ 4096 := by have := Nat.le_trans (Nat.le_mul_of_pos_right M (show 0 < Kc by omega)) q5; omega
                  have q8 : (Kc : Int) ≤ 4096 := by have := Nat.le_trans (Nat.le_mul_of_pos_left Kc (show 0 < M by omega)) q5; omega
                  have hXe : seqT ((M : Int), 0) ((Kc : Int), 0) ((x1, x2), 0) ((y1, y2), 0) = match seqS (x1, x2) (y1, y2) (M * Kc - 1) with
                    | none => aloneO 5
                    | some (l, _) => ⟨M, Kc, l⟩ := by
                    unfold seqT
                    rw [if_neg (by simp), if_neg (by simp), if_neg (by simp), if_neg (by simp), if_neg (by omega), if_neg q3]
                    rfl
                  have HE := Lib.hid (hXe.symm.trans HX.out)
                  generalize hT : M * Kc = T at *
                  clear hXe HX q3 hT
                  obtain ⟨j0, hi0, hz0, hz1, hz2⟩ := info_parts info_val
                  go_wp2_with fail
                  go_loopw [13] (fun i wr => ∃ (k : Nat) (L : List Val) (p : Int × Int) (B : Option Addr) (c : Nat) (os' : Array Obj) (d' : Nat), k ≤ T ∧ i = .int .i64 (k : Int) ∧ wr = more (((more ((more (w.alloc (Obj.cells #[.int .i64 0, .int .i64 0, .slice none 0 0] 30)) oz dz).alloc (Obj.cells #[.int .i64 x1, .int .i64 x2, .int .i64 y1, .int .i64 y2] 37)) os d).alloc (Obj.cells #[.int .i64 (M : Int), .int .i64 (Kc : Int), .slice B k c] 30)).alloc (Obj.cells #[.int .i64 p.1, .int .i64 p.2] 37)) os' d' ∧ Rt p.1 p.2 ∧ Hid (SeqAt (x1, x2) (y1, y2) k L p) ∧ Hid (wr.ownsRow (w.heap.size + 1 + oz.size + 1 + os.size + 2) 39 6 (.slice B k c) k (vcells L))) (fun i _ => T - (intOf i).toNat)
                  case atStart => exact ⟨0, [], (x1, x2), none, 0, #[], _, Nat.zero_le _, rfl, (more_none _).symm, har, ⟨rfl, rfl⟩, World.ownsRow_nil _ _ _ _⟩
                  case round =>
                    obtain ⟨k, L, p, B, c, os', d', hk, rfl, rfl, hpr, HQ, HO⟩ := hrel
                    obtain ⟨pm, pe⟩ := p
                    simp only at hpr
                    by_cases hlt : k < T
                    · have hlt' : (k : Int) < (T : Int) := by omega
                      go_upto_if 100 with fail
                      go_cut [] (fun wx => ∃ (q : Int × Int) (osx : Array Obj) (dx : Nat), wx = more (((more ((more (w.alloc (Obj.cells #[.int .i64 0, .int .i64 0, .slice none 0 0] 30)) oz dz).alloc (Obj.cells #[.int .i64 x1, .int .i64 x2, .int .i64 y1, .int .i64 y2] 37)) os d).alloc (Obj.cells #[.int .i64 (M : Int), .int .i64 (Kc : Int), .slice B k c] 30)).alloc (Obj.cells #[.int .i64 q.1, .int .i64 q.2] 37)) osx dx ∧ Rt q.1 q.2 ∧ Hid (seqS (x1, x2) (y1, y2) k = some (L ++ [⟨1, q.1, q.2, ⟨#[]⟩, false, 0⟩], q)) ∧ Hid (wx.ownsRow (w.heap.size + 1 + oz.size + 1 + os.size + 2) 39 6 (.slice B k c) k (vcells L)))
                      case first =>
                        by_cases hk0 : k = 0
                        · subst hk0
                          obtain ⟨e1', e2'⟩ := HQ.out
                          simp only [Prod.mk.injEq] at e2'
                          obtain ⟨rfl, rfl⟩ := e2'
                          subst e1'
                          go_wp2_with fail
                          go_meet
                          exact ⟨(pm, pe), os', d', rfl, hpr, rfl, HO⟩
                        · have hq : seqS (x1, x2) (y1, y2) (k - 1) = some (L, (pm, pe)) := by
                            have := HQ.out
                            obtain ⟨k', rfl⟩ : ∃ k', k = k' + 1 := ⟨k - 1, by omega⟩
                            exact this
                          have had := fun W => radd_any pm pe y1 y2 W (rt_i64 hpr) (rt_i64 hsr)
                          have hk0' : (0 : Int) < (k : Int) := by omega
                          go_upto_region 26 with fail
                          refine wp_world fun U hU => ?_
                          have hx : Ext w U := by rw [hU]; exact (by with_reducible repeat (first | exact Ext.refl _ | apply Ext.drew | apply Ext.alloc | apply Ext.more_))
                          have c0 : U.cell? ⟨w.heap.size + 1 + oz.size + 1 + os.size + 1, 0, none⟩ = some (.int .i64 pm) := by rw [hU]; go_simp
                          have c1 : U.cell? ⟨w.heap.size + 1 + oz.size + 1 + os.size + 1, 1, none⟩ = some (.int .i64 pe) := by rw [hU]; go_simp
                          have c2 : U.cell? ⟨w.heap.size + 1 + oz.size, 2, none⟩ = some (.int .i64 y1) := by rw [hU]; go_simp
                          have c3 : U.cell? ⟨w.heap.size + 1 + oz.size, 3, none⟩ = some (.int .i64 y2) := by rw [hU]; go_simp
                          have lc := lt_of_cell c0
                          have lc2 := lt_of_cell c2
                          have HU := Lib.hid hU
                          clear hU
                          cases hs : addS pm pe y1 y2 with
                          | none =>
                            rw [hs] at had
                            simp only [rnV, rm, re, Option.getD_none, Option.isSome_none] at had
                            obtain rfl : aloneO 5 = X := by
                              have h1 : seqS (x1, x2) (y1, y2) (k - 1 + 1) = none := by unfold seqS; rw [hq]; simp only; rw [hs]
                              have h2 := seqS_none h1 (T - 1 - (k - 1 + 1))
                              rw [show k - 1 + 1 + (T - 1 - (k - 1 + 1)) = T - 1 by omega] at h2
                              rw [← HE.out, h2]
                            clear hs hq
                            refine wp_float [(8, 14, (.cells #[.int .i64 0, .int .i64 0] 37))] [(0, 0), (1, 0), (2, 0), (3, 0), (4, 1), (5, 0), (6, 0), (7, 2)] [9, 10] [9, 10] [7] (by kernel_rfl) (by kernel_rfl) (by kernel_rfl) (fun _ _ d _ _ h => by cases d <;> exact h) (fun _ _ d _ _ h => by cases d <;> exact h) (fun x hx o ho a w => by (obtain rfl := List.mem_singleton.1 hx); (obtain rfl := Option.some.inj ho); (first | rfl | (simp [go_sem, ptrB]; done) | (go_simp; rfl))) ?_
                            iterate 4 ((refine wpFp_read (v := ?_) rfl ?_ (fun w1 h1 => ?_) ?_; rotate_left 1; rfl; (obtain ⟨os1, d1, rfl⟩ := h1.more; go_simp; first | done | rfl)); try simp only [Act.put, zqA, zqB, zqC])
                            (refine wpFp_eff rfl ?_ (fun wf hXf hE K hK => ?_); rfl; obtain ⟨osf, df, rfl⟩ := hXf.more; go_simp; refine (had _).mono ?_; rintro e w' ⟨rfl, hb⟩; refine hK _ _ (fun _ => True) (by (try simp only [more_drew, more_more, Array.append_assoc]); exact hb) (fun _ _ _ _ => trivial) trivial ?_)
                            try simp only [Act.put, zqA, zqB, zqC]
                            iterate 2 ((refine wpFp_read (v := ?_) rfl ?_ (fun w1 h1 => ?_) ?_; rotate_left 1; rfl; (obtain ⟨os1, d1, rfl⟩ := h1.more; go_simp; first | done | rfl)); try simp only [Act.put, zqA, zqB, zqC])
                            (refine wpFp_pure (v := ?_) rfl ?_ (fun w1 => ?_) ?_; rotate_left 1; rfl; (go_simp; first | done | rfl))
                            try simp only [Act.put, zqA, zqB, zqC]
                            refine wpFp_one fun osa da osb db hE => ?_
                            try simp only [Act.put, zqA, zqB, zqC]
                            iterate 2 ((refine wpTl_op rfl ?_ (fun K hK => ?_); rfl; go_simp; refine hK _ _ ?_); try simp only [Act.put, zqA, zqB, zqC])
                            refine wpTl_nil ?_
                            clear c0 c1 c2 c3 lc lc2 hE
                            have hrow := gvar_at U (.cells #[.int .i64 0, .int .i64 0] 37) osa osb da db
                            have hflat := flat4 (((more ((more (w.alloc (Obj.cells #[.int .i64 0, .int .i64 0, .slice none 0 0] 30)) oz dz).alloc (Obj.cells #[.int .i64 x1, .int .i64 x2, .int .i64 y1, .int .i64 y2] 37)) os d).alloc (Obj.cells #[.int .i64 (M : Int), .int .i64 (Kc : Int), .slice B k c] 30)).alloc (Obj.cells #[.int .i64 pm, .int .i64 pe] 37)) os' osa osb d' da db (.cells #[.int .i64 0, .int .i64 0] 37)
                            rw [← HU.out] at hflat
                            rw [hflat] at hrow ⊢
                            clear hflat
                            have hO9 := Lib.hid (own_ext HO.out (ext_suffix (w := (((more ((more (w.alloc (Obj.cells #[.int .i64 0, .int .i64 0, .slice none 0 0] 30)) oz dz).alloc (Obj.cells #[.int .i64 x1, .int .i64 x2, .int .i64 y1, .int .i64 y2] 37)) os d).alloc (Obj.cells #[.int .i64 (M : Int), .int .i64 (Kc : Int), .slice B k c] 30)).alloc (Obj.cells #[.int .i64 pm, .int .i64 pe] 37))) (os' := (os' ++ osa).push (.cells #[.int .i64 0, .int .i64 0] 37) ++ osb) (d' := db) ⟨osa.push (.cells #[.int .i64 0, .int .i64 0] 37) ++ osb, push_app _ _ _ _⟩))
                            generalize (os' ++ osa).push (.cells #[.int .i64 0, .int .i64 0] 37) ++ osb = os9 at *
                            generalize U.heap.size + osa.size = pz at *
                            clear HU hx
                            have m0 := cell_of_row _ _ 0 _ _ _ hrow
                            have m1 := cell_of_row _ _ 1 _ _ _ hrow
                            have ln := lt_of_cell m0
                            clear hrow
                            go_wp2_with (go_at_call 20; (with_reducible refine (rbad_res 5 (by omega) _).mono ?_); rintro e w' ⟨D, m, cc, rfl, hD, hb⟩; obtain ⟨os5, d5, rfl⟩ := hb.more; clear hb; have hDr := hD.rd)
                            exact bodyPost_ret (v := AV (aloneO 5).R (aloneO 5).C (.slice D m cc)) (by simp [results, Tryz.results39, go_sem]) rfl ⟨D, m, cc, rfl, ⟨(by (try simp only [more_alloc, more_more] at hDr); (try simp only [more_alloc, more_more]); (try simp only [drew_more] at hDr); (try simp only [more_drew] at hDr); (try simp only [Array.append_assoc] at hDr); (try simp only [Array.append_assoc]); exact Rd.swap hDr (by first | (simp; done) | (simp; omega) | omega) (by first | (simp; done) | (simp; omega) | omega) (by first | (simp; done) | (simp; omega) | omega)), hD.len, hD.cap, hD.small, hD.ok⟩, by with_reducible repeat (first | exact Ext.refl _ | apply Ext.drew | apply Ext.alloc | apply Ext.more_)⟩
                          | some q =>
                            obtain ⟨qm, qe⟩ := q
                            have hqq := addS_rt hs
                            rw [hs] at had
                            simp only [rnV, rm, re, Option.getD_some, Option.isSome_some] at had
                            have HQ3 : Hid (seqS (x1, x2) (y1, y2) k = some (L ++ [⟨1, qm, qe, ⟨#[]⟩, false, 0⟩], (qm, qe))) := by
                              show _ = _
                              obtain ⟨k', rfl⟩ : ∃ k', k = k' + 1 := ⟨k - 1, by omega⟩
                              have hq' : seqS (x1, x2) (y1, y2) k' = some (L, (pm, pe)) := hq
                              conv => lhs; unfold seqS
                              rw [hq']; simp only; rw [hs]
                            clear hs hq
                            refine wp_float [(8, 14, (.cells #[.int .i64 0, .int .i64 0] 37))] [(0, 0), (1, 0), (2, 0), (3, 0), (4, 1), (5, 0), (6, 0), (7, 2)] [9, 10] [9, 10] [7] (by kernel_rfl) (by kernel_rfl) (by kernel_rfl) (fun _ _ d _ _ h => by cases d <;> exact h) (fun _ _ d _ _ h => by cases d <;> exact h) (fun x hx o ho a w => by (obtain rfl := List.mem_singleton.1 hx); (obtain rfl := Option.some.inj ho); (first | rfl | (simp [go_sem, ptrB]; done) | (go_simp; rfl))) ?_
                            iterate 4 ((refine wpFp_read (v := ?_) rfl ?_ (fun w1 h1 => ?_) ?_; rotate_left 1; rfl; (obtain ⟨os1, d1, rfl⟩ := h1.more; go_simp; first | done | rfl)); try simp only [Act.put, zqA, zqB, zqC])
                            (refine wpFp_eff rfl ?_ (fun wf hXf hE K hK => ?_); rfl; obtain ⟨osf, df, rfl⟩ := hXf.more; go_simp; refine (had _).mono ?_; rintro e w' ⟨rfl, hb⟩; refine hK _ _ (fun _ => True) (by (try simp only [more_drew, more_more, Array.append_assoc]); exact hb) (fun _ _ _ _ => trivial) trivial ?_)
                            try simp only [Act.put, zqA, zqB, zqC]
                            iterate 2 ((refine wpFp_read (v := ?_) rfl ?_ (fun w1 h1 => ?_) ?_; rotate_left 1; rfl; (obtain ⟨os1, d1, rfl⟩ := h1.more; go_simp; first | done | rfl)); try simp only [Act.put, zqA, zqB, zqC])
                            (refine wpFp_pure (v := ?_) rfl ?_ (fun w1 => ?_) ?_; rotate_left 1; rfl; (go_simp; first | done | rfl))
                            try simp only [Act.put, zqA, zqB, zqC]
                            refine wpFp_one fun osa da osb db hE => ?_
                            try simp only [Act.put, zqA, zqB, zqC]
                            iterate 2 ((refine wpTl_op rfl ?_ (fun K hK => ?_); rfl; go_simp; refine hK _ _ ?_); try simp only [Act.put, zqA, zqB, zqC])
                            refine wpTl_nil ?_
                            clear c0 c1 c2 c3 lc lc2 hE
                            have hrow := gvar_at U (.cells #[.int .i64 qm, .int .i64 qe] 37) osa osb da db
                            have hflat := flat4 (((more ((more (w.alloc (Obj.cells #[.int .i64 0, .int .i64 0, .slice none 0 0] 30)) oz dz).alloc (Obj.cells #[.int .i64 x1, .int .i64 x2, .int .i64 y1, .int .i64 y2] 37)) os d).alloc (Obj.cells #[.int .i64 (M : Int), .int .i64 (Kc : Int), .slice B k c] 30)).alloc (Obj.cells #[.int .i64 pm, .int .i64 pe] 37)) os' osa osb d' da db (.cells #[.int .i64 qm, .int .i64 qe] 37)
                            rw [← HU.out] at hflat
                            rw [hflat] at hrow ⊢
                            clear hflat
                            have hO9 := Lib.hid (own_ext HO.out (ext_suffix (w := (((more ((more (w.alloc (Obj.cells #[.int .i64 0, .int .i64 0, .slice none 0 0] 30)) oz dz).alloc (Obj.cells #[.int .i64 x1, .int .i64 x2, .int .i64 y1, .int .i64 y2] 37)) os d).alloc (Obj.cells #[.int .i64 (M : Int), .int .i64 (Kc : Int), .slice B k c] 30)).alloc (Obj.cells #[.int .i64 pm, .int .i64 pe] 37))) (os' := (os' ++ osa).push (.cells #[.int .i64 qm, .int .i64 qe] 37) ++ osb) (d' := db) ⟨osa.push (.cells #[.int .i64 qm, .int .i64 qe] 37) ++ osb, push_app _ _ _ _⟩))
                            generalize (os' ++ osa).push (.cells #[.int .i64 qm, .int .i64 qe] 37) ++ osb = os9 at *
                            generalize U.heap.size + osa.size = pz at *
                            clear HU hx
                            have m0 := cell_of_row _ _ 0 _ _ _ hrow
                            have m1 := cell_of_row _ _ 1 _ _ _ hrow
                            have ln := lt_of_cell m0
                            clear hrow
                            go_wp2_with fail
                            go_meet
                            exact ⟨(qm, qe), os9, _, rfl, hqq, HQ3, own_two (.cells #[.int .i64 (M : Int), .int .i64 (Kc : Int), .slice B k c] 30) (.cells #[.int .i64 qm, .int .i64 qe] 37) hO9.out (by simp)⟩
                      case rest =>
                      obtain ⟨⟨qm, qe⟩, osx, dx, rfl, hqr, HQ2, HO2⟩ := hcut
                      clear HQ HO
                      simp only at hqr
                      go_upto_region 30 with fail
                      refine wp_plan (S := Ext (((more ((more (w.alloc (Obj.cells #[.int .i64 0, .int .i64 0, .slice none 0 0] 30)) oz dz).alloc (Obj.cells #[.int .i64 x1, .int .i64 x2, .int .i64 y1, .int .i64 y2] 37)) os d).alloc (Obj.cells #[.int .i64 (M : Int), .int .i64 (Kc : Int), .slice B k c] 30)).alloc (Obj.cells #[.int .i64 qm, .int .i64 qe] 37))) [(0, 0), (1, 0), (2, 0), (3, 1), (4, 1), (5, 1), (6, 0), (7, 2)] [7] (by kernel_rfl) (by kernel_rfl) (by kernel_rfl) (fun _ _ d _ _ h => by cases d <;> exact h) (Ext.drew (ext_more _ _ _)) ?_
                      iterate 3 ((refine wpPl_read (v := ?_) rfl ?_ (fun _ h => ?_) ?_; rotate_left 1; rfl; (obtain ⟨_, _, rfl⟩ := h.more; go_simp; try rfl)); try simp only [Act.put, zqA, zqB, zqC])
                      (refine wpPl_eff rfl ?_ (fun K hK => ?_); rfl; go_simp; refine (rof15_any _ _ _).mono ?_; rintro e w' ⟨rfl, hb⟩; obtain ⟨osf, df, rfl⟩ := hb.more; clear hb; refine hK _ _ ?_ ?_; (with_reducible repeat (first | exact Ext.refl _ | exact ext_more _ _ _ | apply Ext.drew | apply Ext.alloc | apply Ext.more_)))
                      try simp only [Act.put, zqA, zqB, zqC]
                      (refine wpPl_eff rfl ?_ (fun K hK => ?_); rfl; go_simp; refine hK _ _ ?_ ?_; (with_reducible repeat (first | exact Ext.refl _ | exact ext_more _ _ _ | apply Ext.drew | apply Ext.alloc | apply Ext.more_)))
                      try simp only [Act.put, zqA, zqB, zqC]
                      (refine wpPl_eff rfl ?_ (fun K hK => ?_); rfl)
                      refine wp_append_own _ _ _ _ rfl (w.heap.size + 1 + oz.size + 1 + os.size + 2) 39 j0 (VV 0 0 0 ⟨#[]⟩ false 0) 6 56 Tryz.underlying28 hi0 hz0 hz1 hz2 rfl (by decide) (.slice B k c) k (vcells L) rfl (own_ext HO2.out (by with_reducible repeat (first | exact Ext.refl _ | exact ext_d _ _ _ _ | exact ext_app _ _ _ _ _ | exact ext_app2 _ _ _ _ _ _ | exact ext_app3 _ _ _ _ _ _ _ | exact ext_app4 _ _ _ _ _ _ _ _ | apply Ext.drew | apply Ext.alloc | apply Ext.more_))) _ 1 1 (Val.cells ⟨1, qm, qe, ⟨#[]⟩, false, 0⟩) rfl rfl (new_cells_at _ _ _ (by simp) rfl _) (cells_one _) (by simp only [maxLen]; omega) (by omega) (by simp; omega) ?_
                      intro v4 w4 ho4 hg4
                      have hx4 : Ext (((more ((more (w.alloc (Obj.cells #[.int .i64 0, .int .i64 0, .slice none 0 0] 30)) oz dz).alloc (Obj.cells #[.int .i64 x1, .int .i64 x2, .int .i64 y1, .int .i64 y2] 37)) os d).alloc (Obj.cells #[.int .i64 (M : Int), .int .i64 (Kc : Int), .slice B k c] 30)).alloc (Obj.cells #[.int .i64 qm, .int .i64 qe] 37)) w4 := ext_grownN (n := k) (ty := 39) (size := 6) (xs := vcells L) (v := .slice B k c) (by with_reducible repeat (first | exact Ext.refl _ | apply Ext.drew | apply Ext.alloc | apply Ext.more_)) (by simpa [Nat.add_assoc] using own_ext HO2.out (by with_reducible repeat (first | exact Ext.refl _ | exact ext_d _ _ _ _ | exact ext_app _ _ _ _ _ | exact ext_app2 _ _ _ _ _ _ | exact ext_app3 _ _ _ _ _ _ _ | exact ext_app4 _ _ _ _ _ _ _ _ | apply Ext.drew | apply Ext.alloc | apply Ext.more_))) hg4
                      obtain ⟨os9, d9, rfl⟩ := hx4.more
                      obtain ⟨G4, c4, rfl⟩ := own_slice ho4
                      have HO4 := Lib.hid ho4
                      clear ho4 hg4 hx4
                      refine hK _ _ (ext_more _ _ _) ?_
                      try simp only [Act.put, zqA, zqB, zqC]
                      (refine wpPl_read (v := ?_) rfl ?_ (fun _ h => ?_) ?_; rotate_left 1; rfl; (obtain ⟨_, _, rfl⟩ := h.more; go_simp; try rfl))
                      try simp only [Act.put, zqA, zqB, zqC]
                      (refine wpPl_tail rfl ?_ (fun K hK => ?_); rfl; go_simp; refine hK _ _ ?_)
                      try simp only [Act.put, zqA, zqB, zqC]
                      refine wpPl_nil ?_
                      go_wp2_with fail
                      refine ⟨⟨k + 1, L ++ [⟨1, qm, qe, ⟨#[]⟩, false, 0⟩], (qm, qe), G4, c4, os9, _, by omega, by go_num, rfl, hqr, (Lib.hid (show SeqAt (x1, x2) (y1, y2) (k + 1) (L ++ [⟨1, qm, qe, ⟨#[]⟩, false, 0⟩]) (qm, qe) from HQ2.out)), ?_⟩, by simp [intOf]; omega⟩
                      show World.ownsRow _ _ _ _ _ _ _
                      rw [vcells_append]
                      refine own_two (Z := (more ((more (w.alloc (Obj.cells #[.int .i64 0, .int .i64 0, .slice none 0 0] 30)) oz dz).alloc (Obj.cells #[.int .i64 x1, .int .i64 x2, .int .i64 y1, .int .i64 y2] 37)) os d)) (.cells #[.int .i64 (M : Int), .int .i64 (Kc : Int), .slice G4 (k + 1) c4] 30) (.cells #[.int .i64 qm, .int .i64 qe] 37) (o := .cells #[.int .i64 (M : Int), .int .i64 (Kc : Int), .slice B k c] 30) (s := .cells #[.int .i64 qm, .int .i64 qe] 37) ?_ (by simp)
                      simpa [vcells] using HO4.out
                    · obtain rfl : k = T := by omega
                      have hq : seqS (x1, x2) (y1, y2) (k - 1) = some (L, (pm, pe)) := by
                        have := HQ.out
                        obtain ⟨k', rfl⟩ : ∃ k', k = k' + 1 := ⟨k - 1, by omega⟩
                        exact this
                      obtain rfl : (⟨M, Kc, L⟩ : NA) = X := by rw [← HE.out, hq]
                      obtain ⟨i1, i2, i3⟩ := seqS_some har hsr hq
                      obtain ⟨D, cc, hv, hD⟩ := own_arrN (n := k) (l := L) (v := .slice B k c) (w := w.alloc (Obj.cells #[.int .i64 0, .int .i64 0, .slice none 0 0] 30)) (X := (((more ((more (w.alloc (Obj.cells #[.int .i64 0, .int .i64 0, .slice none 0 0] 30)) oz dz).alloc (Obj.cells #[.int .i64 x1, .int .i64 x2, .int .i64 y1, .int .i64 y2] 37)) os d).alloc (Obj.cells #[.int .i64 (M : Int), .int .i64 (Kc : Int), .slice B k c] 30)).alloc (Obj.cells #[.int .i64 pm, .int .i64 pe] 37))) (by simpa [Nat.add_assoc] using HO.out) (by simp only [World.size_alloc, more_size]; omega) (by omega) (fun x hx => (i3 x hx).ok)
                      simp only [Value.slice.injEq, true_and] at hv
                      obtain ⟨rfl, rfl⟩ := hv
                      have hDr := hD.rd
                      clear HE HQ HO hk hq
                      go_wp2_with fail
                      exact bodyPost_ret (v := AV M Kc (.slice B k c)) (by simp [results, Tryz.results39, go_sem]) rfl ⟨B, k, c, rfl, ⟨(by (try simp only [more_alloc, more_more] at hDr); (try simp only [more_alloc, more_more]); (try simp only [drew_more] at hDr); (try simp only [more_drew] at hDr); (try simp only [Array.append_assoc] at hDr); (try simp only [Array.append_assoc]); exact Rd.swap hDr (by first | (simp; done) | (simp; omega) | omega) (by first | (simp; done) | (simp; omega) | omega) (by first | (simp; done) | (simp; omega) | omega)), hD.len, hD.cap, hD.small, hD.ok⟩, by with_reducible repeat (first | exact Ext.refl _ | apply Ext.drew | apply Ext.alloc | apply Ext.more_)⟩
    · have hX : seqT (mi, 0) (ki, kf) (tnO xs 2) (tnO xs 3) = aloneO kf := by unfold seqT; rw [if_neg (by simp), if_pos hkf]
      rw [hX]
      have hf' : (kf != 0) = true := by simpa using hkf
      have HF := Lib.hid (f2.resolve_left hkf)
      clear hX hkf f1 f2 f3 f4
      go_enter Tryz.func39, Tryz.ntmps39
      go_wp2_with (first | (first | (go_at_call 76; (with_reducible refine (n0 _ (H.out.ext (by with_reducible repeat (first | exact Ext.refl _ | apply Ext.drew | apply Ext.alloc | apply Ext.more_)))).mono ?_); rintro e w' ⟨rfl, hb⟩; obtain ⟨osa, da, rfl⟩ := hb.more; clear hb) | (go_at_call 76; (with_reducible refine (n1 _ (H.out.ext (by with_reducible repeat (first | exact Ext.refl _ | apply Ext.drew | apply Ext.alloc | apply Ext.more_)))).mono ?_); rintro e w' ⟨rfl, hb⟩; obtain ⟨osb, db, rfl⟩ := hb.more; clear hb) | (go_at_call 35; (with_reducible refine (rwhole_one _).mono ?_); rintro e w' ⟨rfl, hb⟩; obtain ⟨osc, dc, rfl⟩ := hb.more; clear hb)) | (go_at_call 20; (with_reducible refine (rbad_res _ HF.out _).mono ?_); rintro e w' ⟨D, m, cc, rfl, hD, hb⟩; obtain ⟨os5, d5, rfl⟩ := hb.more; clear hb; have hDr := hD.rd))
      exact bodyPost_ret (v := AV (aloneO kf).R (aloneO kf).C (.slice D m cc)) (by simp [results, Tryz.results39, go_sem]) rfl ⟨D, m, cc, rfl, ⟨(by (try simp only [more_alloc, more_more] at hDr); (try simp only [more_alloc, more_more]); (try simp only [drew_more] at hDr); (try simp only [more_drew] at hDr); (try simp only [Array.append_assoc] at hDr); (try simp only [Array.append_assoc]); exact Rd.swap hDr (by first | (simp; done) | (simp; omega) | omega) (by first | (simp; done) | (simp; omega) | omega) (by first | (simp; done) | (simp; omega) | omega)), hD.len, hD.cap, hD.small, hD.ok⟩, by with_reducible repeat (first | exact Ext.refl _ | apply Ext.drew | apply Ext.alloc | apply Ext.more_)⟩
  · have hX : seqT (mi, mf) (ki, kf) (tnO xs 2) (tnO xs 3) = aloneO mf := by unfold seqT; rw [if_pos hmf]
    rw [hX]
    have hf' : (mf != 0) = true := by simpa using hmf
    have HF := Lib.hid (f1.resolve_left hmf)
    clear hX hmf f1 f2 f3 f4
    go_enter Tryz.func39, Tryz.ntmps39
    go_wp2_with (first | (first | (go_at_call 76; (with_reducible refine (n0 _ (H.out.ext (by with_reducible repeat (first | exact Ext.refl _ | apply Ext.drew | apply Ext.alloc | apply Ext.more_)))).mono ?_); rintro e w' ⟨rfl, hb⟩; obtain ⟨osa, da, rfl⟩ := hb.more; clear hb) | (go_at_call 76; (with_reducible refine (n1 _ (H.out.ext (by with_reducible repeat (first | exact Ext.refl _ | apply Ext.drew | apply Ext.alloc | apply Ext.more_)))).mono ?_); rintro e w' ⟨rfl, hb⟩; obtain ⟨osb, db, rfl⟩ := hb.more; clear hb) | (go_at_call 35; (with_reducible refine (rwhole_one _).mono ?_); rintro e w' ⟨rfl, hb⟩; obtain ⟨osc, dc, rfl⟩ := hb.more; clear hb)) | (go_at_call 20; (with_reducible refine (rbad_res _ HF.out _).mono ?_); rintro e w' ⟨D, m, cc, rfl, hD, hb⟩; obtain ⟨os5, d5, rfl⟩ := hb.more; clear hb; have hDr := hD.rd))
    exact bodyPost_ret (v := AV (aloneO mf).R (aloneO mf).C (.slice D m cc)) (by simp [results, Tryz.results39, go_sem]) rfl ⟨D, m, cc, rfl, ⟨(by (try simp only [more_alloc, more_more] at hDr); (try simp only [more_alloc, more_more]); (try simp only [drew_more] at hDr); (try simp only [more_drew] at hDr); (try simp only [Array.append_assoc] at hDr); (try simp only [Array.append_assoc]); exact Rd.swap hDr (by first | (simp; done) | (simp; omega) | omega) (by first | (simp; done) | (simp; omega) | omega) (by first | (simp; done) | (simp; omega) | omega)), hD.len, hD.cap, hD.small, hD.ok⟩, by with_reducible repeat (first | exact Ext.refl _ | apply Ext.drew | apply Ext.alloc | apply Ext.more_)⟩
end Go.Proofs.YtlfbdodokldkhaaGreatDoor
namespace Go.Proofs.YtlfbdodokldkhaaGreatDoor
open Go.RowKit NM
set_option maxHeartbeats 4000000 in
theorem rcall_sequence (A : Option Addr) (n cap : Nat) (xs : List Ar) (w : World) (h : ArgsIn w A n cap xs) (h1 : 1 ≤ n) (h2 : n ≤ 4) : Calls Tryz.prog 24 #[.string ⟨#[83, 69, 81, 85, 69, 78, 67, 69]⟩, .slice A n cap] w (CallI w (sequenceO xs)) := by
  have hsm := h.small
  have hcap := h.cap
  have q1 : ¬ n < 1 := by omega
  have q2 : ¬ 4 < n := by omega
  have hst := fun W (hW : ArgsIn W A n cap xs) => rseq_any A n cap xs W hW
  obtain ⟨R0, C0, l0, b1, off1, n1, cap1, b, off, x0, _, rfl, ⟨v0, v1, v2⟩, _, _, _, _, _, hbl, _, _, _, _, _⟩ := h.first (k := 0) (by omega)
  simp only [Nat.zero_mul, Nat.add_zero] at v0 v1 v2
  have H := Lib.hid h
  clear h
  generalize (sequenceO xs) = X at *
  go_enter Tryz.func24, Tryz.ntmps24
  go_wp2_with (go_at_call 32; (with_reducible refine (rcount_sequence _).mono ?_); rintro e w' ⟨rfl, hb⟩; obtain ⟨os1, d1, rfl⟩ := hb.more; clear hb)
  go_loopw [8] (fun i wr => ∃ k : Nat, k ≤ n ∧ i = .int .i64 k ∧ Ext (more (w.alloc (Obj.cells #[.int .i64 0, .int .i64 0, .slice none 0 0] 30)) os1 d1) wr) (fun i _ => n - (intOf i).toNat)
  case atStart => exact ⟨0, Nat.zero_le _, rfl, Ext.refl _⟩
  case round =>
    obtain ⟨k, hk, rfl, hX⟩ := hrel
    obtain ⟨os, d, rfl⟩ := hX.more
    clear hX
    by_cases hlt : k < n
    · obtain ⟨a, b', off', ha, hbo, ⟨u0, u1, u2⟩, hok⟩ := H.out.at hlt
      simp only [Option.some.injEq, Addr.mk.injEq, and_true] at hbo
      obtain ⟨rfl, rfl⟩ := hbo
      have hra := fun W (hW : ArrIn W a.A a.n a.cap a.x.l) => refRightA_any a.x.R a.x.C a.A a.n a.cap a.x.l W hW
      rw [← rightA_eq _ _ _ hok.arr.ok, show rightA (a.x.R : Int) a.x.C a.x.l = true from hok.right] at hra
      have HOK := Lib.hid hok.arr
      clear hok hst
      go_wp2_with (go_at_call 14; refine (hra _ (HOK.out.ext (by repeat (first | (with_reducible (first | exact Ext.refl _ | exact ext_app3 _ _ _ _ _ _ _ | exact ext_app4 _ _ _ _ _ _ _ _ | exact ext_app _ _ _ _ _ | exact ext_app2 _ _ _ _ _ _)) | ((with_reducible refine ext_suffix ⟨_, ?_⟩); (try simp only [Array.append_assoc]); rfl) | (with_reducible (first | apply Ext.drew | apply Ext.alloc | apply Ext.more_)))))).mono ?_; rintro e w' ⟨rfl, hb⟩; obtain ⟨os', d', rfl⟩ := hb.more; clear hb)
      exact ⟨⟨k + 1, by omega, by go_num, by repeat (first | (with_reducible (first | exact Ext.refl _ | exact ext_app3 _ _ _ _ _ _ _ | exact ext_app4 _ _ _ _ _ _ _ _ | exact ext_app _ _ _ _ _ | exact ext_app2 _ _ _ _ _ _)) | ((with_reducible refine ext_suffix ⟨_, ?_⟩); (try simp only [Array.append_assoc]); rfl) | (with_reducible (first | apply Ext.drew | apply Ext.alloc | apply Ext.more_)))⟩, by simp [intOf]; omega⟩
    · go_wp2_with (go_at_call 39; (with_reducible refine (hst _ (H.out.ext (by repeat (first | (with_reducible (first | exact Ext.refl _ | exact ext_app3 _ _ _ _ _ _ _ | exact ext_app4 _ _ _ _ _ _ _ _ | exact ext_app _ _ _ _ _ | exact ext_app2 _ _ _ _ _ _)) | ((with_reducible refine ext_suffix ⟨_, ?_⟩); (try simp only [Array.append_assoc]); rfl) | (with_reducible (first | apply Ext.drew | apply Ext.alloc | apply Ext.more_)))))).mono ?_); rintro e w' ⟨D, m, cc, rfl, hD, hb⟩; have hNl := hD.len; have hNc := hD.cap; have hNs := hD.small; have hNo := hD.ok; have hDr := hD.rd; clear hD; obtain ⟨os5, d5, rfl⟩ := hb.more; clear hb)
      exact bodyPost_ret (v := .tuple #[AV X.R X.C (.slice D m cc), .bool true]) (by simp [results, Tryz.results24, go_sem]) rfl ⟨D, m, cc, rfl, ArrN.arr (base := w.heap.size) ⟨(by (try simp only [more_alloc, more_more] at hDr); (try simp only [more_alloc, more_more]); (try simp only [drew_more] at hDr); (try simp only [more_drew] at hDr); (try simp only [Array.append_assoc] at hDr); (try simp only [Array.append_assoc]); exact Rd.swap hDr (by first | (simp; done) | (simp; omega) | omega) (by first | (simp; done) | (simp; omega) | omega) (by first | (simp; done) | (simp; omega) | omega)), hNl, hNc, hNs, hNo⟩, by repeat (first | (with_reducible (first | exact Ext.refl _ | exact ext_app3 _ _ _ _ _ _ _ | exact ext_app4 _ _ _ _ _ _ _ _ | exact ext_app _ _ _ _ _ | exact ext_app2 _ _ _ _ _ _)) | ((with_reducible refine ext_suffix ⟨_, ?_⟩); (try simp only [Array.append_assoc]); rfl) | (with_reducible (first | apply Ext.drew | apply Ext.alloc | apply Ext.more_)))⟩
end Go.Proofs.YtlfbdodokldkhaaGreatDoor
namespace Go.Proofs.YtlfbdodokldkhaaGreatDoor
open Go.RowKit NM
theorem seq_call (A : Option Addr) (n cap : Nat) (gs : List GA) (w : World) (htab : Tab w) (h : ArgsG w A n cap gs) : Calls Tryz.prog 13 #[.string ⟨#[83, 69, 81, 85, 69, 78, 67, 69]⟩, .slice A n cap] w fun e w' => e = .returned (.bool true) ∧ Ext w w' :=
  call15_any ⟨#[83, 69, 81, 85, 69, 78, 67, 69]⟩ A n cap w (callX 1 4 gs (sequenceO (arsOf gs))) (fun W hW => pcall_sequence A n cap gs W (htab.ext hW) (h.ext hW)) (fun W hW => rcall_x _ 1 4 (by decide) (by decide) (by decide) (fun W' => rcount_sequence W') _ A n cap gs W (h.ext hW) (fun hi h1 h2 => rcall_sequence A n cap _ W hi h1 h2))
set_option maxHeartbeats 4000000 in
theorem farraySequence_any (A : Option Addr) (n cap : Nat) (gs : List GA) (w : World) (htab : Tab w) (h : ArgsG w A n cap gs) :
    Calls Tryz.prog 5 #[.slice A n cap] w fun e w' => e = .returned (.bool true) ∧ Ext w w' := by
  have HT := Lib.hid htab
  have H := Lib.hid h
  clear htab h
  go_enter Tryz.func5, Tryz.ntmps5
  go_wp2_with (first | (go_at_call 11; (with_reducible refine (awake15_any _ (HT.out.ext (by with_reducible repeat (first | exact Ext.refl _ | apply Ext.drew | apply Ext.alloc | apply Ext.more_)))).mono ?_); rintro e w' ⟨rfl, hb⟩; obtain ⟨osw, dw, rfl⟩ := hb.more; clear hb) | (go_at_call 12; (with_reducible refine (small15_any _ _ _ _ _ (H.out.ext (by with_reducible repeat (first | exact Ext.refl _ | apply Ext.drew | apply Ext.alloc | apply Ext.more_)))).mono ?_); rintro e w' ⟨s, rfl, hs, hb⟩; obtain ⟨oss, ds, rfl⟩ := hb.more; clear hb; rcases hs with rfl | rfl) | (go_at_call 13; (with_reducible refine (seq_call _ _ _ _ _ (HT.out.ext (by with_reducible repeat (first | exact Ext.refl _ | apply Ext.drew | apply Ext.alloc | apply Ext.more_))) (H.out.ext (by with_reducible repeat (first | exact Ext.refl _ | apply Ext.drew | apply Ext.alloc | apply Ext.more_)))).mono ?_); rintro e w' ⟨rfl, hb⟩; obtain ⟨os1, d1, rfl⟩ := hb.more; clear hb))
  all_goals
    go_ret
    exact ⟨rfl, by with_reducible repeat (first | exact Ext.refl _ | apply Ext.drew | apply Ext.alloc | apply Ext.more_)⟩
end Go.Proofs.YtlfbdodokldkhaaGreatDoor
namespace Go.Proofs.YtlfbdodokldkhaaGreatDoor
open Go.RowKit NM
theorem maskF_append : ∀ (l l' : List Val), maskF (l ++ l') = if maskF l ≠ 0 then maskF l else maskF l'
  | [], l' => by simp [maskF]
  | v :: l, l' => by
    show (if (truthO v).2 ≠ 0 then (truthO v).2 else maskF (l ++ l')) = if (if (truthO v).2 ≠ 0 then (truthO v).2 else maskF l) ≠ 0 then (if (truthO v).2 ≠ 0 then (truthO v).2 else maskF l) else maskF l'
    by_cases h : (truthO v).2 ≠ 0
    · rw [if_pos h, if_pos h, if_pos h]
    · rw [if_neg h, if_neg h, maskF_append l l']
theorem maskP_append : ∀ (l l' : List Val) (k : Nat), maskP (l ++ l') k = maskP l k ++ maskP l' (k + l.length)
  | [], l', k => by simp [maskP]
  | v :: l, l', k => by
    show (if (truthO v).1 then k :: maskP (l ++ l') (k + 1) else maskP (l ++ l') (k + 1)) = (if (truthO v).1 then k :: maskP l (k + 1) else maskP l (k + 1)) ++ maskP l' (k + (l.length + 1))
    rw [maskP_append l l' (k + 1), show k + 1 + l.length = k + (l.length + 1) by omega]
    split
    · rfl
    · rfl
theorem mask_step {l : List Val} {k : Nat} {v : Val} (hv : l[k]? = some v) : maskF (l.take (k + 1)) = (if maskF (l.take k) ≠ 0 then maskF (l.take k) else (truthO v).2) ∧ maskP (l.take (k + 1)) 0 = maskP (l.take k) 0 ++ (if (truthO v).1 then [k] else []) := by
  have hk := (List.getElem?_eq_some_iff.1 hv).1
  have e : l.take (k + 1) = l.take k ++ [v] := by rw [List.take_add_one, hv]; rfl
  have hl : (l.take k).length = k := by rw [List.length_take]; omega
  rw [e, maskF_append, maskP_append, hl, Nat.zero_add]
  constructor
  · congr 1
    show (if (truthO v).2 ≠ 0 then (truthO v).2 else 0) = _
    split
    · rfl
    · rename_i h; have : (truthO v).2 = 0 := by simpa using h
      exact this.symm
  · congr 1
theorem maskF_first {l : List Val} {k : Nat} {v : Val} (hv : l[k]? = some v) (h0 : maskF (l.take k) = 0) (h1 : (truthO v).2 ≠ 0) : maskF l = (truthO v).2 := by
  have h2 := (mask_step hv).1
  rw [h0, if_neg (by simp)] at h2
  conv => lhs; rw [← List.take_append_drop (k + 1) l]
  rw [maskF_append, h2, if_pos h1]
theorem maskP_lt : ∀ {l : List Val} {k i : Nat}, i ∈ maskP l k → k ≤ i ∧ i < k + l.length
  | [], k, i, h => by simp [maskP] at h
  | v :: l, k, i, h => by
    have h' : i ∈ (if (truthO v).1 then k :: maskP l (k + 1) else maskP l (k + 1)) := h
    rw [List.length_cons]
    split at h'
    · rcases List.mem_cons.1 h' with rfl | h'
      · omega
      · have := maskP_lt h'; omega
    · have := maskP_lt h'; omega
theorem maskP_length : ∀ (l : List Val) (k : Nat), (maskP l k).length ≤ l.length
  | [], k => Nat.le_refl _
  | v :: l, k => by
    show (if (truthO v).1 then k :: maskP l (k + 1) else maskP l (k + 1)).length ≤ l.length + 1
    have := maskP_length l (k + 1)
    split
    · rw [List.length_cons]; omega
    · omega
/-- A truth's fault is one of the nine. -/
theorem truthO_bd {x : Val} (h : x.right) : (truthO x).2 = 0 ∨ (1 ≤ (truthO x).2 ∧ (truthO x).2 ≤ 9) := by
  rcases h.form with rfl | ⟨m, e, rfl, hr⟩ | ⟨t, rfl, ht⟩ | ⟨b, rfl⟩ | ⟨f, rfl, hf⟩
  · left; rfl
  · left; rfl
  · rw [show truthO ⟨2, 0, 0, t, false, 0⟩ = if (foldB t).toList == [84, 82, 85, 69] then (true, (0 : Int)) else if (foldB t).toList == [70, 65, 76, 83, 69] then (false, 0) else (false, 2) from rfl]
    split
    · left; rfl
    · split
      · left; rfl
      · right; show (1 : Int) ≤ 2 ∧ (2 : Int) ≤ 9; omega
  · left; rfl
  · right; exact hf
theorem filterT_bad {a b c : NA} {g br : Bool} (h1 : (decide (b.C = 1) && decide (b.R = a.R)) = br) (h2 : (!br && (decide (b.R ≠ 1) || decide (b.C ≠ a.C))) = true) : filterT a b c g = aloneO 2 := by
  unfold filterT
  rw [if_pos]
  subst h1
  simp only [Bool.and_eq_true, Bool.not_eq_true', Bool.or_eq_true, decide_eq_true_eq, Bool.and_eq_false_iff, decide_eq_false_iff_not] at h2
  refine ⟨fun e => ?_, h2.2⟩
  rcases h2.1 with h | h
  · exact h e.1
  · exact h e.2
theorem filterT_ok {a b c : NA} {g br : Bool} (h1 : (decide (b.C = 1) && decide (b.R = a.R)) = br) (h2 : (!br && (decide (b.R ≠ 1) || decide (b.C ≠ a.C))) = false) :
    filterT a b c g = if maskF b.l ≠ 0 then aloneO (maskF b.l) else if maskP b.l 0 = [] then (if g then c else aloneO 9) else if br = true then rowsN a (maskP b.l 0) else colsN a (maskP b.l 0) := by
  have e3 : (br = true) = (b.C = 1 ∧ b.R = a.R) := by rw [← h1]; simp
  unfold filterT
  rw [if_neg]
  · simp only [e3]
  · rintro ⟨e1, e2⟩
    rw [← e3] at e1
    have e1 : br = false := by simpa using e1
    rw [e1] at h2
    rcases e2 with e2 | e2 <;> simp [e2] at h2
end Go.Proofs.YtlfbdodokldkhaaGreatDoor
namespace Go.Proofs.YtlfbdodokldkhaaGreatDoor
open Go.RowKit NM
/-- As many values as places. -/
def PlOkE (l : List Val) (h : Nat) : Prop := l.length = h
set_option maxHeartbeats 8000000 in
theorem gfilter_any (A : Option Addr) (n cap : Nat) (xs : List Ar) (w : World) (h : ArgsIn w A n cap xs) (h2 : 2 ≤ n) :
    Calls Tryz.prog 49 #[.slice A n cap] w fun e w' => ResA w (filterO xs) e w' := by
  obtain ⟨R, C, l, b1, off1, n1, cap1, b, off, x0, ha, rfl, ⟨v0, v1, v2⟩, _, hc1, _, _, _, hbl, _, _, _, harr, _⟩ := h.first (k := 0) (by omega)
  obtain ⟨R2, C2, l2, b2, off2, n2, cap2, b', off', x2, ha2, hbo, ⟨u0, u1, u2⟩, hn2, hc2, _, _, _, _, hb2, _, _, harr2, _⟩ := h.first (k := 1) (by omega)
  simp only [Option.some.injEq, Addr.mk.injEq, and_true] at hbo
  obtain ⟨rfl, rfl⟩ := hbo
  have hxr : NA.right ⟨R, C, l⟩ := (h.all _ (List.mem_of_getElem? ha)).right
  have hxr2 : NA.right ⟨R2, C2, l2⟩ := (h.all _ (List.mem_of_getElem? ha2)).right
  have hcap := h.cap
  have hsm := h.small
  simp only [Nat.zero_mul, Nat.add_zero, Nat.one_mul] at v0 v1 v2 u0 u1 u2
  have hx0 : argN xs 0 = ⟨R, C, l⟩ := by unfold argN; rw [ha]
  have hx1 : argN xs 1 = ⟨R2, C2, l2⟩ := by unfold argN; rw [ha2]
  obtain ⟨r1, r2, r3, r4, r5⟩ := rightA_nat.1 hxr
  obtain ⟨s1, s2, s3, s4, s5⟩ := rightA_nat.1 hxr2
  simp only at r1 r2 r3 r4 s1 s2 s3 s4 s5
  have hln2 := harr2.len
  have hn24 : n2 ≤ 4096 := by omega
  unfold filterO
  rw [hx0, hx1]
  have gv := fun W (hW : ArgsIn W (some ⟨b, off, none⟩) n cap xs) => given_any _ n cap xs 2 W hW _ rfl
  have H := Lib.hid h
  have HA := Lib.hid harr
  have HA2 := Lib.hid harr2
  obtain ⟨g, hg⟩ : ∃ g, givenB xs 2 = g := ⟨_, rfl⟩
  rw [hg]
  have HG := Lib.hid hg
  rw [hg] at gv
  simp only [show ((2 : Nat) : Int) = 2 from rfl] at gv
  obtain ⟨X, hX⟩ : ∃ X, filterT ⟨R, C, l⟩ ⟨R2, C2, l2⟩ (argN xs 2) g = X := ⟨_, rfl⟩
  rw [hX]
  have HX := Lib.hid hX
  clear h harr harr2 ha ha2 hx0 hx1 hX r4 hg
  go_enter Tryz.func49, Tryz.ntmps49
  go_upto_region 1 with fail
  go_cut [3, 4] (fun s3 s4 wx => ∃ pa pb : Nat, s3 = .pointer (some ⟨pa, 0, none⟩) ∧ s4 = .pointer (some ⟨pb, 0, none⟩) ∧ Ext w wx ∧ w.heap.size + 3 ≤ wx.heap.size ∧ wx.cell? ⟨pa, 0, none⟩ = some (.int .i64 (R : Int)) ∧ wx.cell? ⟨pa, 1, none⟩ = some (.int .i64 (C : Int)) ∧ wx.cell? ⟨pa, 2, none⟩ = some (.slice (some ⟨b1, off1, none⟩) n1 cap1) ∧ wx.cell? ⟨pb, 0, none⟩ = some (.int .i64 (R2 : Int)) ∧ wx.cell? ⟨pb, 1, none⟩ = some (.int .i64 (C2 : Int)) ∧ wx.cell? ⟨pb, 2, none⟩ = some (.slice (some ⟨b2, off2, none⟩) n2 cap2) ∧ Hid (∃ os d, wx = more (w.alloc (Obj.cells #[.int .i64 0, .int .i64 0, .slice none 0 0] 30)) os d))
  case first =>
    go_region
    · go_wp2_with fail
      go_meet
      refine ⟨_, _, rfl, rfl, by with_reducible repeat (first | exact Ext.refl _ | apply Ext.drew | apply Ext.alloc | apply Ext.more_), by simp, ?_, ?_, ?_, ?_, ?_, ?_, (show Ext (w.alloc (Obj.cells #[.int .i64 0, .int .i64 0, .slice none 0 0] 30)) _ from (by with_reducible repeat (first | exact Ext.refl _ | apply Ext.drew | apply Ext.alloc | apply Ext.more_))).more⟩
      all_goals (simp [go_sem]; done)
    · go_wp2_with fail
      go_meet
      refine ⟨_, _, rfl, rfl, by with_reducible repeat (first | exact Ext.refl _ | apply Ext.drew | apply Ext.alloc | apply Ext.more_), by simp, ?_, ?_, ?_, ?_, ?_, ?_, (show Ext (w.alloc (Obj.cells #[.int .i64 0, .int .i64 0, .slice none 0 0] 30)) _ from (by with_reducible repeat (first | exact Ext.refl _ | apply Ext.drew | apply Ext.alloc | apply Ext.more_))).more⟩
      all_goals (simp [go_sem]; done)
  case rest =>
  obtain ⟨pa, pb, rfl, rfl, hx, hsz, c0, c1, c2, e0, e1, e2, HU⟩ := hcut
  have la := lt_of_cell c0
  have lb := lt_of_cell e0
  replace v0 := hx.cell_some v0
  clear v0 v1 v2 u0 u1 u2
  obtain ⟨br, hbr⟩ : ∃ br, (decide (C2 = 1) && decide (R2 = R)) = br := ⟨_, rfl⟩
  have HBR := Lib.hid hbr
  go_upto_region 2 with fail
  go_cut [5] (fun s5 wx => s5 = .bool br ∧ wx = wc)
  case first =>
    by_cases q1 : C2 = 1
    · have q1' : ((C2 : Int) == 1) = true := by simp; omega
      by_cases q2 : R2 = R
      · have q2' : ((R2 : Int) == (R : Int)) = true := by simp; omega
        obtain rfl : true = br := by rw [← hbr]; simp [q1, q2]
        clear hbr q1 q2
        go_wp2_with fail
        go_meet
        exact ⟨rfl, rfl⟩
      · have q2' : ((R2 : Int) == (R : Int)) = false := by simp; omega
        obtain rfl : false = br := by rw [← hbr]; simp [q2]
        clear hbr q1 q2
        go_wp2_with fail
        go_meet
        exact ⟨rfl, rfl⟩
    · have q1' : ((C2 : Int) == 1) = false := by simp; omega
      obtain rfl : false = br := by rw [← hbr]; simp [q1]
      clear hbr q1
      go_wp2_with fail
      go_meet
      exact ⟨rfl, rfl⟩
  case rest =>
  obtain ⟨rfl, rfl⟩ := hcut
  clear hbr
  obtain ⟨bad, hbad⟩ : ∃ bad, (!br && (decide (R2 ≠ 1) || decide (C2 ≠ C))) = bad := ⟨_, rfl⟩
  have HBAD := Lib.hid hbad
  go_upto_region 3 with fail
  go_cut [40] (fun s40 wx => s40 = .bool bad ∧ wx = wc)
  case first =>
    cases br with
    | true =>
      obtain rfl : false = bad := by rw [← hbad]; simp
      clear hbad
      go_wp2_with fail
      go_meet
      exact ⟨rfl, rfl⟩
    | false =>
      by_cases q1 : R2 = 1
      · have q1' : ((R2 : Int) != 1) = false := by simp; omega
        by_cases q2 : C2 = C
        · have q2' : ((C2 : Int) != (C : Int)) = false := by simp; omega
          obtain rfl : false = bad := by rw [← hbad]; simp [q1, q2]
          clear hbad q1 q2
          go_wp2_with fail
          go_meet
          exact ⟨rfl, rfl⟩
        · have q2' : ((C2 : Int) != (C : Int)) = true := by simp; omega
          obtain rfl : true = bad := by rw [← hbad]; simp [q2]
          clear hbad q1 q2
          go_wp2_with fail
          go_meet
          exact ⟨rfl, rfl⟩
      · have q1' : ((R2 : Int) != 1) = true := by simp; omega
        obtain rfl : true = bad := by rw [← hbad]; simp [q1]
        clear hbad q1
        go_wp2_with fail
        go_meet
        exact ⟨rfl, rfl⟩
  case rest =>
  obtain ⟨rfl, rfl⟩ := hcut
  clear hbad
  cases bad with
  | true =>
    obtain rfl : aloneO 2 = X := by rw [← HX.out]; exact (filterT_bad (a := ⟨R, C, l⟩) (b := ⟨R2, C2, l2⟩) HBR.out HBAD.out).symm
    go_wp2_with ((go_at_call 27; (with_reducible refine (galone_any _ _).mono ?_); rintro e w' ⟨D, m, cc, rfl, hD, hb⟩; obtain ⟨os5, d5, rfl⟩ := hb.more; clear hb; have hDr := hD.rd); obtain ⟨osu, du, rfl⟩ := HU.out)
    exact bodyPost_ret (v := AV (aloneO 2).R (aloneO 2).C (.slice D m cc)) (by simp [results, Tryz.results49, go_sem]) rfl ⟨D, m, cc, rfl, ⟨(by (try simp only [more_alloc, more_more] at hDr); (try simp only [more_alloc, more_more]); (try simp only [drew_more] at hDr); (try simp only [more_drew] at hDr); (try simp only [Array.append_assoc] at hDr); (try simp only [Array.append_assoc]); exact Rd.swap hDr (by first | (simp; done) | (simp; omega) | omega) (by first | (simp; done) | (simp; omega) | omega) (by first | (simp; done) | (simp; omega) | omega)), hD.len, hD.cap, hD.small, hD.ok⟩, by with_reducible repeat (first | exact Ext.refl _ | apply Ext.drew | apply Ext.alloc | apply Ext.more_)⟩
  | false =>
  have HX2 : Hid ((if maskF l2 ≠ 0 then aloneO (maskF l2) else if maskP l2 0 = [] then (if g then argN xs 2 else aloneO 9) else if br = true then rowsN ⟨R, C, l⟩ (maskP l2 0) else colsN ⟨R, C, l⟩ (maskP l2 0)) = X) := by
    show _ = _
    rw [← HX.out]; exact (filterT_ok (a := ⟨R, C, l⟩) (b := ⟨R2, C2, l2⟩) HBR.out HBAD.out).symm
  have hpl : (br = true → PlOkE l2 R) ∧ (br = false → PlOkE l2 C) := by
    have e1 := HBR.out
    have e2 := HBAD.out
    constructor
    · intro hb
      rw [hb] at e1
      simp only [Bool.and_eq_true, decide_eq_true_eq] at e1
      unfold PlOkE
      rw [s4, e1.1, e1.2, Nat.mul_one]
    · intro hb
      rw [hb] at e2
      simp only [Bool.not_false, Bool.true_and, Bool.or_eq_false_iff, decide_eq_false_iff_not, ne_eq, Decidable.not_not] at e2
      unfold PlOkE
      rw [s4, e2.1, e2.2, Nat.one_mul]
  have HPL := Lib.hid hpl
  clear HX HBR HBAD hpl
  obtain ⟨i0, hi0, hz0, hz1, hz2⟩ := info_parts info_int_
  go_wp2_with fail
  go_loopw [6, 45] (fun v i wr => ∃ (k : Nat) (ps : List Nat), k ≤ n2 ∧ i = .int .i64 (k : Int) ∧ ps.length ≤ k ∧ Hid (maskF (l2.take k) = 0) ∧ Hid (ps = maskP (l2.take k) 0) ∧ Hid (wr.ownsRow wc.heap.size 3 1 v ps.length (i6 ps)) ∧ Ext wc wr) (fun _ i _ => n2 - (intOf i).toNat)
  case atStart => exact ⟨0, [], Nat.zero_le _, rfl, Nat.le_refl _, rfl, rfl, World.ownsRow_nil _ _ _ _, Ext.refl _⟩
  case round =>
    obtain ⟨k, ps, hk, rfl, hpk, HF, HP, HO, hxr⟩ := hrel
    have hsr := hxr.size
    have hxr0 := hxr
    obtain ⟨os, d, rfl⟩ := hxr.more
    clear hxr
    by_cases hlt : k < n2
    · have hlt' : (k : Int) < (n2 : Int) := by omega
      obtain ⟨x, bq, oq, hxk, hxo, hbq, hat⟩ := HA2.out.at hlt
      simp only [Option.some.injEq, Addr.mk.injEq, and_true] at hbq
      obtain ⟨rfl, rfl⟩ := hbq
      obtain ⟨y0, y1, y2, y3, y4, y5⟩ := hat.ext hx
      have hb2' := lt_of_cell y0
      have hxR : x.right := s5 x (List.mem_of_getElem? hxk)
      have ht := fun W => toTruth_any x W hxR
      obtain ⟨m1, m2⟩ := mask_step hxk
      rw [HF.out, if_neg (by simp)] at m1
      rw [← HP.out] at m2
      have hmf0 := maskF_first hxk HF.out
      obtain ⟨⟨tb, tf⟩, hxt⟩ : ∃ p, truthO x = p := ⟨_, rfl⟩
      rw [hxt] at m1 m2 ht hmf0
      simp only at m1 m2 hmf0
      clear hxt
      by_cases hf : tf = 0
      · have M1 := Lib.hid (m1.trans hf)
        cases hb : tb with
        | true =>
          rw [hb, if_pos rfl] at m2
          have M2 := Lib.hid m2
          have ht2 : ∀ W, Calls Tryz.prog 97 #[VV x.kind x.mant x.exp x.text x.truth x.fault] W fun e w' => e = .returned (.tuple #[.bool true, .int .i64 0]) ∧ Ext W w' := fun W => by have := ht W; unfold bfV at this; rw [hb, hf] at this; exact this
          clear ht m1 m2 hf hb hxk hxo hat HX2 HPL hmf0
          go_wp2_with (first | (go_at_call 97; (with_reducible refine (ht2 _).mono ?_); rintro e w' ⟨rfl, hb⟩; obtain ⟨ost, dt, rfl⟩ := hb.more; clear hb) | (at_builtin; refine wpList_append_own _ rfl _ _ _ rfl wc.heap.size 3 i0 (.int .i64 0) 1 8 Tryz.underlying77 hi0 hz0 hz1 hz2 rfl (by decide) _ ps.length (i6 ps) rfl (own_ext HO.out (by with_reducible repeat (first | exact Ext.refl _ | exact ext_d _ _ _ _ | exact ext_app _ _ _ _ _ | exact ext_app2 _ _ _ _ _ _ | exact ext_app3 _ _ _ _ _ _ _ | apply Ext.drew | apply Ext.alloc | apply Ext.more_))) _ 1 1 [.int .i64 k] rfl rfl (Rd.one_ _ _ (by first | rfl | (simp; done))).add (one_i6 [k]) (by simp [maxLen]; omega) (by omega) (by simp; omega) ?_; intro v4 w4 ho4 hg4 _))
          have hx4 := ext_grown (X := wc) (by with_reducible repeat (first | exact Ext.refl _ | apply Ext.drew | apply Ext.alloc | apply Ext.more_)) (own_ext HO.out (by with_reducible repeat (first | exact Ext.refl _ | exact ext_d _ _ _ _ | exact ext_app _ _ _ _ _ | exact ext_app2 _ _ _ _ _ _ | exact ext_app3 _ _ _ _ _ _ _ | apply Ext.drew | apply Ext.alloc | apply Ext.more_))) hg4
          refine ⟨⟨k + 1, ps ++ [k], by omega, by go_num, by simp; omega, M1, Lib.hid M2.out.symm, ?_, hx4⟩, by simp [intOf]; omega⟩
          show World.ownsRow _ _ _ _ _ _ _
          unfold i6; rw [List.map_append, List.length_append]
          exact ho4
        | false =>
          rw [hb, if_neg (by simp), List.append_nil] at m2
          have M2 := Lib.hid m2
          have ht2 : ∀ W, Calls Tryz.prog 97 #[VV x.kind x.mant x.exp x.text x.truth x.fault] W fun e w' => e = .returned (.tuple #[.bool false, .int .i64 0]) ∧ Ext W w' := fun W => by have := ht W; unfold bfV at this; rw [hb, hf] at this; exact this
          clear ht m1 m2 hf hb hxk hxo hat HX2 HPL hmf0
          go_wp2_with (go_at_call 97; (with_reducible refine (ht2 _).mono ?_); rintro e w' ⟨rfl, hb⟩; obtain ⟨ost, dt, rfl⟩ := hb.more; clear hb)
          exact ⟨⟨k + 1, ps, by omega, by go_num, by omega, M1, Lib.hid M2.out.symm, own_ext HO.out (by with_reducible repeat (first | exact Ext.refl _ | exact ext_d _ _ _ _ | exact ext_app _ _ _ _ _ | exact ext_app2 _ _ _ _ _ _ | exact ext_app3 _ _ _ _ _ _ _ | apply Ext.drew | apply Ext.alloc | apply Ext.more_)), by with_reducible repeat (first | exact Ext.refl _ | apply Ext.drew | apply Ext.alloc | apply Ext.more_)⟩, by simp [intOf]; omega⟩
      · have hmf : maskF l2 = tf := hmf0 hf
        obtain rfl : aloneO tf = X := by rw [← HX2.out, hmf, if_pos hf]
        have hf' : (tf != 0) = true := by simpa using hf
        clear m1 m2 hf hxk hxo hat HX2 HPL hmf hmf0
        go_wp2_with (first | (go_at_call 97; (with_reducible refine (ht _).mono ?_); rintro e w' ⟨rfl, hb⟩; obtain ⟨ost, dt, rfl⟩ := hb.more; clear hb) | ((go_at_call 27; (with_reducible refine (galone_any _ _).mono ?_); rintro e w' ⟨D, m, cc, rfl, hD, hb⟩; obtain ⟨os5, d5, rfl⟩ := hb.more; clear hb; have hDr := hD.rd); obtain ⟨osu, du, rfl⟩ := HU.out))
        exact bodyPost_ret (v := AV (aloneO tf).R (aloneO tf).C (.slice D m cc)) (by simp [results, Tryz.results49, go_sem]) rfl ⟨D, m, cc, rfl, ⟨(by (try simp only [more_alloc, more_more] at hDr); (try simp only [more_alloc, more_more]); (try simp only [drew_more] at hDr); (try simp only [more_drew] at hDr); (try simp only [Array.append_assoc] at hDr); (try simp only [Array.append_assoc]); exact Rd.swap hDr (by first | (simp; done) | (simp; omega) | omega) (by first | (simp; done) | (simp; omega) | omega) (by first | (simp; done) | (simp; omega) | omega)), hD.len, hD.cap, hD.small, hD.ok⟩, by with_reducible repeat (first | exact Ext.refl _ | apply Ext.drew | apply Ext.alloc | apply Ext.more_)⟩
    · obtain rfl : k = n2 := by omega
      have hT : l2.take k = l2 := List.take_of_length_le (by omega)
      have hF0 := HF.out
      have hP0 := HP.out
      rw [hT] at hF0 hP0
      have HX3 := HX2.out
      rw [hF0, if_neg (by simp), ← hP0] at HX3
      have HX3 := Lib.hid HX3
      clear HX2 HF hT hF0
      obtain ⟨B1, cb1, rfl, hB1, hcb1⟩ := Rd.of_own HO.out
      have HB1 := Lib.hid (Rd.mono hB1 (Nat.zero_le _))
      have HLT := Lib.hid (fun i (hi : i ∈ ps) => by rw [hP0] at hi; exact maskP_lt hi)
      have HLE := Lib.hid (show ps.length ≤ l2.length by rw [hP0]; exact maskP_length _ _)
      clear hB1 HO HP hP0
      by_cases hps : ps = []
      · have l0 : ((ps.length : Int) == 0) = true := by rw [hps]; rfl
        have HX4 := HX3.out
        rw [if_pos hps] at HX4
        cases g with
        | true =>
          have hlt3 := given_lt H.out HG.out
          obtain ⟨R3, C3, l3, b3, off3, n3, cap3, b', off', x3, ha3, hbo, ⟨t0, t1, t2⟩, _, hc3, _, _, _, _, hb3, _, _, harr3, _⟩ := H.out.first (k := 2) hlt3
          simp only [Option.some.injEq, Addr.mk.injEq, and_true] at hbo
          obtain ⟨rfl, rfl⟩ := hbo
          simp only at t0 t1 t2
          replace t0 := hx.cell_some t0
          replace t1 := hx.cell_some t1
          replace t2 := hx.cell_some t2
          have lt0 := lt_of_cell t0
          have hxr3 : NA.right ⟨R3, C3, l3⟩ := (H.out.all _ (List.mem_of_getElem? ha3)).right
          have hco := fun W (hW : ArrIn W (some ⟨b3, off3, none⟩) n3 cap3 l3) => copied_any ⟨R3, C3, l3⟩ _ n3 cap3 W hW hxr3
          obtain rfl : (⟨R3, C3, l3⟩ : NA) = X := by rw [← HX4, if_pos rfl]; unfold argN; rw [ha3]
          have HA3 := Lib.hid (harr3.ext hx)
          clear HX3 HX4 hps HLT HLE HPL ha3 harr3 hxr3
          go_wp2_with (first | (go_at_call 98; (with_reducible refine (gv _ (H.out.ext (Ext.trans hx (by with_reducible repeat (first | exact Ext.refl _ | exact ext_d _ _ _ _ | exact ext_app _ _ _ _ _ | exact ext_app2 _ _ _ _ _ _ | exact ext_app3 _ _ _ _ _ _ _ | apply Ext.drew | apply Ext.alloc | apply Ext.more_))))).mono ?_); rintro e w' ⟨rfl, hb⟩; obtain ⟨osg, dg, rfl⟩ := hb.more; clear hb) | ((go_at_call 99; (with_reducible refine (hco _ (HA3.out.ext (by with_reducible repeat (first | exact Ext.refl _ | exact ext_d _ _ _ _ | exact ext_app _ _ _ _ _ | exact ext_app2 _ _ _ _ _ _ | exact ext_app3 _ _ _ _ _ _ _ | apply Ext.drew | apply Ext.alloc | apply Ext.more_)))).mono ?_); rintro e w' ⟨D, m, cc, rfl, hD, hb⟩; obtain ⟨os5, d5, rfl⟩ := hb.more; clear hb; have hDr := hD.rd); obtain ⟨osu, du, rfl⟩ := HU.out))
          exact bodyPost_ret (v := AV R3 C3 (.slice D m cc)) (by simp [results, Tryz.results49, go_sem]) rfl ⟨D, m, cc, rfl, ⟨(by (try simp only [more_alloc, more_more] at hDr); (try simp only [more_alloc, more_more]); (try simp only [drew_more] at hDr); (try simp only [more_drew] at hDr); (try simp only [Array.append_assoc] at hDr); (try simp only [Array.append_assoc]); exact Rd.swap hDr (by first | (simp; done) | (simp; omega) | omega) (by first | (simp; done) | (simp; omega) | omega) (by first | (simp; done) | (simp; omega) | omega)), hD.len, hD.cap, hD.small, hD.ok⟩, by with_reducible repeat (first | exact Ext.refl _ | apply Ext.drew | apply Ext.alloc | apply Ext.more_)⟩
        | false =>
          obtain rfl : aloneO 9 = X := by rw [← HX4]; rfl
          clear HX3 HX4 hps HLT HLE HPL
          go_wp2_with (first | (go_at_call 98; (with_reducible refine (gv _ (H.out.ext (Ext.trans hx (by with_reducible repeat (first | exact Ext.refl _ | exact ext_d _ _ _ _ | exact ext_app _ _ _ _ _ | exact ext_app2 _ _ _ _ _ _ | exact ext_app3 _ _ _ _ _ _ _ | apply Ext.drew | apply Ext.alloc | apply Ext.more_))))).mono ?_); rintro e w' ⟨rfl, hb⟩; obtain ⟨osg, dg, rfl⟩ := hb.more; clear hb) | ((go_at_call 27; (with_reducible refine (galone_any _ _).mono ?_); rintro e w' ⟨D, m, cc, rfl, hD, hb⟩; obtain ⟨os5, d5, rfl⟩ := hb.more; clear hb; have hDr := hD.rd); obtain ⟨osu, du, rfl⟩ := HU.out))
          exact bodyPost_ret (v := AV (aloneO 9).R (aloneO 9).C (.slice D m cc)) (by simp [results, Tryz.results49, go_sem]) rfl ⟨D, m, cc, rfl, ⟨(by (try simp only [more_alloc, more_more] at hDr); (try simp only [more_alloc, more_more]); (try simp only [drew_more] at hDr); (try simp only [more_drew] at hDr); (try simp only [Array.append_assoc] at hDr); (try simp only [Array.append_assoc]); exact Rd.swap hDr (by first | (simp; done) | (simp; omega) | omega) (by first | (simp; done) | (simp; omega) | omega) (by first | (simp; done) | (simp; omega) | omega)), hD.len, hD.cap, hD.small, hD.ok⟩, by with_reducible repeat (first | exact Ext.refl _ | apply Ext.drew | apply Ext.alloc | apply Ext.more_)⟩
      · have hpos : 1 ≤ ps.length := by
          cases ps with
          | nil => exact absurd rfl hps
          | cons _ _ => simp
        have l0 : ((ps.length : Int) == 0) = false := by simp; omega
        have HX4 := HX3.out
        rw [if_neg hps] at HX4
        cases br with
        | true =>
          have hXe : rowsN ⟨R, C, l⟩ ps = X := by rw [← HX4]; rfl
          have hPl : PlOk ps R := ⟨hpos, by have h1 := HPL.out.1 rfl; unfold PlOkE at h1; have := HLE.out; omega, fun i hi => by have h1 := HPL.out.1 rfl; unfold PlOkE at h1; have := HLT.out i hi; omega⟩
          have hr1 := fun W (hW : ArrIn W (some ⟨b1, off1, none⟩) n1 cap1 l) hB => rowsOf_pl ⟨R, C, l⟩ _ n1 cap1 ps B1 cb1 W hW hxr hB hcb1 hPl
          rw [hXe] at hr1
          have HR1 := Lib.hid hr1
          clear hXe hr1 HX3 HX4 hps HLT HLE HPL hPl hpos
          go_wp2_with (first | ((go_at_call 96; (with_reducible refine (HR1.out _ ((HA.out.ext hx).ext (by with_reducible repeat (first | exact Ext.refl _ | exact ext_d _ _ _ _ | exact ext_app _ _ _ _ _ | exact ext_app2 _ _ _ _ _ _ | exact ext_app3 _ _ _ _ _ _ _ | apply Ext.drew | apply Ext.alloc | apply Ext.more_))) (HB1.out.ext (by with_reducible repeat (first | exact Ext.refl _ | exact ext_d _ _ _ _ | exact ext_app _ _ _ _ _ | exact ext_app2 _ _ _ _ _ _ | exact ext_app3 _ _ _ _ _ _ _ | apply Ext.drew | apply Ext.alloc | apply Ext.more_)))).mono ?_); rintro e w' ⟨D, m, cc, rfl, hD, hb⟩; obtain ⟨os5, d5, rfl⟩ := hb.more; clear hb; have hDr := hD.rd); obtain ⟨osu, du, rfl⟩ := HU.out))
          exact bodyPost_ret (v := AV X.R X.C (.slice D m cc)) (by simp [results, Tryz.results49, go_sem]) rfl ⟨D, m, cc, rfl, ⟨(by (try simp only [more_alloc, more_more] at hDr); (try simp only [more_alloc, more_more]); (try simp only [drew_more] at hDr); (try simp only [more_drew] at hDr); (try simp only [Array.append_assoc] at hDr); (try simp only [Array.append_assoc]); exact Rd.swap hDr (by first | (simp; done) | (simp; omega) | omega) (by first | (simp; done) | (simp; omega) | omega) (by first | (simp; done) | (simp; omega) | omega)), hD.len, hD.cap, hD.small, hD.ok⟩, by with_reducible repeat (first | exact Ext.refl _ | apply Ext.drew | apply Ext.alloc | apply Ext.more_)⟩
        | false =>
          have hXe : colsN ⟨R, C, l⟩ ps = X := by rw [← HX4]; rfl
          have hPl : PlOk ps C := ⟨hpos, by have h1 := HPL.out.2 rfl; unfold PlOkE at h1; have := HLE.out; omega, fun i hi => by have h1 := HPL.out.2 rfl; unfold PlOkE at h1; have := HLT.out i hi; omega⟩
          have hr1 := fun W (hW : ArrIn W (some ⟨b1, off1, none⟩) n1 cap1 l) hB => colsOf_pl ⟨R, C, l⟩ _ n1 cap1 ps B1 cb1 W hW hxr hB hcb1 hPl
          rw [hXe] at hr1
          have HR1 := Lib.hid hr1
          clear hXe hr1 HX3 HX4 hps HLT HLE HPL hPl hpos
          go_wp2_with (first | ((go_at_call 95; (with_reducible refine (HR1.out _ ((HA.out.ext hx).ext (by with_reducible repeat (first | exact Ext.refl _ | exact ext_d _ _ _ _ | exact ext_app _ _ _ _ _ | exact ext_app2 _ _ _ _ _ _ | exact ext_app3 _ _ _ _ _ _ _ | apply Ext.drew | apply Ext.alloc | apply Ext.more_))) (HB1.out.ext (by with_reducible repeat (first | exact Ext.refl _ | exact ext_d _ _ _ _ | exact ext_app _ _ _ _ _ | exact ext_app2 _ _ _ _ _ _ | exact ext_app3 _ _ _ _ _ _ _ | apply Ext.drew | apply Ext.alloc | apply Ext.more_)))).mono ?_); rintro e w' ⟨D, m, cc, rfl, hD, hb⟩; obtain ⟨os5, d5, rfl⟩ := hb.more; clear hb; have hDr := hD.rd); obtain ⟨osu, du, rfl⟩ := HU.out))
          exact bodyPost_ret (v := AV X.R X.C (.slice D m cc)) (by simp [results, Tryz.results49, go_sem]) rfl ⟨D, m, cc, rfl, ⟨(by (try simp only [more_alloc, more_more] at hDr); (try simp only [more_alloc, more_more]); (try simp only [drew_more] at hDr); (try simp only [more_drew] at hDr); (try simp only [Array.append_assoc] at hDr); (try simp only [Array.append_assoc]); exact Rd.swap hDr (by first | (simp; done) | (simp; omega) | omega) (by first | (simp; done) | (simp; omega) | omega) (by first | (simp; done) | (simp; omega) | omega)), hD.len, hD.cap, hD.small, hD.ok⟩, by with_reducible repeat (first | exact Ext.refl _ | apply Ext.drew | apply Ext.alloc | apply Ext.more_)⟩
end Go.Proofs.YtlfbdodokldkhaaGreatDoor
namespace Go.Proofs.YtlfbdodokldkhaaGreatDoor
open Go.RowKit NM
set_option maxHeartbeats 2000000 in
theorem rrow_any (R C : Nat) (l : List Val) (b off n cap i : Nat) (w : World) (h : ArrIn w (some ⟨b, off, none⟩) n cap l) (hr : NA.right ⟨R, C, l⟩) (hi : i < R) :
    Calls Tryz.prog 83 #[AV R C (.slice (some ⟨b, off, none⟩) n cap), .int .i64 (i : Int)] w fun e w' => e = .returned (.slice (some ⟨b, off + i * C * 6, none⟩) C (cap - i * C)) ∧ Ext w w' := by
  obtain ⟨r1, r2, r3, r4, r5⟩ := rightA_nat.1 hr
  simp only at r1 r2 r3 r4 r5
  have hln := h.len
  have hcap := h.cap
  obtain ⟨m1, m2⟩ := lt_mul hi r3
  have e1 : IntKind.i64.wrap ((i : Int) * (C : Int)) = ((i * C : Nat) : Int) := by rw [IntKind.wrap_i64, ← Int.natCast_mul]; omega
  have hC4 : C ≤ 4096 := Nat.le_trans (Nat.le_mul_of_pos_left C r1) r3
  have hi4 : i ≤ 4096 := Nat.le_trans (Nat.le_mul_of_pos_right i r2) m2
  have e2 : IntKind.i64.wrap ((i : Int) + 1) = (i : Int) + 1 := by rw [IntKind.wrap_i64]; omega
  have e3 : IntKind.i64.wrap (((i : Int) + 1) * (C : Int)) = ((i * C + C : Nat) : Int) := by
    rw [IntKind.wrap_i64, Int.add_mul, Int.one_mul, ← Int.natCast_mul, ← Int.natCast_add]
    generalize i * C + C = z at *
    omega
  have hle : i * C + C ≤ cap := by omega
  have hne : ¬ cap = i * C := by omega
  generalize hP : i * C = P at *
  have hPC : P + C - P = C := by omega
  clear h hr r3 r4 r5 hP m1
  go_enter Tryz.func83, Tryz.ntmps83
  go_wp2_with fail
  exact bodyPost_ret (v := .slice (some ⟨b, off + P * 6, none⟩) (P + C - P) (cap - P)) (by simp [results, Tryz.results83, go_sem]) rfl ⟨by rw [hPC], by with_reducible repeat (first | exact Ext.refl _ | apply Ext.drew | apply Ext.alloc | apply Ext.more_)⟩
theorem heap_one (Z : World) (o o' : Obj) (os : Array Obj) (d : Nat) {g : Nat} (hg : Z.heap.size + 1 ≤ g) : (more (Z.alloc o) os d).heap[g]? = (more (Z.alloc o') os d).heap[g]? := by
  simp only [more, World.alloc, Array.getElem?_append, Array.getElem?_push, Array.size_push]
  by_cases h : g < Z.heap.size + 1
  · omega
  · rw [if_neg h, if_neg h]
theorem own_one {Z : World} {o : Obj} (o' : Obj) {os : Array Obj} {d base size n : Nat} {ty : TypeId} {v : Value} {xs : List Value} (h : (more (Z.alloc o) os d).ownsRow base ty size v n xs) (hb : Z.heap.size + 1 ≤ base) : (more (Z.alloc o') os d).ownsRow base ty size v n xs := by
  refine ⟨h.1, ?_⟩
  rcases h.2 with h2 | ⟨g, cap, cur, hv, hg, hh, r⟩
  · exact .inl h2
  · exact .inr ⟨g, cap, cur, hv, hg, by rw [heap_one Z o' o os d (by omega)]; exact hh, r⟩
set_option maxHeartbeats 4000000 in
theorem rrows_any (R C : Nat) (l : List Val) (A : Option Addr) (n cap : Nat) (ps : List Nat) (B : Option Addr) (cb : Nat) (w : World) (h : ArrIn w A n cap l) (hr : NA.right ⟨R, C, l⟩) (hps : Rd 0 w B (i6 ps)) (hcb : ps.length ≤ cb) (hp : PlOk ps R) :
    Calls Tryz.prog 84 #[AV R C (.slice A n cap), .slice B ps.length cb] w fun e w' => ResA w (rowsN ⟨R, C, l⟩ ps) e w' := by
  obtain ⟨r1, r2, r3, r4, r5⟩ := rightA_nat.1 hr
  simp only at r1 r2 r3 r4 r5
  have hln := h.len
  obtain ⟨i0, hi0, hz0, hz1, hz2⟩ := info_parts info_val
  have hres : rowsN ⟨R, C, l⟩ ps = ⟨ps.length, C, ps.flatMap (rowL C l)⟩ := rfl
  have hok : ∀ x ∈ ps.flatMap (rowL C l), x.ok := rowsN_all (a := ⟨R, C, l⟩) r4 hp.lt h.ok
  have hm : ps.length * C ≤ 4096 := Nat.le_trans (Nat.mul_le_mul_right _ hp.le) r3
  have hm2 : ps.length ≤ 4096 := Nat.le_trans hp.le (Nat.le_trans (Nat.le_mul_of_pos_right R r2) r3)
  rw [hres]
  have HO := Lib.hid hok
  have HL := Lib.hid hm
  have hC4 : C ≤ 4096 := Nat.le_trans (Nat.le_mul_of_pos_left C r1) r3
  generalize hN : ps.length * C = N at *
  have HN := Lib.hid hN
  clear hN hres hok
  go_enter Tryz.func84, Tryz.ntmps84
  go_wp2_with fail
  go_loopw [6] (fun i wr => ∃ (k : Nat) (E : Option Addr) (c : Nat) (os : Array Obj) (d : Nat), k ≤ ps.length ∧ i = .int .i64 (k : Int) ∧ wr = more (((w.alloc (Obj.cells #[.int .i64 (R : Int), .int .i64 (C : Int), .slice (A) n cap] 30)).alloc (Obj.cells #[.int .i64 0, .int .i64 0, .slice none 0 0] 30)).alloc (Obj.cells #[.int .i64 (ps.length : Int), .int .i64 (C : Int), .slice E (k * C) c] 30)) os d ∧ Hid (wr.ownsRow (w.heap.size + 3) 39 6 (.slice E (k * C) c) (k * C) (vcells ((ps.take k).flatMap (rowL C l))))) (fun i _ => ps.length - (intOf i).toNat)
  case atStart =>
    have h0 : 0 * C = 0 := Nat.zero_mul C
    refine ⟨0, none, 0, #[], ((((w.alloc (Obj.cells #[.int .i64 (R : Int), .int .i64 (C : Int), .slice (A) n cap] 30)).alloc (Obj.cells #[.int .i64 0, .int .i64 0, .slice none 0 0] 30)).alloc (Obj.cells #[.int .i64 (ps.length : Int), .int .i64 (C : Int), .slice none 0 0] 30))).drawn, Nat.zero_le _, rfl, ?_, ?_⟩
    · rw [h0]; exact (more_none _).symm
    · show World.ownsRow _ _ _ _ _ _ _
      rw [h0]
      exact World.ownsRow_nil _ _ _ _
  case round =>
    obtain ⟨k, E, c, os, d, hk, rfl, rfl, HW⟩ := hrel
    by_cases hlt : k < ps.length
    · have hlt' : (k : Int) < (ps.length : Int) := by omega
      obtain ⟨r, hrk⟩ : ∃ r, ps[k]? = some r := ⟨_, List.getElem?_eq_getElem hlt⟩
      have hrR : r < R := hp.lt r (List.mem_of_getElem? hrk)
      obtain ⟨m1, m2⟩ := lt_mul hrR r3
      obtain ⟨bp, op, rfl, _, hcp⟩ := hps k (.int .i64 r) (by rw [List.getElem?_map, hrk]; rfl)
      have hbp := lt_of_cell hcp
      obtain ⟨b, off, rfl, hbl, hcell⟩ := h.part (p := r * C) (m := C) (by omega) r2
      have hcap := h.cap
      have hkC : k * C + C ≤ N := by rw [← HN.out]; have := Nat.mul_le_mul_right C (show k + 1 ≤ ps.length by omega); rw [Nat.add_mul, Nat.one_mul] at this; exact this
      have hl6 : (vcells ((l.drop (r * C)).take C)).length = C * 6 := by rw [vcells_length, List.length_take, List.length_drop]; omega
      have hstep := rows_step (C := C) (l := l) hrk
      have hrw := fun W (hW : ArrIn W (some ⟨b, off, none⟩) n cap l) => rrow_any R C l b off n cap r W hW hr hrR
      have HS := Lib.hid hstep
      have HK := Lib.hid hkC
      have HA := Lib.hid h
      have HC := Lib.hid hcell
      have HR := Lib.hid hrw
      have H6 := Lib.hid hl6
      clear hstep hkC hrk hcell hrw hl6 m1 m2
      go_upto_region 5 with fail
      refine wp_plan (S := Ext (((w.alloc (Obj.cells #[.int .i64 (R : Int), .int .i64 (C : Int), .slice (some ⟨b, off, none⟩) n cap] 30)).alloc (Obj.cells #[.int .i64 0, .int .i64 0, .slice none 0 0] 30)).alloc (Obj.cells #[.int .i64 (ps.length : Int), .int .i64 (C : Int), .slice E (k * C) c] 30))) [(0, 0), (1, 0), (2, 0), (3, 0), (4, 0), (5, 0), (6, 0), (7, 1), (8, 1), (9, 0), (10, 2)] [10] (by kernel_rfl) (by kernel_rfl) (by kernel_rfl) (fun _ _ d _ _ h => by cases d <;> exact h) (Ext.drew (ext_more _ _ _)) ?_
      iterate 7 ((refine wpPl_read (v := ?_) rfl ?_ (fun _ h => ?_) ?_; rotate_left 1; rfl; (obtain ⟨_, _, rfl⟩ := h.more; go_simp; try rfl)); try simp only [Act.put, zqA, zqB, zqC])
      (refine wpPl_eff rfl ?_ (fun K hK => ?_); rfl; go_simp; refine (HR.out _ (HA.out.ext (by with_reducible repeat (first | exact Ext.refl _ | apply Ext.drew | apply Ext.alloc | apply Ext.more_)))).mono ?_; rintro e w' ⟨rfl, hb⟩; obtain ⟨osf, df, rfl⟩ := hb.more; clear hb; refine hK _ _ ?_ ?_; (with_reducible repeat (first | exact Ext.refl _ | exact ext_more _ _ _ | apply Ext.drew | apply Ext.alloc | apply Ext.more_)))
      try simp only [Act.put, zqA, zqB, zqC]
      (refine wpPl_eff rfl ?_ (fun K hK => ?_); rfl)
      refine wp_append_own _ _ _ _ rfl (w.heap.size + 3) 39 i0 (VV 0 0 0 ⟨#[]⟩ false 0) 6 56 Tryz.underlying28 hi0 hz0 hz1 hz2 rfl (by decide) (.slice E (k * C) c) (k * C) _ rfl (own_ext HW.out (by with_reducible repeat (first | exact Ext.refl _ | exact ext_d _ _ _ _ | exact ext_app _ _ _ _ _ | exact ext_app2 _ _ _ _ _ _ | exact ext_app3 _ _ _ _ _ _ _ | apply Ext.drew | apply Ext.alloc | apply Ext.more_))) _ C _ (vcells ((l.drop (r * C)).take C)) rfl H6.out (fun j u hu => by rw [Addr.add_mid]; exact (show Ext w _ from (by with_reducible repeat (first | exact Ext.refl _ | apply Ext.drew | apply Ext.alloc | apply Ext.more_))).cell_some (HC.out j u hu)) (fun u hu => vcells_one u hu) (by have := HK.out; simp only [maxLen]; omega) (by have := HK.out; omega) (by simp; omega) ?_
      intro v4 w4 ho4 hg4
      have hx4 : Ext (((w.alloc (Obj.cells #[.int .i64 (R : Int), .int .i64 (C : Int), .slice (some ⟨b, off, none⟩) n cap] 30)).alloc (Obj.cells #[.int .i64 0, .int .i64 0, .slice none 0 0] 30)).alloc (Obj.cells #[.int .i64 (ps.length : Int), .int .i64 (C : Int), .slice E (k * C) c] 30)) w4 := ext_grownN (n := k * C) (ty := 39) (size := 6) (xs := vcells ((ps.take k).flatMap (rowL C l))) (v := .slice E (k * C) c) (by with_reducible repeat (first | exact Ext.refl _ | apply Ext.drew | apply Ext.alloc | apply Ext.more_)) (by simpa [Nat.add_assoc] using own_ext HW.out (by with_reducible repeat (first | exact Ext.refl _ | exact ext_d _ _ _ _ | exact ext_app _ _ _ _ _ | exact ext_app2 _ _ _ _ _ _ | exact ext_app3 _ _ _ _ _ _ _ | apply Ext.drew | apply Ext.alloc | apply Ext.more_))) hg4
      obtain ⟨os9, d9, rfl⟩ := hx4.more
      obtain ⟨G4, c4, rfl⟩ := own_slice ho4
      have HO4 := Lib.hid ho4
      clear ho4 hg4 hx4
      refine hK _ _ (ext_more _ _ _) ?_
      try simp only [Act.put, zqA, zqB, zqC]
      (refine wpPl_read (v := ?_) rfl ?_ (fun _ h => ?_) ?_; rotate_left 1; rfl; (obtain ⟨_, _, rfl⟩ := h.more; go_simp; try rfl))
      try simp only [Act.put, zqA, zqB, zqC]
      (refine wpPl_tail rfl ?_ (fun K hK => ?_); rfl; go_simp; refine hK _ _ ?_)
      try simp only [Act.put, zqA, zqB, zqC]
      refine wpPl_nil ?_
      go_wp2_with fail
      have hkk : (k + 1) * C = k * C + C := by rw [Nat.add_mul, Nat.one_mul]
      refine ⟨⟨k + 1, G4, c4, os9, _, by omega, by go_num, by rw [hkk], ?_⟩, by simp [intOf]; omega⟩
      show World.ownsRow _ _ _ _ _ _ _
      rw [HS.out, vcells_append, hkk]
      exact own_one (Z := ((w.alloc (Obj.cells #[.int .i64 (R : Int), .int .i64 (C : Int), .slice (some ⟨b, off, none⟩) n cap] 30)).alloc (Obj.cells #[.int .i64 0, .int .i64 0, .slice none 0 0] 30))) _ HO4.out (by simp)
    · obtain rfl : k = ps.length := by omega
      have hT : ps.take ps.length = ps := List.take_length
      have HW2 := HW.out
      rw [hT, HN.out] at HW2
      rw [HN.out]
      obtain ⟨D, cc, hv, hD⟩ := own_arrN (n := N) (l := ps.flatMap (rowL C l)) (v := .slice E N c) (w := (((w.alloc (Obj.cells #[.int .i64 (R : Int), .int .i64 (C : Int), .slice (A) n cap] 30)).alloc (Obj.cells #[.int .i64 0, .int .i64 0, .slice none 0 0] 30)).alloc (Obj.cells #[.int .i64 (ps.length : Int), .int .i64 (C : Int), .slice E N c] 30))) (X := (((w.alloc (Obj.cells #[.int .i64 (R : Int), .int .i64 (C : Int), .slice (A) n cap] 30)).alloc (Obj.cells #[.int .i64 0, .int .i64 0, .slice none 0 0] 30)).alloc (Obj.cells #[.int .i64 (ps.length : Int), .int .i64 (C : Int), .slice E N c] 30))) (by simpa [Nat.add_assoc] using HW2) (Nat.le_refl _) (by omega) HO.out
      simp only [Value.slice.injEq, true_and] at hv
      obtain ⟨rfl, rfl⟩ := hv
      have hDr := hD.rd
      clear HW HW2 hT
      go_wp2_with fail
      exact bodyPost_ret (v := AV ps.length C (.slice E N c)) (by simp [results, Tryz.results84, go_sem]) rfl ⟨E, N, c, rfl, ⟨(by (try simp only [more_alloc, more_more] at hDr); (try simp only [more_alloc, more_more]); (try simp only [drew_more] at hDr); (try simp only [more_drew] at hDr); (try simp only [Array.append_assoc] at hDr); (try simp only [Array.append_assoc]); exact Rd.swap hDr (by first | (simp; done) | (simp; omega) | omega) (by first | (simp; done) | (simp; omega) | omega) (by first | (simp; done) | (simp; omega) | omega)), hD.len, hD.cap, hD.small, hD.ok⟩, by with_reducible repeat (first | exact Ext.refl _ | apply Ext.drew | apply Ext.alloc | apply Ext.more_)⟩
end Go.Proofs.YtlfbdodokldkhaaGreatDoor
namespace Go.Proofs.YtlfbdodokldkhaaGreatDoor
open Go.RowKit NM
set_option maxHeartbeats 1000000 in
theorem rtoTruth_any (v : Val) (w : World) (hv : v.right) :
    Calls Tryz.prog 86 #[VV v.kind v.mant v.exp v.text v.truth v.fault] w fun e w' => e = .returned (bfV (truthO v)) ∧ Ext w w' := by
  rcases hv.form with rfl | ⟨m, e, rfl, hr⟩ | ⟨t, rfl, ht⟩ | ⟨x, rfl⟩ | ⟨f, rfl, hf⟩
  · show Calls Tryz.prog 86 #[VV 0 0 0 ⟨#[]⟩ false 0] w fun e w' => e = .returned (.tuple #[.bool false, .int .i64 0]) ∧ Ext w w'
    go_enter Tryz.func86, Tryz.ntmps86
    go_wp2
    exact bodyPost_ret (v := .tuple #[.bool false, .int .i64 0]) (by simp [results, Tryz.results86, go_sem]) rfl ⟨rfl, by with_reducible repeat (first | exact Ext.refl _ | apply Ext.drew | apply Ext.alloc | apply Ext.more_)⟩
  · show Calls Tryz.prog 86 #[VV 1 m e ⟨#[]⟩ false 0] w fun e w' => e = .returned (.tuple #[.bool (decide (m ≠ 0)), .int .i64 0]) ∧ Ext w w'
    clear hr hv
    by_cases hm : m = 0
    · subst hm
      go_enter Tryz.func86, Tryz.ntmps86
      go_wp2
      exact bodyPost_ret (v := .tuple #[.bool false, .int .i64 0]) (by simp [results, Tryz.results86, go_sem]) rfl ⟨rfl, by with_reducible repeat (first | exact Ext.refl _ | apply Ext.drew | apply Ext.alloc | apply Ext.more_)⟩
    · rw [decide_eq_true hm]
      have hm' : (m != 0) = true := by simpa using hm
      go_enter Tryz.func86, Tryz.ntmps86
      go_wp2
      exact bodyPost_ret (v := .tuple #[.bool true, .int .i64 0]) (by simp [results, Tryz.results86, go_sem]) rfl ⟨rfl, by with_reducible repeat (first | exact Ext.refl _ | apply Ext.drew | apply Ext.alloc | apply Ext.more_)⟩
  · have hF := fun W => rfold_any t W (by omega)
    have hT : truthO ⟨2, 0, 0, t, false, 0⟩ = if (foldB t).toList == [84, 82, 85, 69] then (true, 0) else if (foldB t).toList == [70, 65, 76, 83, 69] then (false, 0) else (false, 2) := rfl
    rw [hT]
    show Calls Tryz.prog 86 #[VV 2 0 0 t false 0] w _
    clear hT ht hv
    generalize foldB t = X at *
    cases h1 : X.toList == [84, 82, 85, 69] with
    | true =>
      rw [if_pos rfl]
      go_enter Tryz.func86, Tryz.ntmps86
      go_wp2_with (go_at_call 130; (with_reducible refine (hF _).mono ?_); rintro e w' ⟨rfl, hb⟩; obtain ⟨os, d, rfl⟩ := hb.more; clear hb)
      exact bodyPost_ret (v := .tuple #[.bool true, .int .i64 0]) (by simp [results, Tryz.results86, go_sem]) rfl ⟨rfl, by with_reducible repeat (first | exact Ext.refl _ | apply Ext.drew | apply Ext.alloc | apply Ext.more_)⟩
    | false =>
      rw [if_neg (by simp)]
      cases h2 : X.toList == [70, 65, 76, 83, 69] with
      | true =>
        rw [if_pos rfl]
        go_enter Tryz.func86, Tryz.ntmps86
        go_wp2_with (go_at_call 130; (with_reducible refine (hF _).mono ?_); rintro e w' ⟨rfl, hb⟩; obtain ⟨os, d, rfl⟩ := hb.more; clear hb)
        exact bodyPost_ret (v := .tuple #[.bool false, .int .i64 0]) (by simp [results, Tryz.results86, go_sem]) rfl ⟨rfl, by with_reducible repeat (first | exact Ext.refl _ | apply Ext.drew | apply Ext.alloc | apply Ext.more_)⟩
      | false =>
        rw [if_neg (by simp)]
        go_enter Tryz.func86, Tryz.ntmps86
        go_wp2_with (go_at_call 130; (with_reducible refine (hF _).mono ?_); rintro e w' ⟨rfl, hb⟩; obtain ⟨os, d, rfl⟩ := hb.more; clear hb)
        exact bodyPost_ret (v := .tuple #[.bool false, .int .i64 2]) (by simp [results, Tryz.results86, go_sem]) rfl ⟨rfl, by with_reducible repeat (first | exact Ext.refl _ | apply Ext.drew | apply Ext.alloc | apply Ext.more_)⟩
  · show Calls Tryz.prog 86 #[VV 3 0 0 ⟨#[]⟩ x 0] w fun e w' => e = .returned (.tuple #[.bool x, .int .i64 0]) ∧ Ext w w'
    cases x
    all_goals
      go_enter Tryz.func86, Tryz.ntmps86
      go_wp2
      exact bodyPost_ret (v := _) (by simp [results, Tryz.results86, go_sem]) rfl ⟨rfl, by with_reducible repeat (first | exact Ext.refl _ | apply Ext.drew | apply Ext.alloc | apply Ext.more_)⟩
  · show Calls Tryz.prog 86 #[VV 4 0 0 ⟨#[]⟩ false f] w fun e w' => e = .returned (.tuple #[.bool false, .int .i64 f]) ∧ Ext w w'
    go_enter Tryz.func86, Tryz.ntmps86
    go_upto_region 2 with fail
    go_region
    all_goals
      go_wp2
      exact bodyPost_ret (v := .tuple #[.bool false, .int .i64 f]) (by simp [results, Tryz.results86, go_sem]) rfl ⟨rfl, by with_reducible repeat (first | exact Ext.refl _ | apply Ext.drew | apply Ext.alloc | apply Ext.more_)⟩
end Go.Proofs.YtlfbdodokldkhaaGreatDoor
namespace Go.Proofs.YtlfbdodokldkhaaGreatDoor
open Go.RowKit NM
theorem own_empty {w : World} {n : Nat} {ty : TypeId} {cs : Array Value} (hn : n = w.heap.size) (hc : cs = #[]) : (w.alloc (.cells cs ty)).ownsRow w.heap.size ty 1 (.slice (some ⟨n, 0, none⟩) 0 0) 0 [] := by
  subst hn hc
  exact ⟨rfl, Or.inr ⟨w.heap.size, 0, _, rfl, Nat.le_refl _, Array.getElem?_push_size, Nat.le_refl _, by decide, by simp, by simp⟩⟩
set_option maxHeartbeats 8000000 in
theorem rfilter_any (A : Option Addr) (n cap : Nat) (xs : List Ar) (w : World) (h : ArgsIn w A n cap xs) (h2 : 2 ≤ n) :
    Calls Tryz.prog 42 #[.slice A n cap] w fun e w' => ResM w xs (filterO xs) e w' := by
  obtain ⟨R, C, l, b1, off1, n1, cap1, b, off, x0, ha, rfl, ⟨v0, v1, v2⟩, _, hc1, _, _, _, hbl, _, _, _, harr, _⟩ := h.first (k := 0) (by omega)
  obtain ⟨R2, C2, l2, b2, off2, n2, cap2, b', off', x2, ha2, hbo, ⟨u0, u1, u2⟩, hn2, hc2, _, _, _, _, hb2, _, _, harr2, _⟩ := h.first (k := 1) (by omega)
  simp only [Option.some.injEq, Addr.mk.injEq, and_true] at hbo
  obtain ⟨rfl, rfl⟩ := hbo
  have hxr : NA.right ⟨R, C, l⟩ := (h.all _ (List.mem_of_getElem? ha)).right
  have hxr2 : NA.right ⟨R2, C2, l2⟩ := (h.all _ (List.mem_of_getElem? ha2)).right
  have hcap := h.cap
  have hsm := h.small
  simp only [Nat.zero_mul, Nat.add_zero, Nat.one_mul] at v0 v1 v2 u0 u1 u2
  have hx0 : argN xs 0 = ⟨R, C, l⟩ := by unfold argN; rw [ha]
  have hx1 : argN xs 1 = ⟨R2, C2, l2⟩ := by unfold argN; rw [ha2]
  obtain ⟨r1, r2, r3, r4, r5⟩ := rightA_nat.1 hxr
  obtain ⟨s1, s2, s3, s4, s5⟩ := rightA_nat.1 hxr2
  simp only at r1 r2 r3 r4 s1 s2 s3 s4 s5
  have hln2 := harr2.len
  have hn24 : n2 ≤ 4096 := by omega
  unfold filterO
  rw [hx0, hx1]
  have gv := fun W (hW : ArgsIn W (some ⟨b, off, none⟩) n cap xs) => left_any _ n cap xs 2 W hW _ rfl
  have H := Lib.hid h
  have HA := Lib.hid harr
  have HA2 := Lib.hid harr2
  obtain ⟨g, hg⟩ : ∃ g, givenB xs 2 = g := ⟨_, rfl⟩
  rw [hg]
  have HG := Lib.hid hg
  rw [hg] at gv
  simp only [show ((2 : Nat) : Int) = 2 from rfl] at gv
  obtain ⟨X, hX⟩ : ∃ X, filterT ⟨R, C, l⟩ ⟨R2, C2, l2⟩ (argN xs 2) g = X := ⟨_, rfl⟩
  rw [hX]
  have HX := Lib.hid hX
  clear h harr harr2 ha ha2 hx0 hx1 hX r4 hg
  have hbl' : b < w.heap.size := hbl
  go_enter Tryz.func42, Tryz.ntmps42
  go_upto_region 3 with fail
  refine wp_world fun wc hU => ?_
  have hx : Ext w wc := by rw [hU]; exact (by with_reducible repeat (first | exact Ext.refl _ | apply Ext.drew | apply Ext.alloc | apply Ext.more_))
  have hsz : w.heap.size + 3 ≤ wc.heap.size := by rw [hU]; simp
  have c0 : wc.cell? ⟨w.heap.size + 1, 0, none⟩ = some (.int .i64 (R : Int)) := by rw [hU]; go_simp
  have c1 : wc.cell? ⟨w.heap.size + 1, 1, none⟩ = some (.int .i64 (C : Int)) := by rw [hU]; go_simp
  have c2 : wc.cell? ⟨w.heap.size + 1, 2, none⟩ = some (.slice (some ⟨b1, off1, none⟩) n1 cap1) := by rw [hU]; go_simp
  have e0 : wc.cell? ⟨w.heap.size + 1 + 1, 0, none⟩ = some (.int .i64 (R2 : Int)) := by rw [hU]; go_simp
  have e1 : wc.cell? ⟨w.heap.size + 1 + 1, 1, none⟩ = some (.int .i64 (C2 : Int)) := by rw [hU]; go_simp
  have e2 : wc.cell? ⟨w.heap.size + 1 + 1, 2, none⟩ = some (.slice (some ⟨b2, off2, none⟩) n2 cap2) := by rw [hU]; go_simp
  have HU : Hid (∃ os d, wc = more (w.alloc (Obj.cells #[.int .i64 0, .int .i64 0, .slice none 0 0] 30)) os d) := Lib.hid ((show Ext (w.alloc (Obj.cells #[.int .i64 0, .int .i64 0, .slice none 0 0] 30)) wc by rw [hU]; exact (by with_reducible repeat (first | exact Ext.refl _ | apply Ext.drew | apply Ext.alloc | apply Ext.more_))).more)
  clear hU
  generalize w.heap.size + 1 + 1 = pb at *
  generalize w.heap.size + 1 = pa at *
  have la := lt_of_cell c0
  have lb := lt_of_cell e0
  replace v0 := hx.cell_some v0
  clear v0 v1 v2 u0 u1 u2
  obtain ⟨br, hbr⟩ : ∃ br, (decide (C2 = 1) && decide (R2 = R)) = br := ⟨_, rfl⟩
  have HBR := Lib.hid hbr
  go_cut [5] (fun s5 wx => s5 = .bool br ∧ wx = wc)
  case first =>
    by_cases q1 : C2 = 1
    · have q1' : ((C2 : Int) == 1) = true := by simp; omega
      by_cases q2 : R2 = R
      · have q2' : ((R2 : Int) == (R : Int)) = true := by simp; omega
        obtain rfl : true = br := by rw [← hbr]; simp [q1, q2]
        clear hbr q1 q2
        go_wp2_with fail
        go_meet
        exact ⟨rfl, rfl⟩
      · have q2' : ((R2 : Int) == (R : Int)) = false := by simp; omega
        obtain rfl : false = br := by rw [← hbr]; simp [q2]
        clear hbr q1 q2
        go_wp2_with fail
        go_meet
        exact ⟨rfl, rfl⟩
    · have q1' : ((C2 : Int) == 1) = false := by simp; omega
      obtain rfl : false = br := by rw [← hbr]; simp [q1]
      clear hbr q1
      go_wp2_with fail
      go_meet
      exact ⟨rfl, rfl⟩
  case rest =>
  obtain ⟨rfl, rfl⟩ := hcut
  clear hbr
  obtain ⟨bad, hbad⟩ : ∃ bad, (!br && (decide (R2 ≠ 1) || decide (C2 ≠ C))) = bad := ⟨_, rfl⟩
  have HBAD := Lib.hid hbad
  go_upto_region 4 with fail
  go_cut [39] (fun s40 wx => s40 = .bool bad ∧ wx = wc)
  case first =>
    cases br with
    | true =>
      obtain rfl : false = bad := by rw [← hbad]; simp
      clear hbad
      go_wp2_with fail
      go_meet
      exact ⟨rfl, rfl⟩
    | false =>
      by_cases q1 : R2 = 1
      · have q1' : ((R2 : Int) != 1) = false := by simp; omega
        by_cases q2 : C2 = C
        · have q2' : ((C2 : Int) != (C : Int)) = false := by simp; omega
          obtain rfl : false = bad := by rw [← hbad]; simp [q1, q2]
          clear hbad q1 q2
          go_wp2_with fail
          go_meet
          exact ⟨rfl, rfl⟩
        · have q2' : ((C2 : Int) != (C : Int)) = true := by simp; omega
          obtain rfl : true = bad := by rw [← hbad]; simp [q2]
          clear hbad q1 q2
          go_wp2_with fail
          go_meet
          exact ⟨rfl, rfl⟩
      · have q1' : ((R2 : Int) != 1) = true := by simp; omega
        obtain rfl : true = bad := by rw [← hbad]; simp [q1]
        clear hbad q1
        go_wp2_with fail
        go_meet
        exact ⟨rfl, rfl⟩
  case rest =>
  obtain ⟨rfl, rfl⟩ := hcut
  clear hbad
  cases bad with
  | true =>
    obtain rfl : aloneO 2 = X := by rw [← HX.out]; exact (filterT_bad (a := ⟨R, C, l⟩) (b := ⟨R2, C2, l2⟩) HBR.out HBAD.out).symm
    go_wp2_with ((go_at_call 20; (with_reducible refine (rbad_res 2 (by omega) _).mono ?_); rintro e w' ⟨D, m, cc, rfl, hD, hb⟩; obtain ⟨os5, d5, rfl⟩ := hb.more; clear hb; have hDr := hD.rd); obtain ⟨osu, du, rfl⟩ := HU.out)
    exact bodyPost_ret (v := AV (aloneO 2).R (aloneO 2).C (.slice D m cc)) (by simp [results, Tryz.results42, go_sem]) rfl ⟨D, m, cc, rfl, ArrN.arr (base := w.heap.size) ⟨(by (try simp only [more_alloc, more_more] at hDr); (try simp only [more_alloc, more_more]); (try simp only [drew_more] at hDr); (try simp only [more_drew] at hDr); (try simp only [Array.append_assoc] at hDr); (try simp only [Array.append_assoc]); exact Rd.swap hDr (by first | (simp; done) | (simp; omega) | omega) (by first | (simp; done) | (simp; omega) | omega) (by first | (simp; done) | (simp; omega) | omega)), hD.len, hD.cap, hD.small, hD.ok⟩, by with_reducible repeat (first | exact Ext.refl _ | apply Ext.drew | apply Ext.alloc | apply Ext.more_), Or.inr (by (try simp only [more_alloc, more_more] at hDr); (try simp only [more_alloc, more_more]); (try simp only [drew_more] at hDr); (try simp only [more_drew] at hDr); (try simp only [Array.append_assoc] at hDr); (try simp only [Array.append_assoc]); exact Rd.swap hDr (by first | (simp; done) | (simp; omega) | omega) (by first | (simp; done) | (simp; omega) | omega) (by first | (simp; done) | (simp; omega) | omega))⟩
  | false =>
  have HX2 : Hid ((if maskF l2 ≠ 0 then aloneO (maskF l2) else if maskP l2 0 = [] then (if g then argN xs 2 else aloneO 9) else if br = true then rowsN ⟨R, C, l⟩ (maskP l2 0) else colsN ⟨R, C, l⟩ (maskP l2 0)) = X) := by
    show _ = _
    rw [← HX.out]; exact (filterT_ok (a := ⟨R, C, l⟩) (b := ⟨R2, C2, l2⟩) HBR.out HBAD.out).symm
  have hpl : (br = true → PlOkE l2 R) ∧ (br = false → PlOkE l2 C) := by
    have e1 := HBR.out
    have e2 := HBAD.out
    constructor
    · intro hb
      rw [hb] at e1
      simp only [Bool.and_eq_true, decide_eq_true_eq] at e1
      unfold PlOkE
      rw [s4, e1.1, e1.2, Nat.mul_one]
    · intro hb
      rw [hb] at e2
      simp only [Bool.not_false, Bool.true_and, Bool.or_eq_false_iff, decide_eq_false_iff_not, ne_eq, Decidable.not_not] at e2
      unfold PlOkE
      rw [s4, e2.1, e2.2, Nat.one_mul]
  have HPL := Lib.hid hpl
  clear HX HBR HBAD hpl
  obtain ⟨i0, hi0, hz0, hz1, hz2⟩ := info_parts info_int_
  go_wp2_with fail
  go_loopw [6, 7] (fun v i wr => ∃ (k : Nat) (ps : List Nat), k ≤ n2 ∧ i = .int .i64 (k : Int) ∧ ps.length ≤ k ∧ Hid (maskF (l2.take k) = 0) ∧ Hid (ps = maskP (l2.take k) 0) ∧ Hid (wr.ownsRow wc.heap.size 3 1 v ps.length (i6 ps)) ∧ Ext wc wr) (fun _ i _ => n2 - (intOf i).toNat)
  case atStart => exact ⟨0, [], Nat.zero_le _, rfl, Nat.le_refl _, rfl, rfl, own_empty rfl rfl, (Ext.refl _).alloc _⟩
  case round =>
    obtain ⟨k, ps, hk, rfl, hpk, HF, HP, HO, hxr⟩ := hrel
    have hsr := hxr.size
    have hxr0 := hxr
    obtain ⟨os, d, rfl⟩ := hxr.more
    clear hxr
    by_cases hlt : k < n2
    · have hlt' : (k : Int) < (n2 : Int) := by omega
      obtain ⟨x, bq, oq, hxk, hxo, hbq, hat⟩ := HA2.out.at hlt
      simp only [Option.some.injEq, Addr.mk.injEq, and_true] at hbq
      obtain ⟨rfl, rfl⟩ := hbq
      obtain ⟨y0, y1, y2, y3, y4, y5⟩ := hat.ext hx
      have hb2' := lt_of_cell y0
      have hxR : x.right := s5 x (List.mem_of_getElem? hxk)
      have ht := fun W => rtoTruth_any x W hxR
      obtain ⟨m1, m2⟩ := mask_step hxk
      rw [HF.out, if_neg (by simp)] at m1
      rw [← HP.out] at m2
      have hmf0 := maskF_first hxk HF.out
      obtain ⟨⟨tb, tf⟩, hxt⟩ : ∃ p, truthO x = p := ⟨_, rfl⟩
      have hbd := truthO_bd hxR
      rw [hxt] at m1 m2 ht hmf0 hbd
      simp only at m1 m2 hmf0 hbd
      clear hxt
      by_cases hf : tf = 0
      · have M1 := Lib.hid (m1.trans hf)
        cases hb : tb with
        | true =>
          rw [hb, if_pos rfl] at m2
          have M2 := Lib.hid m2
          have ht2 : ∀ W, Calls Tryz.prog 86 #[VV x.kind x.mant x.exp x.text x.truth x.fault] W fun e w' => e = .returned (.tuple #[.bool true, .int .i64 0]) ∧ Ext W w' := fun W => by have := ht W; unfold bfV at this; rw [hb, hf] at this; exact this
          clear ht m1 m2 hf hb hxk hxo hat HX2 HPL hmf0 hbd
          go_wp2_with (first | (go_at_call 86; (with_reducible refine (ht2 _).mono ?_); rintro e w' ⟨rfl, hb⟩; obtain ⟨ost, dt, rfl⟩ := hb.more; clear hb) | (at_builtin; refine wpList_append_own _ rfl _ _ _ rfl wc.heap.size 3 i0 (.int .i64 0) 1 8 Tryz.underlying77 hi0 hz0 hz1 hz2 rfl (by decide) _ ps.length (i6 ps) rfl (own_ext HO.out (by with_reducible repeat (first | exact Ext.refl _ | exact ext_d _ _ _ _ | exact ext_app _ _ _ _ _ | exact ext_app2 _ _ _ _ _ _ | exact ext_app3 _ _ _ _ _ _ _ | apply Ext.drew | apply Ext.alloc | apply Ext.more_))) _ 1 1 [.int .i64 k] rfl rfl (Rd.one_ _ _ (by first | rfl | (simp; done))).add (one_i6 [k]) (by simp [maxLen]; omega) (by omega) (by simp; omega) ?_; intro v4 w4 ho4 hg4 _))
          have hx4 := ext_grown (X := wc) (by with_reducible repeat (first | exact Ext.refl _ | apply Ext.drew | apply Ext.alloc | apply Ext.more_)) (own_ext HO.out (by with_reducible repeat (first | exact Ext.refl _ | exact ext_d _ _ _ _ | exact ext_app _ _ _ _ _ | exact ext_app2 _ _ _ _ _ _ | exact ext_app3 _ _ _ _ _ _ _ | apply Ext.drew | apply Ext.alloc | apply Ext.more_))) hg4
          refine ⟨⟨k + 1, ps ++ [k], by omega, by go_num, by simp; omega, M1, Lib.hid M2.out.symm, ?_, hx4⟩, by simp [intOf]; omega⟩
          show World.ownsRow _ _ _ _ _ _ _
          unfold i6; rw [List.map_append, List.length_append]
          exact ho4
        | false =>
          rw [hb, if_neg (by simp), List.append_nil] at m2
          have M2 := Lib.hid m2
          have ht2 : ∀ W, Calls Tryz.prog 86 #[VV x.kind x.mant x.exp x.text x.truth x.fault] W fun e w' => e = .returned (.tuple #[.bool false, .int .i64 0]) ∧ Ext W w' := fun W => by have := ht W; unfold bfV at this; rw [hb, hf] at this; exact this
          clear ht m1 m2 hf hb hxk hxo hat HX2 HPL hmf0 hbd
          go_wp2_with (go_at_call 86; (with_reducible refine (ht2 _).mono ?_); rintro e w' ⟨rfl, hb⟩; obtain ⟨ost, dt, rfl⟩ := hb.more; clear hb)
          exact ⟨⟨k + 1, ps, by omega, by go_num, by omega, M1, Lib.hid M2.out.symm, own_ext HO.out (by with_reducible repeat (first | exact Ext.refl _ | exact ext_d _ _ _ _ | exact ext_app _ _ _ _ _ | exact ext_app2 _ _ _ _ _ _ | exact ext_app3 _ _ _ _ _ _ _ | apply Ext.drew | apply Ext.alloc | apply Ext.more_)), by with_reducible repeat (first | exact Ext.refl _ | apply Ext.drew | apply Ext.alloc | apply Ext.more_)⟩, by simp [intOf]; omega⟩
      · have hmf : maskF l2 = tf := hmf0 hf
        obtain rfl : aloneO tf = X := by rw [← HX2.out, hmf, if_pos hf]
        have hf' : (tf != 0) = true := by simpa using hf
        have HB := Lib.hid (hbd.resolve_left hf)
        clear m1 m2 hf hxk hxo hat HX2 HPL hmf hmf0 hbd
        go_wp2_with (first | (go_at_call 86; (with_reducible refine (ht _).mono ?_); rintro e w' ⟨rfl, hb⟩; obtain ⟨ost, dt, rfl⟩ := hb.more; clear hb) | ((go_at_call 20; (with_reducible refine (rbad_res _ HB.out _).mono ?_); rintro e w' ⟨D, m, cc, rfl, hD, hb⟩; obtain ⟨os5, d5, rfl⟩ := hb.more; clear hb; have hDr := hD.rd); obtain ⟨osu, du, rfl⟩ := HU.out))
        exact bodyPost_ret (v := AV (aloneO tf).R (aloneO tf).C (.slice D m cc)) (by simp [results, Tryz.results42, go_sem]) rfl ⟨D, m, cc, rfl, ArrN.arr (base := w.heap.size) ⟨(by (try simp only [more_alloc, more_more] at hDr); (try simp only [more_alloc, more_more]); (try simp only [drew_more] at hDr); (try simp only [more_drew] at hDr); (try simp only [Array.append_assoc] at hDr); (try simp only [Array.append_assoc]); exact Rd.swap hDr (by first | (simp; done) | (simp; omega) | omega) (by first | (simp; done) | (simp; omega) | omega) (by first | (simp; done) | (simp; omega) | omega)), hD.len, hD.cap, hD.small, hD.ok⟩, by with_reducible repeat (first | exact Ext.refl _ | apply Ext.drew | apply Ext.alloc | apply Ext.more_), Or.inr (by (try simp only [more_alloc, more_more] at hDr); (try simp only [more_alloc, more_more]); (try simp only [drew_more] at hDr); (try simp only [more_drew] at hDr); (try simp only [Array.append_assoc] at hDr); (try simp only [Array.append_assoc]); exact Rd.swap hDr (by first | (simp; done) | (simp; omega) | omega) (by first | (simp; done) | (simp; omega) | omega) (by first | (simp; done) | (simp; omega) | omega))⟩
    · obtain rfl : k = n2 := by omega
      have hT : l2.take k = l2 := List.take_of_length_le (by omega)
      have hF0 := HF.out
      have hP0 := HP.out
      rw [hT] at hF0 hP0
      have HX3 := HX2.out
      rw [hF0, if_neg (by simp), ← hP0] at HX3
      have HX3 := Lib.hid HX3
      clear HX2 HF hT hF0
      obtain ⟨B1, cb1, rfl, hB1, hcb1⟩ := Rd.of_own HO.out
      have HB1 := Lib.hid (Rd.mono hB1 (Nat.zero_le _))
      have HLT := Lib.hid (fun i (hi : i ∈ ps) => by rw [hP0] at hi; exact maskP_lt hi)
      have HLE := Lib.hid (show ps.length ≤ l2.length by rw [hP0]; exact maskP_length _ _)
      clear hB1 HO HP hP0
      by_cases hps : ps = []
      · have l0 : ((ps.length : Int) == 0) = true := by rw [hps]; rfl
        have HX4 := HX3.out
        rw [if_pos hps] at HX4
        cases g with
        | true =>
          have hlt3 := given_lt H.out HG.out
          obtain ⟨R3, C3, l3, b3, off3, n3, cap3, b', off', x3, ha3, hbo, ⟨t0, t1, t2⟩, _, hc3, _, _, _, _, hb3, _, _, harr3, _⟩ := H.out.first (k := 2) hlt3
          simp only [Option.some.injEq, Addr.mk.injEq, and_true] at hbo
          obtain ⟨rfl, rfl⟩ := hbo
          simp only at t0 t1 t2
          have t3 := hx.cell_some t0
          have t4 := hx.cell_some t1
          have t5 := hx.cell_some t2
          have lt0 := lt_of_cell t3
          have hxr3 : NA.right ⟨R3, C3, l3⟩ := (H.out.all _ (List.mem_of_getElem? ha3)).right
          obtain rfl : (⟨R3, C3, l3⟩ : NA) = X := by rw [← HX4, if_pos rfl]; unfold argN; rw [ha3]
          have HA3w := Lib.hid harr3
          have HM := Lib.hid (List.mem_of_getElem? ha3)
          clear HX3 HX4 hps HLT HLE HPL ha3 harr3 hxr3
          go_wp2_with (go_at_call 78; (with_reducible refine (gv _ (H.out.ext (Ext.trans hx (by with_reducible repeat (first | exact Ext.refl _ | exact ext_d _ _ _ _ | exact ext_app _ _ _ _ _ | exact ext_app2 _ _ _ _ _ _ | exact ext_app3 _ _ _ _ _ _ _ | apply Ext.drew | apply Ext.alloc | apply Ext.more_))))).mono ?_); rintro e w' ⟨rfl, hb⟩; obtain ⟨osg, dg, rfl⟩ := hb.more; clear hb; obtain ⟨osu, du, rfl⟩ := HU.out)
          exact bodyPost_ret (v := AV R3 C3 (.slice (some ⟨b3, off3, none⟩) n3 cap3)) (by simp [results, Tryz.results42, go_sem]) rfl ⟨_, n3, cap3, rfl, HA3w.out.ext (by with_reducible repeat (first | exact Ext.refl _ | apply Ext.drew | apply Ext.alloc | apply Ext.more_)), by with_reducible repeat (first | exact Ext.refl _ | apply Ext.drew | apply Ext.alloc | apply Ext.more_), Or.inl ⟨_, HM.out, rfl⟩⟩
        | false =>
          obtain rfl : aloneO 9 = X := by rw [← HX4]; rfl
          clear HX3 HX4 hps HLT HLE HPL
          go_wp2_with (first | (go_at_call 78; (with_reducible refine (gv _ (H.out.ext (Ext.trans hx (by with_reducible repeat (first | exact Ext.refl _ | exact ext_d _ _ _ _ | exact ext_app _ _ _ _ _ | exact ext_app2 _ _ _ _ _ _ | exact ext_app3 _ _ _ _ _ _ _ | apply Ext.drew | apply Ext.alloc | apply Ext.more_))))).mono ?_); rintro e w' ⟨rfl, hb⟩; obtain ⟨osg, dg, rfl⟩ := hb.more; clear hb) | ((go_at_call 20; (with_reducible refine (rbad_res 9 (by omega) _).mono ?_); rintro e w' ⟨D, m, cc, rfl, hD, hb⟩; obtain ⟨os5, d5, rfl⟩ := hb.more; clear hb; have hDr := hD.rd); obtain ⟨osu, du, rfl⟩ := HU.out))
          exact bodyPost_ret (v := AV (aloneO 9).R (aloneO 9).C (.slice D m cc)) (by simp [results, Tryz.results42, go_sem]) rfl ⟨D, m, cc, rfl, ArrN.arr (base := w.heap.size) ⟨(by (try simp only [more_alloc, more_more] at hDr); (try simp only [more_alloc, more_more]); (try simp only [drew_more] at hDr); (try simp only [more_drew] at hDr); (try simp only [Array.append_assoc] at hDr); (try simp only [Array.append_assoc]); exact Rd.swap hDr (by first | (simp; done) | (simp; omega) | omega) (by first | (simp; done) | (simp; omega) | omega) (by first | (simp; done) | (simp; omega) | omega)), hD.len, hD.cap, hD.small, hD.ok⟩, by with_reducible repeat (first | exact Ext.refl _ | apply Ext.drew | apply Ext.alloc | apply Ext.more_), Or.inr (by (try simp only [more_alloc, more_more] at hDr); (try simp only [more_alloc, more_more]); (try simp only [drew_more] at hDr); (try simp only [more_drew] at hDr); (try simp only [Array.append_assoc] at hDr); (try simp only [Array.append_assoc]); exact Rd.swap hDr (by first | (simp; done) | (simp; omega) | omega) (by first | (simp; done) | (simp; omega) | omega) (by first | (simp; done) | (simp; omega) | omega))⟩
      · have hpos : 1 ≤ ps.length := by
          cases ps with
          | nil => exact absurd rfl hps
          | cons _ _ => simp
        have l0 : ((ps.length : Int) == 0) = false := by simp; omega
        have HX4 := HX3.out
        rw [if_neg hps] at HX4
        cases br with
        | true =>
          have hXe : rowsN ⟨R, C, l⟩ ps = X := by rw [← HX4]; rfl
          have hPl : PlOk ps R := ⟨hpos, by have h1 := HPL.out.1 rfl; unfold PlOkE at h1; have := HLE.out; omega, fun i hi => by have h1 := HPL.out.1 rfl; unfold PlOkE at h1; have := HLT.out i hi; omega⟩
          have hr1 := fun W (hW : ArrIn W (some ⟨b1, off1, none⟩) n1 cap1 l) hB => rrows_any R C l _ n1 cap1 ps B1 cb1 W hW hxr hB hcb1 hPl
          rw [hXe] at hr1
          have HR1 := Lib.hid hr1
          clear hXe hr1 HX3 HX4 hps HLT HLE HPL hPl hpos
          go_wp2_with (first | ((go_at_call 84; (with_reducible refine (HR1.out _ ((HA.out.ext hx).ext (by with_reducible repeat (first | exact Ext.refl _ | exact ext_d _ _ _ _ | exact ext_app _ _ _ _ _ | exact ext_app2 _ _ _ _ _ _ | exact ext_app3 _ _ _ _ _ _ _ | apply Ext.drew | apply Ext.alloc | apply Ext.more_))) (HB1.out.ext (by with_reducible repeat (first | exact Ext.refl _ | exact ext_d _ _ _ _ | exact ext_app _ _ _ _ _ | exact ext_app2 _ _ _ _ _ _ | exact ext_app3 _ _ _ _ _ _ _ | apply Ext.drew | apply Ext.alloc | apply Ext.more_)))).mono ?_); rintro e w' ⟨D, m, cc, rfl, hD, hb⟩; obtain ⟨os5, d5, rfl⟩ := hb.more; clear hb; have hDr := hD.rd); obtain ⟨osu, du, rfl⟩ := HU.out))
          exact bodyPost_ret (v := AV X.R X.C (.slice D m cc)) (by simp [results, Tryz.results42, go_sem]) rfl ⟨D, m, cc, rfl, ArrN.arr (base := w.heap.size) ⟨(by (try simp only [more_alloc, more_more] at hDr); (try simp only [more_alloc, more_more]); (try simp only [drew_more] at hDr); (try simp only [more_drew] at hDr); (try simp only [Array.append_assoc] at hDr); (try simp only [Array.append_assoc]); exact Rd.swap hDr (by first | (simp; done) | (simp; omega) | omega) (by first | (simp; done) | (simp; omega) | omega) (by first | (simp; done) | (simp; omega) | omega)), hD.len, hD.cap, hD.small, hD.ok⟩, by with_reducible repeat (first | exact Ext.refl _ | apply Ext.drew | apply Ext.alloc | apply Ext.more_), Or.inr (by (try simp only [more_alloc, more_more] at hDr); (try simp only [more_alloc, more_more]); (try simp only [drew_more] at hDr); (try simp only [more_drew] at hDr); (try simp only [Array.append_assoc] at hDr); (try simp only [Array.append_assoc]); exact Rd.swap hDr (by first | (simp; done) | (simp; omega) | omega) (by first | (simp; done) | (simp; omega) | omega) (by first | (simp; done) | (simp; omega) | omega))⟩
        | false =>
          have hXe : colsN ⟨R, C, l⟩ ps = X := by rw [← HX4]; rfl
          have hPl : PlOk ps C := ⟨hpos, by have h1 := HPL.out.2 rfl; unfold PlOkE at h1; have := HLE.out; omega, fun i hi => by have h1 := HPL.out.2 rfl; unfold PlOkE at h1; have := HLT.out i hi; omega⟩
          have htr := turn_rows hxr hPl.lt
          have hTr : (turnN ⟨R, C, l⟩).right := turn_right hxr
          have hYr : (rowsN (turnN ⟨R, C, l⟩) ps).right := rowsN_right hTr hPl.lt hPl.pos hPl.le
          have ht1 := fun W (hW : ArrIn W (some ⟨b1, off1, none⟩) n1 cap1 l) => refTurn_res ⟨R, C, l⟩ _ n1 cap1 W hW hxr
          have hr1 := fun W D m c (hW : ArrIn W D m c (turnN ⟨R, C, l⟩).l) hB => rrows_any (turnN ⟨R, C, l⟩).R (turnN ⟨R, C, l⟩).C (turnN ⟨R, C, l⟩).l D m c ps B1 cb1 W hW hTr hB hcb1 hPl
          have ht2 := fun W D m c (hW : ArrIn W D m c (rowsN (turnN ⟨R, C, l⟩) ps).l) => refTurn_res (rowsN (turnN ⟨R, C, l⟩) ps) D m c W hW hYr
          rw [htr, hXe] at ht2
          generalize turnN ⟨R, C, l⟩ = Y at *
          have hr1 : ∀ W D m c, ArrIn W D m c Y.l → Rd 0 W B1 (i6 ps) → Calls Tryz.prog 84 #[AV Y.R Y.C (.slice D m c), .slice B1 ps.length cb1] W fun e w' => ResA W (rowsN Y ps) e w' := fun W D m c h1 h2 => hr1 W D m c h1 h2
          generalize rowsN Y ps = V at *
          have T1 := Lib.hid ht1
          have T2 := Lib.hid ht2
          have HR1 := Lib.hid hr1
          clear hXe hr1 ht1 ht2 htr hTr hYr HX3 HX4 hps HLT HLE HPL hPl hpos
          go_wp2_with (first | (go_at_call 84; refine (HR1.out _ D1 m1 c1 (a1.ext (by with_reducible repeat (first | exact Ext.refl _ | exact ext_d _ _ _ _ | exact ext_app _ _ _ _ _ | exact ext_app2 _ _ _ _ _ _ | exact ext_app3 _ _ _ _ _ _ _ | apply Ext.drew | apply Ext.alloc | apply Ext.more_))) (HB1.out.ext (by with_reducible repeat (first | exact Ext.refl _ | exact ext_d _ _ _ _ | exact ext_app _ _ _ _ _ | exact ext_app2 _ _ _ _ _ _ | exact ext_app3 _ _ _ _ _ _ _ | apply Ext.drew | apply Ext.alloc | apply Ext.more_)))).mono ?_; rintro e w' ⟨D2, m2, c2, rfl, hD2, hb⟩; have a2 := hD2.arr; obtain ⟨os7, d7, rfl⟩ := hb.more; clear hb hD2; (try simp only [more_more, drew_more, more_drew, Array.append_assoc] at a2)) | (go_at_call 36; first | (refine (T2.out _ D2 m2 c2 (a2.ext (by with_reducible repeat (first | exact Ext.refl _ | exact ext_d _ _ _ _ | exact ext_app _ _ _ _ _ | exact ext_app2 _ _ _ _ _ _ | exact ext_app3 _ _ _ _ _ _ _ | apply Ext.drew | apply Ext.alloc | apply Ext.more_)))).mono ?_; rintro e w' ⟨D, m, cc, rfl, hD, hb⟩; obtain ⟨os5, d5, rfl⟩ := hb.more; clear hb; have hDr := hD.rd; clear a1 a2; obtain ⟨osu, du, rfl⟩ := HU.out) | (refine (T1.out _ ((HA.out.ext hx).ext (by with_reducible repeat (first | exact Ext.refl _ | exact ext_d _ _ _ _ | exact ext_app _ _ _ _ _ | exact ext_app2 _ _ _ _ _ _ | exact ext_app3 _ _ _ _ _ _ _ | apply Ext.drew | apply Ext.alloc | apply Ext.more_)))).mono ?_; rintro e w' ⟨D1, m1, c1, rfl, hD1, hb⟩; have a1 := hD1.arr; obtain ⟨os6, d6, rfl⟩ := hb.more; clear hb hD1; (try simp only [more_more, drew_more, more_drew, Array.append_assoc] at a1))))
          exact bodyPost_ret (v := AV X.R X.C (.slice D m cc)) (by simp [results, Tryz.results42, go_sem]) rfl ⟨D, m, cc, rfl, ArrN.arr (base := w.heap.size) ⟨(by (try simp only [more_alloc, more_more] at hDr); (try simp only [more_alloc, more_more]); (try simp only [drew_more] at hDr); (try simp only [more_drew] at hDr); (try simp only [Array.append_assoc] at hDr); (try simp only [Array.append_assoc]); exact Rd.swap hDr (by first | (simp; done) | (simp; omega) | omega) (by first | (simp; done) | (simp; omega) | omega) (by first | (simp; done) | (simp; omega) | omega)), hD.len, hD.cap, hD.small, hD.ok⟩, by with_reducible repeat (first | exact Ext.refl _ | apply Ext.drew | apply Ext.alloc | apply Ext.more_), Or.inr (by (try simp only [more_alloc, more_more] at hDr); (try simp only [more_alloc, more_more]); (try simp only [drew_more] at hDr); (try simp only [more_drew] at hDr); (try simp only [Array.append_assoc] at hDr); (try simp only [Array.append_assoc]); exact Rd.swap hDr (by first | (simp; done) | (simp; omega) | omega) (by first | (simp; done) | (simp; omega) | omega) (by first | (simp; done) | (simp; omega) | omega))⟩
end Go.Proofs.YtlfbdodokldkhaaGreatDoor
namespace Go.Proofs.YtlfbdodokldkhaaGreatDoor
open Go.RowKit NM
set_option maxHeartbeats 4000000 in
theorem rcall_filter (A : Option Addr) (n cap : Nat) (xs : List Ar) (w : World) (h : ArgsIn w A n cap xs) (h1 : 2 ≤ n) (h2 : n ≤ 3) : Calls Tryz.prog 24 #[.string ⟨#[70, 73, 76, 84, 69, 82]⟩, .slice A n cap] w (CallI w (filterO xs)) := by
  have hsm := h.small
  have hcap := h.cap
  have q1 : ¬ n < 2 := by omega
  have q2 : ¬ 3 < n := by omega
  have hst := fun W (hW : ArgsIn W A n cap xs) => rfilter_any A n cap xs W hW h1
  obtain ⟨R0, C0, l0, b1, off1, n1, cap1, b, off, x0, _, rfl, ⟨v0, v1, v2⟩, _, _, _, _, _, hbl, _, _, _, _, _⟩ := h.first (k := 0) (by omega)
  simp only [Nat.zero_mul, Nat.add_zero] at v0 v1 v2
  have H := Lib.hid h
  clear h
  generalize (filterO xs) = X at *
  go_enter Tryz.func24, Tryz.ntmps24
  go_wp2_with (go_at_call 32; (with_reducible refine (rcount_filter _).mono ?_); rintro e w' ⟨rfl, hb⟩; obtain ⟨os1, d1, rfl⟩ := hb.more; clear hb)
  go_loopw [8] (fun i wr => ∃ k : Nat, k ≤ n ∧ i = .int .i64 k ∧ Ext (more (w.alloc (Obj.cells #[.int .i64 0, .int .i64 0, .slice none 0 0] 30)) os1 d1) wr) (fun i _ => n - (intOf i).toNat)
  case atStart => exact ⟨0, Nat.zero_le _, rfl, Ext.refl _⟩
  case round =>
    obtain ⟨k, hk, rfl, hX⟩ := hrel
    obtain ⟨os, d, rfl⟩ := hX.more
    clear hX
    by_cases hlt : k < n
    · obtain ⟨a, b', off', ha, hbo, ⟨u0, u1, u2⟩, hok⟩ := H.out.at hlt
      simp only [Option.some.injEq, Addr.mk.injEq, and_true] at hbo
      obtain ⟨rfl, rfl⟩ := hbo
      have hra := fun W (hW : ArrIn W a.A a.n a.cap a.x.l) => refRightA_any a.x.R a.x.C a.A a.n a.cap a.x.l W hW
      rw [← rightA_eq _ _ _ hok.arr.ok, show rightA (a.x.R : Int) a.x.C a.x.l = true from hok.right] at hra
      have HOK := Lib.hid hok.arr
      clear hok hst
      go_wp2_with (go_at_call 14; refine (hra _ (HOK.out.ext (by repeat (first | (with_reducible (first | exact Ext.refl _ | exact ext_app3 _ _ _ _ _ _ _ | exact ext_app4 _ _ _ _ _ _ _ _ | exact ext_app _ _ _ _ _ | exact ext_app2 _ _ _ _ _ _)) | ((with_reducible refine ext_suffix ⟨_, ?_⟩); (try simp only [Array.append_assoc]); rfl) | (with_reducible (first | apply Ext.drew | apply Ext.alloc | apply Ext.more_)))))).mono ?_; rintro e w' ⟨rfl, hb⟩; obtain ⟨os', d', rfl⟩ := hb.more; clear hb)
      exact ⟨⟨k + 1, by omega, by go_num, by repeat (first | (with_reducible (first | exact Ext.refl _ | exact ext_app3 _ _ _ _ _ _ _ | exact ext_app4 _ _ _ _ _ _ _ _ | exact ext_app _ _ _ _ _ | exact ext_app2 _ _ _ _ _ _)) | ((with_reducible refine ext_suffix ⟨_, ?_⟩); (try simp only [Array.append_assoc]); rfl) | (with_reducible (first | apply Ext.drew | apply Ext.alloc | apply Ext.more_)))⟩, by simp [intOf]; omega⟩
    · go_wp2_with (go_at_call 42; (with_reducible refine (hst _ (H.out.ext (by repeat (first | (with_reducible (first | exact Ext.refl _ | exact ext_app3 _ _ _ _ _ _ _ | exact ext_app4 _ _ _ _ _ _ _ _ | exact ext_app _ _ _ _ _ | exact ext_app2 _ _ _ _ _ _)) | ((with_reducible refine ext_suffix ⟨_, ?_⟩); (try simp only [Array.append_assoc]); rfl) | (with_reducible (first | apply Ext.drew | apply Ext.alloc | apply Ext.more_)))))).mono ?_); rintro e w' ⟨D, m, cc, rfl, hN, hb, hD⟩; have hNl := hN.len; have hNc := hN.cap; have hNs := hN.small; have hNo := hN.ok; clear hN; obtain ⟨os5, d5, rfl⟩ := hb.more; clear hb)
      refine bodyPost_ret (v := .tuple #[AV X.R X.C (.slice D m cc), .bool true]) (by simp [results, Tryz.results24, go_sem]) rfl ⟨D, m, cc, rfl, ?_, by repeat (first | (with_reducible (first | exact Ext.refl _ | exact ext_app3 _ _ _ _ _ _ _ | exact ext_app4 _ _ _ _ _ _ _ _ | exact ext_app _ _ _ _ _ | exact ext_app2 _ _ _ _ _ _)) | ((with_reducible refine ext_suffix ⟨_, ?_⟩); (try simp only [Array.append_assoc]); rfl) | (with_reducible (first | apply Ext.drew | apply Ext.alloc | apply Ext.more_)))⟩
      rcases hD with ⟨a, ha, rfl⟩ | hDr
      · exact (H.out.all _ ha).arr.ext (by repeat (first | (with_reducible (first | exact Ext.refl _ | exact ext_app3 _ _ _ _ _ _ _ | exact ext_app4 _ _ _ _ _ _ _ _ | exact ext_app _ _ _ _ _ | exact ext_app2 _ _ _ _ _ _)) | ((with_reducible refine ext_suffix ⟨_, ?_⟩); (try simp only [Array.append_assoc]); rfl) | (with_reducible (first | apply Ext.drew | apply Ext.alloc | apply Ext.more_))))
      · exact ArrN.arr (base := w.heap.size) ⟨(by (try simp only [more_alloc, more_more] at hDr); (try simp only [more_alloc, more_more]); (try simp only [drew_more] at hDr); (try simp only [more_drew] at hDr); (try simp only [Array.append_assoc] at hDr); (try simp only [Array.append_assoc]); exact Rd.swap hDr (by first | (simp; done) | (simp; omega) | omega) (by first | (simp; done) | (simp; omega) | omega) (by first | (simp; done) | (simp; omega) | omega)), hNl, hNc, hNs, hNo⟩
end Go.Proofs.YtlfbdodokldkhaaGreatDoor
namespace Go.Proofs.YtlfbdodokldkhaaGreatDoor
open Go.RowKit NM
theorem pcall_filter (A : Option Addr) (n cap : Nat) (gs : List GA) (w : World) (htab : Tab w) (h : ArgsG w A n cap gs) : Calls Tryz.prog 15 #[.string ⟨#[70, 73, 76, 84, 69, 82]⟩, .slice A n cap] w (CallG w (callX 2 3 gs (filterO (arsOf gs)))) :=
  gcall_any ⟨#[70, 73, 76, 84, 69, 82]⟩ 2 3 49 (fun _ _ => #[]) (by decide) (fun _ _ => rfl) (fun args W => by go_simp) (by decide) (by decide) A n cap gs w h _ (fun hr h1 h2 p1 p2 W hW _ => gfilter_any A n cap _ W ((arsOf_in h hr).ext hW) h1)
theorem call_filter (A : Option Addr) (n cap : Nat) (gs : List GA) (w : World) (htab : Tab w) (h : ArgsG w A n cap gs) : Calls Tryz.prog 13 #[.string ⟨#[70, 73, 76, 84, 69, 82]⟩, .slice A n cap] w fun e w' => e = .returned (.bool true) ∧ Ext w w' :=
  call15_any ⟨#[70, 73, 76, 84, 69, 82]⟩ A n cap w (callX 2 3 gs (filterO (arsOf gs))) (fun W hW => pcall_filter A n cap gs W (htab.ext hW) (h.ext hW)) (fun W hW => rcall_x _ 2 3 (by decide) (by decide) (by decide) (fun W' => rcount_filter W') _ A n cap gs W (h.ext hW) (fun hi h1 h2 => rcall_filter A n cap _ W hi h1 h2))
set_option maxHeartbeats 4000000 in
theorem farrayFilter_any (A : Option Addr) (n cap : Nat) (gs : List GA) (w : World) (htab : Tab w) (h : ArgsG w A n cap gs) :
    Calls Tryz.prog 6 #[.slice A n cap] w fun e w' => e = .returned (.bool true) ∧ Ext w w' := by
  have HT := Lib.hid htab
  have H := Lib.hid h
  clear htab h
  go_enter Tryz.func6, Tryz.ntmps6
  go_wp2_with (first | (go_at_call 11; (with_reducible refine (awake15_any _ (HT.out.ext (by with_reducible repeat (first | exact Ext.refl _ | apply Ext.drew | apply Ext.alloc | apply Ext.more_)))).mono ?_); rintro e w' ⟨rfl, hb⟩; obtain ⟨osw, dw, rfl⟩ := hb.more; clear hb) | (go_at_call 12; (with_reducible refine (small15_any _ _ _ _ _ (H.out.ext (by with_reducible repeat (first | exact Ext.refl _ | apply Ext.drew | apply Ext.alloc | apply Ext.more_)))).mono ?_); rintro e w' ⟨s, rfl, hs, hb⟩; obtain ⟨oss, ds, rfl⟩ := hb.more; clear hb; rcases hs with rfl | rfl) | (go_at_call 13; (with_reducible refine (call_filter _ _ _ _ _ (HT.out.ext (by with_reducible repeat (first | exact Ext.refl _ | apply Ext.drew | apply Ext.alloc | apply Ext.more_))) (H.out.ext (by with_reducible repeat (first | exact Ext.refl _ | apply Ext.drew | apply Ext.alloc | apply Ext.more_)))).mono ?_); rintro e w' ⟨rfl, hb⟩; obtain ⟨os1, d1, rfl⟩ := hb.more; clear hb))
  all_goals
    go_ret
    exact ⟨rfl, by with_reducible repeat (first | exact Ext.refl _ | apply Ext.drew | apply Ext.alloc | apply Ext.more_)⟩
end Go.Proofs.YtlfbdodokldkhaaGreatDoor
