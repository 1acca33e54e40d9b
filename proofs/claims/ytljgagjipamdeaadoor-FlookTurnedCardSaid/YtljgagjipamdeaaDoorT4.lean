/- What the rows' proofs lean on: the contracts of the functions that they reach, and plain facts (part T4). -/
import Derived.WalkKit
import Derived.WalkLawsBesides
import Derived.WalkSpells
import Derived.Outline
import Derived.Below
import Derived.Deep.RegionHeld3
import Derived.Deep.DeepCutAuto
import Derived.Deep.AppendLies
import Derived.Maps.AppendAt
import Derived.Lib.Hide
import Derived.OrdersHeld
import Derived.Test.YtljgagjipamdeaaDoorProg
import Derived.Shelf.Small.Strs
import Derived.Shelf.Strconv.Itoa0
import Derived.Shelf.Strconv.Itoa1
import Derived.Shelf.LaysM
import Derived.Shelf.Strconv.Itoa2
import Derived.Shelf.Bits.Mul64
import Derived.Lib.ItoaMem
import Derived.Lib.OthersKept
import Derived.Deep.CutBlock
import Derived.Laws.Bits64b
import Derived.Lib.AppendZeros
import Derived.Lib.Bytealg
import Derived.Laws.RangeAny
import Derived.Maps.OwnSet
import Derived.Maps.Own
import Derived.Laws.EntriesVeiled
import Derived.Lib.ConvBytes
import Derived.Lib.SlBytesRow
import Derived.Lib.SmallJoins
import Derived.RegionTactic
import Derived.Test.YtljgagjipamdeaaDoorRows
import Derived.Test.YtljgagjipamdeaaDoorCards
import Derived.Test.YtljgagjipamdeaaDoorTie
import Derived.ProofKit
import Derived.LaidMore
import Derived.OpenShut
import Derived.ShutString
import Derived.ChangeOld
import Derived.Stop.Joined
import Derived.Deep.Slices
import Derived.SevenTiedAt
import Derived.Test.YtljgagjipamdeaaDoorT3
set_option linter.unusedSimpArgs false
set_option linter.unusedVariables false
set_option maxRecDepth 100000
namespace Go.Proofs.YtljgagjipamdeaaDoor
open Go.RowKit NM
/-- What INDEX tells of a row and a column. -/
def indexO (a : NA) (r c : Int × Int) : NA :=
  if r.2 ≠ 0 then aloneO r.2 else if c.2 ≠ 0 then aloneO c.2
  else if r.1 < 0 ∨ c.1 < 0 then aloneO 2
  else if (a.R : Int) < r.1 ∨ (a.C : Int) < c.1 then aloneO 3
  else partA a (r.1.toNat - 1) (c.1.toNat - 1) (if r.1 = 0 then a.R else 1) (if c.1 = 0 then a.C else 1)
set_option maxHeartbeats 4000000 in
theorem index3_any (A : Option Addr) (cap : Nat) (a p q : Ar) (u s : Val) (w : World) (h : ArgsIn w A 3 cap [a, p, q]) (hu : p.x.l[0]? = some u) (hs : q.x.l[0]? = some s) (hur : u.right) (hsr : s.right) :
    Calls Tryd.prog 23 #[.slice A 3 cap] w fun e w' => ResA w (indexO a.x (wholeO u) (wholeO s)) e w' := by
  obtain ⟨b, off, rfl, hbl, ⟨u0, u1, u2⟩, ⟨v0, v1, v2⟩, ⟨t0, t1, t2⟩, ha, hp, hq⟩ := args3 h
  have hcap := h.cap
  have hw1 := fun W (hW : ArrIn W p.A p.n p.cap p.x.l) => whole_any p.x.R p.x.C p.A p.n p.cap p.x.l W hW u hu hur _ rfl
  have hw2 := fun W (hW : ArrIn W q.A q.n q.cap q.x.l) => whole_any q.x.R q.x.C q.A q.n q.cap q.x.l W hW s hs hsr _ rfl
  generalize wholeO u = r at *
  generalize wholeO s = c at *
  obtain ⟨r, rf⟩ := r
  obtain ⟨c, cf⟩ := c
  have hrn := rightA_nat.1 ha.right
  have hR : a.x.R ≤ 4096 := Nat.le_trans (Nat.le_mul_of_pos_right _ hrn.2.1) hrn.2.2.1
  have hC : a.x.C ≤ 4096 := Nat.le_trans (Nat.le_mul_of_pos_left _ hrn.1) hrn.2.2.1
  have hpt := fun (row col rows cols : Nat) (g1 : 1 ≤ rows) (g2 : 1 ≤ cols) (g3 : row + rows ≤ a.x.R) (g4 : col + cols ≤ a.x.C) W (hW : ArrIn W a.A a.n a.cap a.x.l) => fpart_any a.x row col rows cols a.A a.n a.cap W hW ha.right g1 g2 g3 g4
  have harr := ha.arr
  have hpa := hp.arr
  have hqa := hq.arr
  have h1R : 1 ≤ a.x.R := hrn.1
  have h1C : 1 ≤ a.x.C := hrn.2.1
  clear h hu hs hur hsr ha hp hq hrn
  obtain ⟨⟨R, C, l⟩, A1, n1, cap1⟩ := a
  obtain ⟨⟨R2, C2, l2⟩, A2, n2, cap2⟩ := p
  obtain ⟨⟨R3, C3, l3⟩, A3, n3, cap3⟩ := q
  simp only at u0 u1 u2 v0 v1 v2 t0 t1 t2 hw1 hw2 hpt harr hpa hqa hR hC h1R h1C
  by_cases hrf : rf = 0
  · subst hrf
    by_cases hcf : cf = 0
    · subst hcf
      by_cases hneg : r < 0 ∨ c < 0
      · have hX : indexO ⟨R, C, l⟩ (r, 0) (c, 0) = aloneO 2 := by unfold indexO; simp [hneg]
        rw [hX]
        clear hX hpt
        by_cases hr : r < 0
        · have hc' : True := trivial
          clear hneg
          go_enter Tryd.func23, Tryd.ntmps23
          go_wp2_with (first | (go_at_call 34; (with_reducible refine (hw1 _ (hpa.ext (by with_reducible repeat (first | exact Ext.refl _ | apply Ext.drew | apply Ext.alloc | apply Ext.more_)))).mono ?_); rintro e w' ⟨rfl, hb⟩; obtain ⟨os1, d1, rfl⟩ := hb.more; clear hb) | (go_at_call 34; (with_reducible refine (hw2 _ (hqa.ext (by with_reducible repeat (first | exact Ext.refl _ | apply Ext.drew | apply Ext.alloc | apply Ext.more_)))).mono ?_); rintro e w' ⟨rfl, hb⟩; obtain ⟨os2, d2, rfl⟩ := hb.more; clear hb) | (go_at_call 18; (with_reducible refine (alone_any _ _).mono ?_); rintro e w' ⟨D, m, cc, rfl, hD, hb⟩; obtain ⟨os5, d5, rfl⟩ := hb.more; clear hb; have hDr := hD.rd) | (go_at_call 35; (with_reducible refine (hpt _ (harr.ext (by with_reducible repeat (first | exact Ext.refl _ | apply Ext.drew | apply Ext.alloc | apply Ext.more_)))).mono ?_); rintro e w' ⟨D, m, cc, rfl, hD, hb⟩; obtain ⟨os5, d5, rfl⟩ := hb.more; clear hb; have hDr := hD.rd))
          all_goals exact bodyPost_ret (v := AV (aloneO 2).R (aloneO 2).C (.slice D m cc)) (by simp [results, Tryd.results23, go_sem]) rfl ⟨D, m, cc, rfl, ⟨(by (try simp only [more_more] at hDr); (try simp only [drew_more] at hDr); (try simp only [more_drew] at hDr); (try simp only [Array.append_assoc] at hDr); exact Rd.swap hDr (by first | (simp; done) | (simp; omega) | omega) (by first | (simp; done) | (simp; omega) | omega) (by first | (simp; done) | (simp; omega) | omega)), hD.len, hD.cap, hD.small, hD.ok⟩, by with_reducible repeat (first | exact Ext.refl _ | apply Ext.drew | apply Ext.alloc | apply Ext.more_)⟩
        · have hc : c < 0 := by omega
          clear hneg
          go_enter Tryd.func23, Tryd.ntmps23
          go_wp2_with (first | (go_at_call 34; (with_reducible refine (hw1 _ (hpa.ext (by with_reducible repeat (first | exact Ext.refl _ | apply Ext.drew | apply Ext.alloc | apply Ext.more_)))).mono ?_); rintro e w' ⟨rfl, hb⟩; obtain ⟨os1, d1, rfl⟩ := hb.more; clear hb) | (go_at_call 34; (with_reducible refine (hw2 _ (hqa.ext (by with_reducible repeat (first | exact Ext.refl _ | apply Ext.drew | apply Ext.alloc | apply Ext.more_)))).mono ?_); rintro e w' ⟨rfl, hb⟩; obtain ⟨os2, d2, rfl⟩ := hb.more; clear hb) | (go_at_call 18; (with_reducible refine (alone_any _ _).mono ?_); rintro e w' ⟨D, m, cc, rfl, hD, hb⟩; obtain ⟨os5, d5, rfl⟩ := hb.more; clear hb; have hDr := hD.rd) | (go_at_call 35; (with_reducible refine (hpt _ (harr.ext (by with_reducible repeat (first | exact Ext.refl _ | apply Ext.drew | apply Ext.alloc | apply Ext.more_)))).mono ?_); rintro e w' ⟨D, m, cc, rfl, hD, hb⟩; obtain ⟨os5, d5, rfl⟩ := hb.more; clear hb; have hDr := hD.rd))
          all_goals exact bodyPost_ret (v := AV (aloneO 2).R (aloneO 2).C (.slice D m cc)) (by simp [results, Tryd.results23, go_sem]) rfl ⟨D, m, cc, rfl, ⟨(by (try simp only [more_more] at hDr); (try simp only [drew_more] at hDr); (try simp only [more_drew] at hDr); (try simp only [Array.append_assoc] at hDr); exact Rd.swap hDr (by first | (simp; done) | (simp; omega) | omega) (by first | (simp; done) | (simp; omega) | omega) (by first | (simp; done) | (simp; omega) | omega)), hD.len, hD.cap, hD.small, hD.ok⟩, by with_reducible repeat (first | exact Ext.refl _ | apply Ext.drew | apply Ext.alloc | apply Ext.more_)⟩
      · have hr : ¬ r < 0 := fun h => hneg (Or.inl h)
        have hc : ¬ c < 0 := fun h => hneg (Or.inr h)
        by_cases hgr : (R : Int) < r ∨ (C : Int) < c
        · have hX : indexO ⟨R, C, l⟩ (r, 0) (c, 0) = aloneO 3 := by unfold indexO; simp [hneg, hgr]
          rw [hX]
          clear hX hpt hneg
          by_cases hr2 : (R : Int) < r
          · clear hgr
            go_enter Tryd.func23, Tryd.ntmps23
            go_wp2_with (first | (go_at_call 34; (with_reducible refine (hw1 _ (hpa.ext (by with_reducible repeat (first | exact Ext.refl _ | apply Ext.drew | apply Ext.alloc | apply Ext.more_)))).mono ?_); rintro e w' ⟨rfl, hb⟩; obtain ⟨os1, d1, rfl⟩ := hb.more; clear hb) | (go_at_call 34; (with_reducible refine (hw2 _ (hqa.ext (by with_reducible repeat (first | exact Ext.refl _ | apply Ext.drew | apply Ext.alloc | apply Ext.more_)))).mono ?_); rintro e w' ⟨rfl, hb⟩; obtain ⟨os2, d2, rfl⟩ := hb.more; clear hb) | (go_at_call 18; (with_reducible refine (alone_any _ _).mono ?_); rintro e w' ⟨D, m, cc, rfl, hD, hb⟩; obtain ⟨os5, d5, rfl⟩ := hb.more; clear hb; have hDr := hD.rd) | (go_at_call 35; (with_reducible refine (hpt _ (harr.ext (by with_reducible repeat (first | exact Ext.refl _ | apply Ext.drew | apply Ext.alloc | apply Ext.more_)))).mono ?_); rintro e w' ⟨D, m, cc, rfl, hD, hb⟩; obtain ⟨os5, d5, rfl⟩ := hb.more; clear hb; have hDr := hD.rd))
            all_goals exact bodyPost_ret (v := AV (aloneO 3).R (aloneO 3).C (.slice D m cc)) (by simp [results, Tryd.results23, go_sem]) rfl ⟨D, m, cc, rfl, ⟨(by (try simp only [more_more] at hDr); (try simp only [drew_more] at hDr); (try simp only [more_drew] at hDr); (try simp only [Array.append_assoc] at hDr); exact Rd.swap hDr (by first | (simp; done) | (simp; omega) | omega) (by first | (simp; done) | (simp; omega) | omega) (by first | (simp; done) | (simp; omega) | omega)), hD.len, hD.cap, hD.small, hD.ok⟩, by with_reducible repeat (first | exact Ext.refl _ | apply Ext.drew | apply Ext.alloc | apply Ext.more_)⟩
          · have hc2 : (C : Int) < c := by omega
            clear hgr
            go_enter Tryd.func23, Tryd.ntmps23
            go_wp2_with (first | (go_at_call 34; (with_reducible refine (hw1 _ (hpa.ext (by with_reducible repeat (first | exact Ext.refl _ | apply Ext.drew | apply Ext.alloc | apply Ext.more_)))).mono ?_); rintro e w' ⟨rfl, hb⟩; obtain ⟨os1, d1, rfl⟩ := hb.more; clear hb) | (go_at_call 34; (with_reducible refine (hw2 _ (hqa.ext (by with_reducible repeat (first | exact Ext.refl _ | apply Ext.drew | apply Ext.alloc | apply Ext.more_)))).mono ?_); rintro e w' ⟨rfl, hb⟩; obtain ⟨os2, d2, rfl⟩ := hb.more; clear hb) | (go_at_call 18; (with_reducible refine (alone_any _ _).mono ?_); rintro e w' ⟨D, m, cc, rfl, hD, hb⟩; obtain ⟨os5, d5, rfl⟩ := hb.more; clear hb; have hDr := hD.rd) | (go_at_call 35; (with_reducible refine (hpt _ (harr.ext (by with_reducible repeat (first | exact Ext.refl _ | apply Ext.drew | apply Ext.alloc | apply Ext.more_)))).mono ?_); rintro e w' ⟨D, m, cc, rfl, hD, hb⟩; obtain ⟨os5, d5, rfl⟩ := hb.more; clear hb; have hDr := hD.rd))
            all_goals exact bodyPost_ret (v := AV (aloneO 3).R (aloneO 3).C (.slice D m cc)) (by simp [results, Tryd.results23, go_sem]) rfl ⟨D, m, cc, rfl, ⟨(by (try simp only [more_more] at hDr); (try simp only [drew_more] at hDr); (try simp only [more_drew] at hDr); (try simp only [Array.append_assoc] at hDr); exact Rd.swap hDr (by first | (simp; done) | (simp; omega) | omega) (by first | (simp; done) | (simp; omega) | omega) (by first | (simp; done) | (simp; omega) | omega)), hD.len, hD.cap, hD.small, hD.ok⟩, by with_reducible repeat (first | exact Ext.refl _ | apply Ext.drew | apply Ext.alloc | apply Ext.more_)⟩
        · have hr2 : ¬ (R : Int) < r := fun h => hgr (Or.inl h)
          have hc2 : ¬ (C : Int) < c := fun h => hgr (Or.inr h)
          have hX : indexO ⟨R, C, l⟩ (r, 0) (c, 0) = partA ⟨R, C, l⟩ (r.toNat - 1) (c.toNat - 1) (if r = 0 then R else 1) (if c = 0 then C else 1) := by unfold indexO; simp [hneg, hgr]
          rw [hX]
          clear hX hneg hgr
          by_cases hr0 : r = 0
          · subst hr0
            by_cases hc0 : c = 0
            · subst hc0
              have hpt := hpt 0 0 R C h1R h1C (by omega) (by omega)
              simp only [if_true, show (0 : Int).toNat - 1 = 0 from rfl]
              generalize partA ⟨R, C, l⟩ 0 0 R C = X at *
              simp only [show ((0 : Nat) : Int) = 0 from rfl] at hpt
              clear hr hc hr2 hc2
              go_enter Tryd.func23, Tryd.ntmps23
              go_upto_region 18 with (first | (go_at_call 34; (with_reducible refine (hw1 _ (hpa.ext (by with_reducible repeat (first | exact Ext.refl _ | apply Ext.drew | apply Ext.alloc | apply Ext.more_)))).mono ?_); rintro e w' ⟨rfl, hb⟩; obtain ⟨os1, d1, rfl⟩ := hb.more; clear hb) | (go_at_call 34; (with_reducible refine (hw2 _ (hqa.ext (by with_reducible repeat (first | exact Ext.refl _ | apply Ext.drew | apply Ext.alloc | apply Ext.more_)))).mono ?_); rintro e w' ⟨rfl, hb⟩; obtain ⟨os2, d2, rfl⟩ := hb.more; clear hb) | (go_at_call 18; (with_reducible refine (alone_any _ _).mono ?_); rintro e w' ⟨D, m, cc, rfl, hD, hb⟩; obtain ⟨os5, d5, rfl⟩ := hb.more; clear hb; have hDr := hD.rd) | (go_at_call 35; (with_reducible refine (hpt _ (harr.ext (by with_reducible repeat (first | exact Ext.refl _ | apply Ext.drew | apply Ext.alloc | apply Ext.more_)))).mono ?_); rintro e w' ⟨D, m, cc, rfl, hD, hb⟩; obtain ⟨os5, d5, rfl⟩ := hb.more; clear hb; have hDr := hD.rd))
              go_region
              all_goals
                go_upto_region 21 with (first | (go_at_call 34; (with_reducible refine (hw1 _ (hpa.ext (by with_reducible repeat (first | exact Ext.refl _ | apply Ext.drew | apply Ext.alloc | apply Ext.more_)))).mono ?_); rintro e w' ⟨rfl, hb⟩; obtain ⟨os1, d1, rfl⟩ := hb.more; clear hb) | (go_at_call 34; (with_reducible refine (hw2 _ (hqa.ext (by with_reducible repeat (first | exact Ext.refl _ | apply Ext.drew | apply Ext.alloc | apply Ext.more_)))).mono ?_); rintro e w' ⟨rfl, hb⟩; obtain ⟨os2, d2, rfl⟩ := hb.more; clear hb) | (go_at_call 18; (with_reducible refine (alone_any _ _).mono ?_); rintro e w' ⟨D, m, cc, rfl, hD, hb⟩; obtain ⟨os5, d5, rfl⟩ := hb.more; clear hb; have hDr := hD.rd) | (go_at_call 35; (with_reducible refine (hpt _ (harr.ext (by with_reducible repeat (first | exact Ext.refl _ | apply Ext.drew | apply Ext.alloc | apply Ext.more_)))).mono ?_); rintro e w' ⟨D, m, cc, rfl, hD, hb⟩; obtain ⟨os5, d5, rfl⟩ := hb.more; clear hb; have hDr := hD.rd))
                go_region
                all_goals
                  go_wp2_with (first | (go_at_call 34; (with_reducible refine (hw1 _ (hpa.ext (by with_reducible repeat (first | exact Ext.refl _ | apply Ext.drew | apply Ext.alloc | apply Ext.more_)))).mono ?_); rintro e w' ⟨rfl, hb⟩; obtain ⟨os1, d1, rfl⟩ := hb.more; clear hb) | (go_at_call 34; (with_reducible refine (hw2 _ (hqa.ext (by with_reducible repeat (first | exact Ext.refl _ | apply Ext.drew | apply Ext.alloc | apply Ext.more_)))).mono ?_); rintro e w' ⟨rfl, hb⟩; obtain ⟨os2, d2, rfl⟩ := hb.more; clear hb) | (go_at_call 18; (with_reducible refine (alone_any _ _).mono ?_); rintro e w' ⟨D, m, cc, rfl, hD, hb⟩; obtain ⟨os5, d5, rfl⟩ := hb.more; clear hb; have hDr := hD.rd) | (go_at_call 35; (with_reducible refine (hpt _ (harr.ext (by with_reducible repeat (first | exact Ext.refl _ | apply Ext.drew | apply Ext.alloc | apply Ext.more_)))).mono ?_); rintro e w' ⟨D, m, cc, rfl, hD, hb⟩; obtain ⟨os5, d5, rfl⟩ := hb.more; clear hb; have hDr := hD.rd))
                  exact bodyPost_ret (v := AV X.R X.C (.slice D m cc)) (by simp [results, Tryd.results23, go_sem]) rfl ⟨D, m, cc, rfl, ⟨(by (try simp only [more_more] at hDr); (try simp only [drew_more] at hDr); (try simp only [more_drew] at hDr); (try simp only [Array.append_assoc] at hDr); exact Rd.swap hDr (by first | (simp; done) | (simp; omega) | omega) (by first | (simp; done) | (simp; omega) | omega) (by first | (simp; done) | (simp; omega) | omega)), hD.len, hD.cap, hD.small, hD.ok⟩, by with_reducible repeat (first | exact Ext.refl _ | apply Ext.drew | apply Ext.alloc | apply Ext.more_)⟩
            · obtain ⟨j, rfl⟩ : ∃ j : Nat, c = (j : Int) + 1 := ⟨c.toNat - 1, by omega⟩
              have hpt := hpt 0 j R 1 h1R (by omega) (by omega) (by omega)
              rw [if_pos rfl, if_neg hc0, show ((j : Int) + 1).toNat - 1 = j by omega, show (0 : Int).toNat - 1 = 0 from rfl]
              generalize partA ⟨R, C, l⟩ 0 j R 1 = X at *
              simp only [show ((0 : Nat) : Int) = 0 from rfl, show ((1 : Nat) : Int) = 1 from rfl] at hpt
              have hc0' : ((j : Int) + 1 == 0) = false := by simpa using hc0
              have hw9 : IntKind.i64.wrap (j : Int) = (j : Int) := by rw [IntKind.wrap_i64]; omega
              clear hr hc0 hr2
              go_enter Tryd.func23, Tryd.ntmps23
              go_upto_region 18 with (first | (go_at_call 34; (with_reducible refine (hw1 _ (hpa.ext (by with_reducible repeat (first | exact Ext.refl _ | apply Ext.drew | apply Ext.alloc | apply Ext.more_)))).mono ?_); rintro e w' ⟨rfl, hb⟩; obtain ⟨os1, d1, rfl⟩ := hb.more; clear hb) | (go_at_call 34; (with_reducible refine (hw2 _ (hqa.ext (by with_reducible repeat (first | exact Ext.refl _ | apply Ext.drew | apply Ext.alloc | apply Ext.more_)))).mono ?_); rintro e w' ⟨rfl, hb⟩; obtain ⟨os2, d2, rfl⟩ := hb.more; clear hb) | (go_at_call 18; (with_reducible refine (alone_any _ _).mono ?_); rintro e w' ⟨D, m, cc, rfl, hD, hb⟩; obtain ⟨os5, d5, rfl⟩ := hb.more; clear hb; have hDr := hD.rd) | (go_at_call 35; (with_reducible refine (hpt _ (harr.ext (by with_reducible repeat (first | exact Ext.refl _ | apply Ext.drew | apply Ext.alloc | apply Ext.more_)))).mono ?_); rintro e w' ⟨D, m, cc, rfl, hD, hb⟩; obtain ⟨os5, d5, rfl⟩ := hb.more; clear hb; have hDr := hD.rd))
              go_region
              all_goals
                go_wp2_with (first | (go_at_call 34; (with_reducible refine (hw1 _ (hpa.ext (by with_reducible repeat (first | exact Ext.refl _ | apply Ext.drew | apply Ext.alloc | apply Ext.more_)))).mono ?_); rintro e w' ⟨rfl, hb⟩; obtain ⟨os1, d1, rfl⟩ := hb.more; clear hb) | (go_at_call 34; (with_reducible refine (hw2 _ (hqa.ext (by with_reducible repeat (first | exact Ext.refl _ | apply Ext.drew | apply Ext.alloc | apply Ext.more_)))).mono ?_); rintro e w' ⟨rfl, hb⟩; obtain ⟨os2, d2, rfl⟩ := hb.more; clear hb) | (go_at_call 18; (with_reducible refine (alone_any _ _).mono ?_); rintro e w' ⟨D, m, cc, rfl, hD, hb⟩; obtain ⟨os5, d5, rfl⟩ := hb.more; clear hb; have hDr := hD.rd) | (go_at_call 35; (with_reducible refine (hpt _ (harr.ext (by with_reducible repeat (first | exact Ext.refl _ | apply Ext.drew | apply Ext.alloc | apply Ext.more_)))).mono ?_); rintro e w' ⟨D, m, cc, rfl, hD, hb⟩; obtain ⟨os5, d5, rfl⟩ := hb.more; clear hb; have hDr := hD.rd))
                exact bodyPost_ret (v := AV X.R X.C (.slice D m cc)) (by simp [results, Tryd.results23, go_sem]) rfl ⟨D, m, cc, rfl, ⟨(by (try simp only [more_more] at hDr); (try simp only [drew_more] at hDr); (try simp only [more_drew] at hDr); (try simp only [Array.append_assoc] at hDr); exact Rd.swap hDr (by first | (simp; done) | (simp; omega) | omega) (by first | (simp; done) | (simp; omega) | omega) (by first | (simp; done) | (simp; omega) | omega)), hD.len, hD.cap, hD.small, hD.ok⟩, by with_reducible repeat (first | exact Ext.refl _ | apply Ext.drew | apply Ext.alloc | apply Ext.more_)⟩
          · obtain ⟨k, rfl⟩ : ∃ k : Nat, r = (k : Int) + 1 := ⟨r.toNat - 1, by omega⟩
            have hr0' : ((k : Int) + 1 == 0) = false := by simpa using hr0
            have hw8 : IntKind.i64.wrap (k : Int) = (k : Int) := by rw [IntKind.wrap_i64]; omega
            by_cases hc0 : c = 0
            · subst hc0
              have hpt := hpt k 0 1 C (by omega) h1C (by omega) (by omega)
              rw [if_neg hr0, if_pos rfl, show ((k : Int) + 1).toNat - 1 = k by omega, show (0 : Int).toNat - 1 = 0 from rfl]
              generalize partA ⟨R, C, l⟩ k 0 1 C = X at *
              simp only [show ((0 : Nat) : Int) = 0 from rfl, show ((1 : Nat) : Int) = 1 from rfl] at hpt
              clear hc hr0 hc2
              go_enter Tryd.func23, Tryd.ntmps23
              go_upto_region 21 with (first | (go_at_call 34; (with_reducible refine (hw1 _ (hpa.ext (by with_reducible repeat (first | exact Ext.refl _ | apply Ext.drew | apply Ext.alloc | apply Ext.more_)))).mono ?_); rintro e w' ⟨rfl, hb⟩; obtain ⟨os1, d1, rfl⟩ := hb.more; clear hb) | (go_at_call 34; (with_reducible refine (hw2 _ (hqa.ext (by with_reducible repeat (first | exact Ext.refl _ | apply Ext.drew | apply Ext.alloc | apply Ext.more_)))).mono ?_); rintro e w' ⟨rfl, hb⟩; obtain ⟨os2, d2, rfl⟩ := hb.more; clear hb) | (go_at_call 18; (with_reducible refine (alone_any _ _).mono ?_); rintro e w' ⟨D, m, cc, rfl, hD, hb⟩; obtain ⟨os5, d5, rfl⟩ := hb.more; clear hb; have hDr := hD.rd) | (go_at_call 35; (with_reducible refine (hpt _ (harr.ext (by with_reducible repeat (first | exact Ext.refl _ | apply Ext.drew | apply Ext.alloc | apply Ext.more_)))).mono ?_); rintro e w' ⟨D, m, cc, rfl, hD, hb⟩; obtain ⟨os5, d5, rfl⟩ := hb.more; clear hb; have hDr := hD.rd))
              go_region
              all_goals
                go_wp2_with (first | (go_at_call 34; (with_reducible refine (hw1 _ (hpa.ext (by with_reducible repeat (first | exact Ext.refl _ | apply Ext.drew | apply Ext.alloc | apply Ext.more_)))).mono ?_); rintro e w' ⟨rfl, hb⟩; obtain ⟨os1, d1, rfl⟩ := hb.more; clear hb) | (go_at_call 34; (with_reducible refine (hw2 _ (hqa.ext (by with_reducible repeat (first | exact Ext.refl _ | apply Ext.drew | apply Ext.alloc | apply Ext.more_)))).mono ?_); rintro e w' ⟨rfl, hb⟩; obtain ⟨os2, d2, rfl⟩ := hb.more; clear hb) | (go_at_call 18; (with_reducible refine (alone_any _ _).mono ?_); rintro e w' ⟨D, m, cc, rfl, hD, hb⟩; obtain ⟨os5, d5, rfl⟩ := hb.more; clear hb; have hDr := hD.rd) | (go_at_call 35; (with_reducible refine (hpt _ (harr.ext (by with_reducible repeat (first | exact Ext.refl _ | apply Ext.drew | apply Ext.alloc | apply Ext.more_)))).mono ?_); rintro e w' ⟨D, m, cc, rfl, hD, hb⟩; obtain ⟨os5, d5, rfl⟩ := hb.more; clear hb; have hDr := hD.rd))
                exact bodyPost_ret (v := AV X.R X.C (.slice D m cc)) (by simp [results, Tryd.results23, go_sem]) rfl ⟨D, m, cc, rfl, ⟨(by (try simp only [more_more] at hDr); (try simp only [drew_more] at hDr); (try simp only [more_drew] at hDr); (try simp only [Array.append_assoc] at hDr); exact Rd.swap hDr (by first | (simp; done) | (simp; omega) | omega) (by first | (simp; done) | (simp; omega) | omega) (by first | (simp; done) | (simp; omega) | omega)), hD.len, hD.cap, hD.small, hD.ok⟩, by with_reducible repeat (first | exact Ext.refl _ | apply Ext.drew | apply Ext.alloc | apply Ext.more_)⟩
            · obtain ⟨j, rfl⟩ : ∃ j : Nat, c = (j : Int) + 1 := ⟨c.toNat - 1, by omega⟩
              have hpt := hpt k j 1 1 (by omega) (by omega) (by omega) (by omega)
              rw [if_neg hr0, if_neg hc0, show ((k : Int) + 1).toNat - 1 = k by omega, show ((j : Int) + 1).toNat - 1 = j by omega]
              generalize partA ⟨R, C, l⟩ k j 1 1 = X at *
              simp only [show ((1 : Nat) : Int) = 1 from rfl] at hpt
              have hc0' : ((j : Int) + 1 == 0) = false := by simpa using hc0
              have hw9 : IntKind.i64.wrap (j : Int) = (j : Int) := by rw [IntKind.wrap_i64]; omega
              clear hr0 hc0
              go_enter Tryd.func23, Tryd.ntmps23
              go_wp2_with (first | (go_at_call 34; (with_reducible refine (hw1 _ (hpa.ext (by with_reducible repeat (first | exact Ext.refl _ | apply Ext.drew | apply Ext.alloc | apply Ext.more_)))).mono ?_); rintro e w' ⟨rfl, hb⟩; obtain ⟨os1, d1, rfl⟩ := hb.more; clear hb) | (go_at_call 34; (with_reducible refine (hw2 _ (hqa.ext (by with_reducible repeat (first | exact Ext.refl _ | apply Ext.drew | apply Ext.alloc | apply Ext.more_)))).mono ?_); rintro e w' ⟨rfl, hb⟩; obtain ⟨os2, d2, rfl⟩ := hb.more; clear hb) | (go_at_call 18; (with_reducible refine (alone_any _ _).mono ?_); rintro e w' ⟨D, m, cc, rfl, hD, hb⟩; obtain ⟨os5, d5, rfl⟩ := hb.more; clear hb; have hDr := hD.rd) | (go_at_call 35; (with_reducible refine (hpt _ (harr.ext (by with_reducible repeat (first | exact Ext.refl _ | apply Ext.drew | apply Ext.alloc | apply Ext.more_)))).mono ?_); rintro e w' ⟨D, m, cc, rfl, hD, hb⟩; obtain ⟨os5, d5, rfl⟩ := hb.more; clear hb; have hDr := hD.rd))
              all_goals exact bodyPost_ret (v := AV X.R X.C (.slice D m cc)) (by simp [results, Tryd.results23, go_sem]) rfl ⟨D, m, cc, rfl, ⟨(by (try simp only [more_more] at hDr); (try simp only [drew_more] at hDr); (try simp only [more_drew] at hDr); (try simp only [Array.append_assoc] at hDr); exact Rd.swap hDr (by first | (simp; done) | (simp; omega) | omega) (by first | (simp; done) | (simp; omega) | omega) (by first | (simp; done) | (simp; omega) | omega)), hD.len, hD.cap, hD.small, hD.ok⟩, by with_reducible repeat (first | exact Ext.refl _ | apply Ext.drew | apply Ext.alloc | apply Ext.more_)⟩
    · have hX : indexO ⟨R, C, l⟩ (r, 0) (c, cf) = aloneO cf := by unfold indexO; simp [hcf]
      rw [hX]
      have hcf' : (cf != 0) = true := by simpa using hcf
      clear hX hpt hcf
      go_enter Tryd.func23, Tryd.ntmps23
      go_wp2_with (first | (go_at_call 34; (with_reducible refine (hw1 _ (hpa.ext (by with_reducible repeat (first | exact Ext.refl _ | apply Ext.drew | apply Ext.alloc | apply Ext.more_)))).mono ?_); rintro e w' ⟨rfl, hb⟩; obtain ⟨os1, d1, rfl⟩ := hb.more; clear hb) | (go_at_call 34; (with_reducible refine (hw2 _ (hqa.ext (by with_reducible repeat (first | exact Ext.refl _ | apply Ext.drew | apply Ext.alloc | apply Ext.more_)))).mono ?_); rintro e w' ⟨rfl, hb⟩; obtain ⟨os2, d2, rfl⟩ := hb.more; clear hb) | (go_at_call 18; (with_reducible refine (alone_any _ _).mono ?_); rintro e w' ⟨D, m, cc, rfl, hD, hb⟩; obtain ⟨os5, d5, rfl⟩ := hb.more; clear hb; have hDr := hD.rd) | (go_at_call 35; (with_reducible refine (hpt _ (harr.ext (by with_reducible repeat (first | exact Ext.refl _ | apply Ext.drew | apply Ext.alloc | apply Ext.more_)))).mono ?_); rintro e w' ⟨D, m, cc, rfl, hD, hb⟩; obtain ⟨os5, d5, rfl⟩ := hb.more; clear hb; have hDr := hD.rd))
      all_goals exact bodyPost_ret (v := AV (aloneO cf).R (aloneO cf).C (.slice D m cc)) (by simp [results, Tryd.results23, go_sem]) rfl ⟨D, m, cc, rfl, ⟨(by (try simp only [more_more] at hDr); (try simp only [drew_more] at hDr); (try simp only [more_drew] at hDr); (try simp only [Array.append_assoc] at hDr); exact Rd.swap hDr (by first | (simp; done) | (simp; omega) | omega) (by first | (simp; done) | (simp; omega) | omega) (by first | (simp; done) | (simp; omega) | omega)), hD.len, hD.cap, hD.small, hD.ok⟩, by with_reducible repeat (first | exact Ext.refl _ | apply Ext.drew | apply Ext.alloc | apply Ext.more_)⟩
  · have hX : indexO ⟨R, C, l⟩ (r, rf) (c, cf) = aloneO rf := by unfold indexO; simp [hrf]
    rw [hX]
    have hrf' : (rf != 0) = true := by simpa using hrf
    clear hX hpt hrf
    go_enter Tryd.func23, Tryd.ntmps23
    go_wp2_with (first | (go_at_call 34; (with_reducible refine (hw1 _ (hpa.ext (by with_reducible repeat (first | exact Ext.refl _ | apply Ext.drew | apply Ext.alloc | apply Ext.more_)))).mono ?_); rintro e w' ⟨rfl, hb⟩; obtain ⟨os1, d1, rfl⟩ := hb.more; clear hb) | (go_at_call 34; (with_reducible refine (hw2 _ (hqa.ext (by with_reducible repeat (first | exact Ext.refl _ | apply Ext.drew | apply Ext.alloc | apply Ext.more_)))).mono ?_); rintro e w' ⟨rfl, hb⟩; obtain ⟨os2, d2, rfl⟩ := hb.more; clear hb) | (go_at_call 18; (with_reducible refine (alone_any _ _).mono ?_); rintro e w' ⟨D, m, cc, rfl, hD, hb⟩; obtain ⟨os5, d5, rfl⟩ := hb.more; clear hb; have hDr := hD.rd) | (go_at_call 35; (with_reducible refine (hpt _ (harr.ext (by with_reducible repeat (first | exact Ext.refl _ | apply Ext.drew | apply Ext.alloc | apply Ext.more_)))).mono ?_); rintro e w' ⟨D, m, cc, rfl, hD, hb⟩; obtain ⟨os5, d5, rfl⟩ := hb.more; clear hb; have hDr := hD.rd))
    all_goals exact bodyPost_ret (v := AV (aloneO rf).R (aloneO rf).C (.slice D m cc)) (by simp [results, Tryd.results23, go_sem]) rfl ⟨D, m, cc, rfl, ⟨(by (try simp only [more_more] at hDr); (try simp only [drew_more] at hDr); (try simp only [more_drew] at hDr); (try simp only [Array.append_assoc] at hDr); exact Rd.swap hDr (by first | (simp; done) | (simp; omega) | omega) (by first | (simp; done) | (simp; omega) | omega) (by first | (simp; done) | (simp; omega) | omega)), hD.len, hD.cap, hD.small, hD.ok⟩, by with_reducible repeat (first | exact Ext.refl _ | apply Ext.drew | apply Ext.alloc | apply Ext.more_)⟩
end Go.Proofs.YtljgagjipamdeaaDoor
namespace Go.Proofs.YtljgagjipamdeaaDoor
open Go.RowKit NM
def greatB (r c : Int) (n : Nat) : Bool := decide ((60 : Int) < n) || decide (100000 < r) || decide (100000 < c)
set_option maxHeartbeats 400000 in
theorem great_any (r c : Int) (A : Option Addr) (n cap : Nat) (w : World) :
    Calls Tryd.prog 14 #[AV r c (.slice A n cap)] w fun e w' => e = .returned (.bool (greatB r c n)) ∧ Ext w w' := by
  unfold greatB
  go_enter Tryd.func14, Tryd.ntmps14
  go_upto_region 1 with (fail)
  refine wp_region_lit ?_
  iterate 5 ((refine wpL_read (v := ?_) rfl ?_ ?_; rotate_left 1; (go_simp; first | done | rfl)); try simp only [Act.put, zqA, zqB, zqC])
  iterate 3 ((refine wpL_gread (v := ?_) (c := ?_) rfl rfl rfl ?_ (fun hc => ?_) ?_; rotate_left 2; (first | exact gc_t _ | exact gc_f _ | exact gc_gt _ _ | exact gc_gf _ _); ((try simp only [gv_of hc]); (try (have hc1 := and_l hc; (try simp only [gv_of hc1]); (try (have hc2 := and_l hc1; (try simp only [gv_of hc2]))))); go_simp; first | done | rfl)); try simp only [Act.put, zqA, zqB, zqC])
  first | (refine wpL_pick_and rfl rfl rfl rfl rfl ?_) | (refine wpL_pick_or rfl rfl rfl rfl rfl ?_)
  try simp only [Act.put, zqA, zqB, zqC]
  (refine wpL_read (v := ?_) rfl ?_ ?_; rotate_left 1; (go_simp; first | done | rfl))
  try simp only [Act.put, zqA, zqB, zqC]
  iterate 3 ((refine wpL_gread (v := ?_) (c := ?_) rfl rfl rfl ?_ (fun hc => ?_) ?_; rotate_left 2; (first | exact gc_t _ | exact gc_f _ | exact gc_gt _ _ | exact gc_gf _ _); ((try simp only [gv_of hc]); (try (have hc1 := and_l hc; (try simp only [gv_of hc1]); (try (have hc2 := and_l hc1; (try simp only [gv_of hc2]))))); go_simp; first | done | rfl)); try simp only [Act.put, zqA, zqB, zqC])
  first | (refine wpL_pick_and rfl rfl rfl rfl rfl ?_) | (refine wpL_pick_or rfl rfl rfl rfl rfl ?_)
  try simp only [Act.put, zqA, zqB, zqC]
  (refine wpL_read (v := ?_) rfl ?_ ?_; rotate_left 1; (go_simp; first | done | rfl))
  try simp only [Act.put, zqA, zqB, zqC]
  refine wpList_nil ?_
  try go_simp
  go_wp2
  go_ret
  exact ⟨rfl, by with_reducible repeat (first | exact Ext.refl _ | apply Ext.drew | apply Ext.alloc | apply Ext.more_)⟩
def great1B (r c : Int) (n : Nat) : Bool := greatB r c n || decide ((200 : Int) < n)
set_option maxHeartbeats 1000000 in
/-- Great of one argument. -/
theorem great1_any (r c : Int) (A : Option Addr) (n cap : Nat) (b : Nat) (w : World) (hb : w.heap[b]? = some (.cells #[.int .i64 r, .int .i64 c, .slice A n cap] 24)) (hn : n ≤ 9223372036854775807) :
    Calls Tryd.prog 5 #[.slice (some ⟨b, 0, none⟩) 1 1] w fun e w' => e = .returned (.bool (great1B r c n)) ∧ Ext w w' := by
  have hbl := lt_of_block hb
  have c0 : w.cell? ⟨b, 0, none⟩ = some (.int .i64 r) := cell_of_row _ _ 0 _ _ _ hb
  have c1 : w.cell? ⟨b, 1, none⟩ = some (.int .i64 c) := cell_of_row _ _ 1 _ _ _ hb
  have c2 : w.cell? ⟨b, 2, none⟩ = some (.slice A n cap) := cell_of_row _ _ 2 _ _ _ hb
  have hg := fun W => great_any r c A n cap W
  have hwr : IntKind.i64.wrap (n : Int) = (n : Int) := by rw [IntKind.wrap_i64]; omega
  clear hb
  unfold great1B
  cases hgb : greatB r c n with
  | true =>
    rw [hgb] at hg
    clear hgb
    go_enter Tryd.func5, Tryd.ntmps5
    go_wp2_with fail
    refine wp_loop_rounds 1 ?_
    rw [rounds_succ]
    go_wp2_with (go_at_call 14; (with_reducible refine (hg _).mono ?_); rintro e w' ⟨rfl, hb⟩; obtain ⟨os, d, rfl⟩ := hb.more; clear hb)
    go_ret
    exact ⟨by simp, by with_reducible repeat (first | exact Ext.refl _ | apply Ext.drew | apply Ext.alloc | apply Ext.more_)⟩
  | false =>
    rw [hgb] at hg
    clear hgb
    go_enter Tryd.func5, Tryd.ntmps5
    go_wp2_with fail
    refine wp_loop_rounds 2 ?_
    rw [rounds_succ]
    go_wp2_with (go_at_call 14; (with_reducible refine (hg _).mono ?_); rintro e w' ⟨rfl, hb⟩; obtain ⟨os, d, rfl⟩ := hb.more; clear hb)
    rw [rounds_succ]
    go_wp2_with fail
    all_goals
      go_ret
      exact ⟨by simp, by with_reducible repeat (first | exact Ext.refl _ | apply Ext.drew | apply Ext.alloc | apply Ext.more_)⟩
end Go.Proofs.YtljgagjipamdeaaDoor
namespace Go.Proofs.YtljgagjipamdeaaDoor
open Go.RowKit NM
theorem heap_alloc_below {w : World} {o : Obj} {p : Nat} (hp : p < w.heap.size) : (w.alloc o).heap[p]? = w.heap[p]? := ((Ext.refl w).alloc o).block hp
theorem heap_more_below {w : World} {os : Array Obj} {d p : Nat} (hp : p < w.heap.size) : (more w os d).heap[p]? = w.heap[p]? := (ext_more w os d).block hp
theorem great1_new {w0 : World} {p n cap : Nat} {A : Option Addr} {r c : Int} (hp : p = w0.heap.size) (hn : n ≤ 9223372036854775807) (g : Bool) (hg : great1B r c n = g) :
    Calls Tryd.prog 5 #[.slice (some ⟨p, 0, none⟩) 1 1] (w0.alloc (.cells #[.int .i64 r, .int .i64 c, .slice A n cap] 24)) fun e w' => e = .returned (.bool g) ∧ Ext (w0.alloc (.cells #[.int .i64 r, .int .i64 c, .slice A n cap] 24)) w' := by
  subst hg
  exact great1_any r c A n cap p _ (heap_alloc_at hp) hn
theorem partA_right {a : NA} (hr : a.right) {row col rows cols : Nat} (r1 : 1 ≤ rows) (c1 : 1 ≤ cols) (h1 : row + rows ≤ a.R) (h2 : col + cols ≤ a.C) : (partA a row col rows cols).right := by
  obtain ⟨k1, k2, k3, k4, k5⟩ := rightA_nat.1 hr
  refine rightA_nat.2 ⟨r1, c1, Nat.le_trans (Nat.mul_le_mul (show rows ≤ a.R by omega) (show cols ≤ a.C by omega)) k3, ?_, fun x hx => k5 x (partL_mem k4 h1 h2 hx)⟩
  show (partL _ _ _ _ _ _).length = _
  unfold partL; rw [vals_length]; rfl
end Go.Proofs.YtljgagjipamdeaaDoor
namespace Go.Proofs.YtljgagjipamdeaaDoor
open Go.RowKit NM
theorem turn_part {a : NA} {r0 c0 rs cs : Nat} (h1 : 1 ≤ rs) (h2 : 1 ≤ cs) (hr : r0 + rs ≤ a.R) (hc : c0 + cs ≤ a.C) : partA (turnN a) c0 r0 cs rs = turnN (partA a r0 c0 rs cs) := by
  show NA.mk cs rs _ = NA.mk cs rs _
  congr 1
  show vals (fun i j => getV (turnL a.R a.C a.l) ((c0 + i) * a.R + r0 + j)) rs (cs * rs) = vals (fun i j => getV (partL a.C r0 c0 rs cs a.l) (j * cs + i)) rs (cs * rs)
  refine vals_congr fun i j hi hj => ?_
  rw [Nat.add_assoc ((c0 + i) * a.R) r0 j, turn_at a.R a.C a.l (by omega) (by omega)]
  unfold partL
  rw [getV_vals _ hj hi]
  congr 1; omega
/-- The first value of an array of one is a fault. -/
def FltA (P : NA) : Prop := ∃ x, P.l = [x] ∧ x.kind = 4
theorem fltA_alone (f : Int) : FltA (aloneO f) := ⟨bad_ f, rfl, rfl⟩
theorem index_turned {a : NA} (ha : a.right) (r c : Int × Int) :
    (FltA (indexO a r c) ∧ FltA (indexO (turnN a) c r)) ∨ (¬ FltA (indexO a r c) ∧ (indexO a r c).right ∧ indexO (turnN a) c r = turnN (indexO a r c)) := by
  have hfl : ∀ f g : Int, indexO a r c = aloneO f → indexO (turnN a) c r = aloneO g → FltA (indexO a r c) ∧ FltA (indexO (turnN a) c r) := fun f g h1 h2 => by rw [h1, h2]; exact ⟨fltA_alone f, fltA_alone g⟩
  have hTR : (turnN a).R = a.C := rfl
  have hTC : (turnN a).C = a.R := rfl
  by_cases h1 : r.2 = 0
  · by_cases h2 : c.2 = 0
    · by_cases h3 : r.1 < 0 ∨ c.1 < 0
      · left; exact hfl 2 2 (by unfold indexO; simp [h1, h2, h3]) (by unfold indexO; simp [h1, h2, h3.symm])
      · have h3' : ¬ (c.1 < 0 ∨ r.1 < 0) := fun h => h3 h.symm
        by_cases h4 : (a.R : Int) < r.1 ∨ (a.C : Int) < c.1
        · left; exact hfl 3 3 (by unfold indexO; simp [h1, h2, h3, h4]) (by unfold indexO; simp [h1, h2, h3', hTR, hTC, h4.symm])
        · have h4' : ¬ ((a.C : Int) < c.1 ∨ (a.R : Int) < r.1) := fun h => h4 h.symm
          have hk := rightA_nat.1 ha
          have e1 : indexO a r c = partA a (r.1.toNat - 1) (c.1.toNat - 1) (if r.1 = 0 then a.R else 1) (if c.1 = 0 then a.C else 1) := by unfold indexO; simp [h1, h2, h3, h4]
          have e2 : indexO (turnN a) c r = partA (turnN a) (c.1.toNat - 1) (r.1.toNat - 1) (if c.1 = 0 then a.C else 1) (if r.1 = 0 then a.R else 1) := by unfold indexO; simp [h1, h2, h3', hTR, hTC, h4']
          have b1 : 1 ≤ (if r.1 = 0 then a.R else 1) := by split <;> omega
          have b2 : 1 ≤ (if c.1 = 0 then a.C else 1) := by split <;> omega
          have b3 : r.1.toNat - 1 + (if r.1 = 0 then a.R else 1) ≤ a.R := by split <;> omega
          have b4 : c.1.toNat - 1 + (if c.1 = 0 then a.C else 1) ≤ a.C := by split <;> omega
          have hP := partA_right ha b1 b2 b3 b4
          have e3 := turn_part b1 b2 b3 b4
          rw [e1, e2, e3]
          generalize partA a (r.1.toNat - 1) (c.1.toNat - 1) (if r.1 = 0 then a.R else 1) (if c.1 = 0 then a.C else 1) = P at *
          by_cases hf : FltA P
          · left
            refine ⟨hf, ?_⟩
            obtain ⟨x, hx, hx4⟩ := hf
            obtain ⟨k1, k2, k3, k4, k5⟩ := rightA_nat.1 hP
            rw [hx] at k4
            have k4 : P.R * P.C = 1 := k4.symm
            have hR : P.R = 1 := Nat.eq_one_of_mul_eq_one_right k4
            have hC : P.C = 1 := Nat.eq_one_of_mul_eq_one_left k4
            refine ⟨x, ?_, hx4⟩
            show turnL P.R P.C P.l = [x]
            rw [hR, hC, hx]; rfl
          · exact Or.inr ⟨hf, hP, rfl⟩
    · left
      by_cases h1' : r.2 = 0
      · exact hfl c.2 c.2 (by unfold indexO; simp [h1, h2]) (by unfold indexO; simp [h2])
      · exact absurd h1 h1'
  · left
    by_cases h2 : c.2 = 0
    · exact hfl r.2 r.2 (by unfold indexO; simp [h1]) (by unfold indexO; simp [h1, h2])
    · exact hfl r.2 c.2 (by unfold indexO; simp [h1]) (by unfold indexO; simp [h2])
end Go.Proofs.YtljgagjipamdeaaDoor
namespace Go.Proofs.YtljgagjipamdeaaDoor
open Go.RowKit
/-- An operation that may come up at any time: its number, its slot, the object that it makes, what it answers. -/
structure FX where
  i : Nat
  t : Nat
  ob : Obj
  yv : Nat → Value
def putX : List FX → (Nat → Option Nat) → Act → Act
  | [], _, a => a
  | x :: fs, β, a => match β x.i with
    | none => putX fs β a
    | some b => (putX fs β a).put (some x.t) (x.yv b)
def nx (fs : List FX) (β : Nat → Option Nat) : Nat := fs.countP fun x => (β x.i).isNone
theorem putX_congr {β β' : Nat → Option Nat} {a : Act} : ∀ {fs : List FX}, (∀ x ∈ fs, β x.i = β' x.i) → putX fs β a = putX fs β' a
  | [], _ => rfl
  | x :: fs, h => by
    unfold putX
    rw [h x (by simp), putX_congr (fs := fs) fun y hy => h y (by simp [hy])]
theorem putX_put {β : Nat → Option Nat} {a : Act} {d : Option Tmp} {v : Value} : ∀ {fs : List FX}, (∀ x ∈ fs, d ≠ some x.t) → putX fs β (a.put d v) = (putX fs β a).put d v
  | [], _ => rfl
  | x :: fs, h => by
    unfold putX
    rw [putX_put (fs := fs) fun y hy => h y (by simp [hy])]
    cases β x.i with
    | none => rfl
    | some b => exact Act.put_comm _ _ _ fun e he hx => h x (by simp) (by rw [he, hx])
theorem putX_set {β : Nat → Option Nat} {a : Act} {x : FX} {b : Nat} : ∀ {fs : List FX}, x ∈ fs → (fs.map (·.i)).Nodup → (fs.map (·.t)).Nodup → β x.i = none → putX fs (setB β x.i b) a = (putX fs β a).put (some x.t) (x.yv b)
  | [], h, _, _, _ => by cases h
  | y :: fs, h, hn, hs, hb => by
    simp only [List.map_cons, List.nodup_cons, List.mem_map, not_exists, not_and] at hn hs
    unfold putX
    by_cases hxy : y.i = x.i
    · have hyx : y = x := by
        rcases List.mem_cons.1 h with rfl | h'
        · rfl
        · exact absurd hxy.symm (hn.1 x h')
      subst hyx
      have e : putX fs (setB β y.i b) a = putX fs β a := putX_congr fun z hz => by
        unfold setB; rw [if_neg (fun e => hn.1 z hz e)]
      simp only [setB, if_true, hb] at e ⊢
      rw [e]
    · have hx : x ∈ fs := by
        rcases List.mem_cons.1 h with rfl | h'
        · exact absurd rfl hxy
        · exact h'
      have e : setB β x.i b y.i = β y.i := by unfold setB; rw [if_neg hxy]
      rw [e, putX_set hx hn.2 hs.2 hb]
      cases β y.i with
      | none => rfl
      | some b' => exact Act.put_comm _ _ _ fun d hd hd' => hs.1 x hx (by simp_all)
theorem nx_set {β : Nat → Option Nat} {x : FX} {b : Nat} : ∀ {fs : List FX}, x ∈ fs → (fs.map (·.i)).Nodup → β x.i = none → nx fs (setB β x.i b) + 1 = nx fs β
  | [], h, _, _ => by cases h
  | y :: fs, h, hn, hb => by
    simp only [List.map_cons, List.nodup_cons, List.mem_map, not_exists, not_and] at hn
    unfold nx
    rw [List.countP_cons, List.countP_cons]
    by_cases hxy : y.i = x.i
    · have e : fs.countP (fun z => (setB β x.i b z.i).isNone) = fs.countP (fun z => (β z.i).isNone) := by
        refine List.countP_congr fun z hz => ?_
        rw [show setB β x.i b z.i = β z.i by unfold setB; rw [if_neg (fun e => hn.1 z hz (e.trans hxy.symm))]]
      rw [e, show setB β x.i b y.i = some b by unfold setB; rw [if_pos hxy], show β y.i = none by rw [hxy]; exact hb]
      simp
    · have hx : x ∈ fs := by
        rcases List.mem_cons.1 h with rfl | h'
        · exact absurd rfl hxy
        · exact h'
      have ih := nx_set (b := b) hx hn.2 hb
      unfold nx at ih
      rw [show setB β x.i b y.i = β y.i by unfold setB; rw [if_neg hxy]]
      omega
theorem nodup_injX {x y : FX} : ∀ {fs : List FX}, (fs.map (·.i)).Nodup → x ∈ fs → y ∈ fs → x.i = y.i → x = y
  | [], _, h, _, _ => by cases h
  | z :: fs, hn, hx, hy, e => by
    simp only [List.map_cons, List.nodup_cons, List.mem_map, not_exists, not_and] at hn
    rcases List.mem_cons.1 hx with rfl | hx'
    · rcases List.mem_cons.1 hy with rfl | hy'
      · rfl
      · exact absurd e.symm (hn.1 y hy')
    · rcases List.mem_cons.1 hy with rfl | hy'
      · exact absurd e (hn.1 x hx')
      · exact nodup_injX hn.2 hx' hy' e
section
variable {P : Program} {ops : Array Oper} {Q : Exit → Act → World → Prop} {tl : List Nat}
theorem wpOp_putX {j : Nat} {oj : Oper} {β : Nat → Option Nat} (hj : ops[j]? = some oj) (hsj : ∀ cs b, oj.op ≠ .select cs b) (hQ : ∀ c a d v w, Q (.panic c) a w → Q (.panic c) (a.put d v) w)
    {K : Act → World → Prop} {a : Act} {w : World} (h : wpOp P ops Q j K a w) : ∀ {fs : List FX}, (∀ x ∈ fs, x.t ∉ oj.looksAt ops ∧ oj.dst ≠ some x.t) →
    wpOp P ops Q j (fun a' w' => ∃ a'', a' = putX fs β a'' ∧ K a'' w') (putX fs β a) w
  | [], _ => wpOp_mono (fun a' w' h' => ⟨a', rfl, h'⟩) h
  | x :: fs, hx => by
    have ih := wpOp_putX (β := β) hj hsj hQ h (fs := fs) fun y hy => hx y (by simp [hy])
    unfold putX
    cases β x.i with
    | none => exact ih
    | some b =>
      refine wpOp_mono ?_ (wpOp_put1 (v := x.yv b) hj hsj (hx x (by simp)).1 (hx x (by simp)).2 (fun c a w => hQ c a _ _ w) ih)
      rintro a' w' ⟨a1, rfl, a2, rfl, hk⟩
      exact ⟨a2, rfl, hk⟩
theorem yields_putX {S : World → Prop} {o : Oper} {v : Value} {a : Act} {β : Nat → Option Nat} (hs : ∀ cs b, o.op ≠ .select cs b) (hy : YieldsIf P ops S o v a) : ∀ {fs : List FX}, (∀ x ∈ fs, x.t ∉ o.looksAt ops) → YieldsIf P ops S o v (putX fs β a)
  | [], _ => hy
  | x :: fs, hx => by
    have ih := yields_putX (β := β) hs hy (fs := fs) fun y hy => hx y (by simp [hy])
    unfold putX
    cases β x.i with
    | none => exact ih
    | some b =>
      have h1 : ∀ e, (some x.t : Option Tmp) = some e → e ∉ o.looksAt ops := fun e he => by obtain rfl := Option.some.inj he; exact hx x (by simp)
      exact ih.of_same (execOp_put o hs _ _ _ h1) (wanted_put o _ _ _ h1)
theorem exec_putX {o : Oper} {a : Act} {β : Nat → Option Nat} (hs : ∀ cs b, o.op ≠ .select cs b) : ∀ {fs : List FX}, (∀ x ∈ fs, x.t ∉ o.looksAt ops) → execOp (putX fs β a).eval o = execOp a.eval o
  | [], _ => rfl
  | x :: fs, hx => by
    have ih := exec_putX (a := a) (β := β) hs (fs := fs) fun y hy => hx y (by simp [hy])
    unfold putX
    cases β x.i with
    | none => exact ih
    | some b =>
      have h1 : ∀ e, (some x.t : Option Tmp) = some e → e ∉ o.looksAt ops := fun e he => by obtain rfl := Option.some.inj he; exact hx x (by simp)
      exact (execOp_put o hs _ _ _ h1).trans ih
/-- Behind an operation the others read what they read, its own slot apart. -/
def sameFor (ops : Array Oper) (d : Option Tmp) (a a' : Act) : Prop := ∀ o : Oper, (∀ cs b, o.op ≠ .select cs b) → (∀ e, d = some e → e ∉ o.looksAt ops) → execOp a'.eval o = execOp a.eval o
theorem sameFor_put {d : Option Tmp} {a : Act} {v : Value} : sameFor ops d a (a.put d v) := fun o hs h => execOp_put o hs _ _ _ h
theorem wpOp_same {j : Nat} {oj : Oper} (hj : ops[j]? = some oj) {K : Act → World → Prop} {a : Act} {w : World} (h : wpOp P ops Q j K a w) : wpOp P ops Q j (fun a' w' => sameFor ops oj.dst a a' ∧ K a' w') a w := by
  unfold wpOp at *
  simp only [hj] at *
  split
  · rename_i hw
    simp only [hw, if_true] at h
    rcases h with h | ⟨hasks, hlets⟩
    case inr => exact .inr ⟨hasks, hlets⟩
    refine .inl ?_
    unfold Oper.wp at *
    generalize (execOp a.eval oj).run P w = r at *
    cases r with
    | ok n w' =>
      cases n <;> simp only [Oper.upon] at h ⊢
      case value u => exact ⟨sameFor_put, h⟩
      case skip => exact ⟨sameFor_put, h⟩
      case defer f => exact ⟨fun o hs ho => execOp_put o hs { a with defers := f :: a.defers } _ _ ho, h⟩
      case enter f args =>
        refine Calls.mono h fun e w'' he => ?_
        cases e with
        | returned u => exact ⟨sameFor_put, he⟩
        | panicked c => exact he
        | outgrown => exact he
      case row row args => exact Rows.mono h fun u w'' he => ⟨sameFor_put, he⟩
    | halt x w' =>
      cases x <;> simp only [Oper.upon] at h ⊢
      case panic u => exact h
      all_goals exact h
  · rename_i hw
    simp only [hw] at h
    exact ⟨sameFor_put, h⟩
def wpFg (P : Program) (ops : Array Oper) (Q : Exit → Act → World → Prop) (W0 : World) (tp : List Nat) : List (Nat × Nat) → List FX → List Nat → Act → (World → Prop) → Prop
  | [], _, _, a, E => ∀ w, Ext W0 w → E w → wpTl P ops Q tp a w
  | (i, 0) :: rest, fs, bs, a, E => ∃ o v, ops[i]? = some o ∧ YieldsIf P ops (Ext W0) o v a ∧ wpFg P ops Q W0 tp rest fs bs (a.put o.dst v) E
  | (i, 2) :: rest, fs, bs, a, E => ∃ o v, ops[i]? = some o ∧ YieldsIf P ops (fun _ => True) o v a ∧ wpFg P ops Q W0 tp rest fs bs (a.put o.dst v) E
  | (_, 3) :: rest, fs, bs, a, E => ∃ x fs', fs = x :: fs' ∧ ∀ b, W0.heap.size ≤ b → b ∉ bs → (∀ w1 w2, Ext w1 w2 → E w1 → E w2) → ∃ E' : World → Prop, (∀ w1 w2, Ext w1 w2 → E' w1 → E' w2) ∧ (∀ w, Ext W0 w → E w → w.heap[b]? = some x.ob → E' w) ∧ wpFg P ops Q W0 tp rest fs' (b :: bs) (a.put (some x.t) (x.yv b)) E'
  | (i, 4) :: rest, fs, bs, a, E => ∃ x o, x.i = i ∧ ops[i]? = some o ∧ o.dst = some x.t ∧ (∀ w, (execOp a.eval o).run P w = .ok (.value (x.yv w.heap.size)) (w.alloc x.ob)) ∧ wpFg P ops Q W0 tp rest (x :: fs) bs a E
  | (i, _) :: rest, fs, bs, a, E => ∀ w, Ext W0 w → E w → wpOp P ops Q i (fun a' w' => Ext w w' ∧ ∃ E' : World → Prop, (∀ w1 w2, Ext w1 w2 → E' w1 → E' w2) ∧ E' w' ∧ wpFg P ops Q W0 tp rest fs bs a' E') a w
def awayB (ops : Array Oper) (o : Oper) (F : List Nat) : Bool :=
  o.after.all (fun e => !Region.binds .any e || !F.contains e.on) && F.all (fun k => match ops[k]? with
    | some ok => (match ok.dst with | some t => !(o.looksAt ops).contains t && o.dst != some t | none => false) && (match o.dst with | some d => !(ok.looksAt ops).contains d | none => true) && o.apart ops ok
    | none => false)
def planG (ops : Array Oper) (tl pu : List Nat) : Array Bool → List Nat → List (Nat × Nat) → Bool
  | lF, F, [] => F.isEmpty
  | lF, F, (i, 0) :: rest => Region.free .any ops lF i && (Region.ready .any ops lF).contains i && !tl.contains i && !F.contains i &&
      tl.all (fun j => lF.getD j true || match ops[j]? with | some oj => oj.after.any (fun e => Region.binds .any e && depB ops F lF i 4 e.on) | none => true) &&
      (match ops[i]? with | some o => awayB ops o F | none => false) && planG ops tl pu (lF.setIfInBounds i true) F rest
  | lF, F, (i, 2) :: rest => Region.free .any ops lF i && (Region.ready .any ops lF).contains i && !tl.contains i && !F.contains i && pu.contains i &&
      (match ops[i]? with | some o => awayB ops o F | none => false) && planG ops tl pu (lF.setIfInBounds i true) F rest
  | lF, F, (i, 3) :: rest => (F.head? == some i) && (Region.ready .any ops lF).all (fun j => match ops[j]? with | some oj => oj.after.any (fun e => Region.binds .any e && e.on == i) | none => false) && planG ops tl pu lF F.tail rest
  | lF, F, (i, 4) :: rest => (lF[i]? == some false) && !tl.contains i && !F.contains i &&
      (match ops[i]? with | some o => o.guard.isNone && o.after.all (fun e => !Region.binds .any e || lF.getD e.on false) && (match o.dst with | some t => !(o.looksAt ops).contains t | none => false) && awayB ops o F | none => false) && planG ops tl pu (lF.setIfInBounds i true) (i :: F) rest
  | lF, F, (i, _) :: rest => (Region.ready .any ops lF == [i]) && !tl.contains i && !F.contains i && !pu.contains i &&
      (match ops[i]? with | some o => awayB ops o F | none => false) && planG ops tl pu (lF.setIfInBounds i true) F rest
def listG (listed : Array Bool) (pl : List (Nat × Nat)) : Array Bool := pl.foldl (fun l x => if x.2 = 3 then l else l.setIfInBounds x.1 true) listed
def cost (pl : List (Nat × Nat)) : Nat := pl.countP fun x => x.2 != 3
theorem cost_ne {i k : Nat} {rest : List (Nat × Nat)} (h : k ≠ 3) : cost ((i, k) :: rest) = cost rest + 1 := by
  unfold cost; rw [List.countP_cons, if_pos (by simpa using h)]
theorem cost_eq {i : Nat} {rest : List (Nat × Nat)} : cost ((i, 3) :: rest) = cost rest := by
  unfold cost; rw [List.countP_cons, if_neg (by simp), Nat.add_zero]
/-- How far they have come up. -/
structure RelX (fs : List FX) (listed lF : Array Bool) (β : Nat → Option Nat) : Prop where
  size : listed.size = lF.size
  main : ∀ j, j ∉ fs.map (·.i) → listed[j]? = lF[j]?
  done : ∀ x ∈ fs, listed[x.i]? = some (β x.i).isSome ∧ lF[x.i]? = some true
theorem RelX.step {fs : List FX} {listed lF : Array Bool} {β : Nat → Option Nat} (h : RelX fs listed lF β) {i : Nat} (hi : i ∉ fs.map (·.i)) : RelX fs (listed.setIfInBounds i true) (lF.setIfInBounds i true) β := by
  refine ⟨by simp [h.size], fun j hj => ?_, fun x hx => ?_⟩
  · rw [Array.getElem?_setIfInBounds, Array.getElem?_setIfInBounds, h.size, h.main j hj]
  · have hne : i ≠ x.i := fun e => hi (by rw [e]; exact List.mem_map.2 ⟨x, hx, rfl⟩)
    rw [Array.getElem?_setIfInBounds_ne hne, Array.getElem?_setIfInBounds_ne hne]
    exact h.done x hx
theorem RelX.float {fs : List FX} {listed lF : Array Bool} {β : Nat → Option Nat} (h : RelX fs listed lF β) {x : FX} (hx : x ∈ fs) (b : Nat) : RelX fs (listed.setIfInBounds x.i true) lF (setB β x.i b) := by
  refine ⟨by simp [h.size], fun j hj => ?_, fun y hy => ?_⟩
  · rw [Array.getElem?_setIfInBounds_ne (fun e => hj (by rw [← e]; exact List.mem_map.2 ⟨x, hx, rfl⟩))]; exact h.main j hj
  · refine ⟨?_, (h.done y hy).2⟩
    have hl := (h.done y hy).1
    by_cases hxy : x.i = y.i
    · rw [← hxy, Array.getElem?_setIfInBounds_self]
      have : x.i < listed.size := by rw [hxy]; exact (Array.getElem?_eq_some_iff.1 hl).1
      simp [this, setB]
    · rw [Array.getElem?_setIfInBounds_ne hxy, hl]
      unfold setB; rw [if_neg (fun e => hxy e.symm)]
theorem RelX.wait {x : FX} {fs : List FX} {listed lF : Array Bool} {β : Nat → Option Nat} (h : RelX (x :: fs) listed lF β) (hb : (β x.i).isSome = true) : RelX fs listed lF β := by
  refine ⟨h.size, fun j hj => ?_, fun y hy => h.done y (by simp [hy])⟩
  by_cases e : j = x.i
  · subst e; rw [(h.done x (by simp)).1, (h.done x (by simp)).2, hb]
  · exact h.main j (by simp only [List.map_cons, List.mem_cons, not_or]; exact ⟨e, hj⟩)
theorem RelX.launch {x : FX} {fs : List FX} {listed lF : Array Bool} {β : Nat → Option Nat} (h : RelX fs listed lF β) (hi : x.i ∉ fs.map (·.i)) (hl : lF[x.i]? = some false) (hb : β x.i = none) : RelX (x :: fs) listed (lF.setIfInBounds x.i true) β := by
  refine ⟨by simp [h.size], fun j hj => ?_, fun y hy => ?_⟩
  · simp only [List.map_cons, List.mem_cons, not_or] at hj
    rw [Array.getElem?_setIfInBounds_ne (fun e => hj.1 e.symm)]; exact h.main j hj.2
  · rcases List.mem_cons.1 hy with rfl | hy
    · refine ⟨by rw [h.main _ hi, hl, hb]; rfl, ?_⟩
      have := (Array.getElem?_eq_some_iff.1 hl).1
      simp [this]
    · have hne : x.i ≠ y.i := fun e => hi (by rw [e]; exact List.mem_map.2 ⟨y, hy, rfl⟩)
      refine ⟨(h.done y hy).1, ?_⟩
      rw [Array.getElem?_setIfInBounds_ne hne]; exact (h.done y hy).2
theorem depX_of {fs : List FX} {listed lF : Array Bool} {β : Nat → Option Nat} (hR : RelX fs listed lF β) {i : Nat} : ∀ (n k : Nat), depB ops (fs.map (·.i)) lF i n k = true → dep ops listed i n k
  | 0, k, h => by show k = i; simpa [depB] using h
  | n + 1, k, h => by
    simp only [depB, Bool.or_eq_true, beq_iff_eq, Bool.and_eq_true, Bool.not_eq_true'] at h
    rcases h with h | ⟨⟨hF, hun⟩, h⟩
    · exact .inl h
    · right
      refine ⟨by rw [getD_same (hR.main k (by simpa using hF))]; exact hun, ?_⟩
      cases hom : ops[k]? with
      | none => rw [hom] at h; cases h
      | some om =>
        rw [hom] at h
        obtain ⟨e', he', hb'⟩ := Array.any_eq_true'.1 h
        simp only [Bool.and_eq_true] at hb'
        exact ⟨om, rfl, e', he', hb'.1, depX_of hR n _ hb'.2⟩
/-- What is known of those under way. -/
structure FgOk (P : Program) (ops : Array Oper) (tl : List Nat) (fs : List FX) (lF : Array Bool) (a : Act) : Prop where
  fl : ∀ x ∈ fs, ∃ o, ops[x.i]? = some o ∧ o.guard = none ∧ o.dst = some x.t ∧ tl.contains x.i = false ∧ (∀ e ∈ o.after, Region.binds .any e = true → lF[e.on]? = some true ∧ e.on ∉ fs.map (·.i)) ∧
    (∀ y ∈ fs, y.t ∉ o.looksAt ops) ∧ ∀ w, (execOp a.eval o).run P w = .ok (.value (x.yv w.heap.size)) (w.alloc x.ob)
  n1 : (fs.map (·.i)).Nodup
  n2 : (fs.map (·.t)).Nodup
theorem away {o : Oper} {F : List Nat} (h : awayB ops o F = true) : (∀ e ∈ o.after, Region.binds .any e = true → e.on ∉ F) ∧ ∀ k ∈ F, ∀ ok, ops[k]? = some ok → ∃ t, ok.dst = some t ∧ t ∉ o.looksAt ops ∧ o.dst ≠ some t ∧ (∀ d, o.dst = some d → d ∉ ok.looksAt ops) ∧ o.apart ops ok = true := by
  simp only [awayB, Bool.and_eq_true, List.all_eq_true, Array.all_eq_true_iff_forall_mem] at h
  refine ⟨fun e he hb hin => ?_, fun k hk ok hok => ?_⟩
  · have := h.1 e he
    rw [hb] at this
    simp only [Bool.not_true, Bool.false_or, Bool.not_eq_true'] at this
    exact absurd hin (by simpa using this)
  · have := h.2 k hk
    rw [hok] at this
    simp only [Bool.and_eq_true] at this
    obtain ⟨⟨h1, h2⟩, h3⟩ := this
    cases hd : ok.dst with
    | none => rw [hd] at h1; cases h1
    | some t =>
      rw [hd] at h1
      simp only [Bool.and_eq_true] at h1
      refine ⟨t, rfl, by simpa using h1.1, by simpa using h1.2, fun d hd' => ?_, h3⟩
      rw [hd'] at h2
      simpa using h2
theorem FgOk.step {fs : List FX} {lF : Array Bool} {a a' : Act} {i : Nat} {o : Oper} (h : FgOk P ops tl fs lF a) (hsel : Region.noSelect ops = true) (haw : awayB ops o (fs.map (·.i)) = true) (hs : sameFor ops o.dst a a') : FgOk P ops tl fs (lF.setIfInBounds i true) a' := by
  refine ⟨fun x hx => ?_, h.n1, h.n2⟩
  obtain ⟨ox, h1, h2, h3, h4, h5, h6, h7⟩ := h.fl x hx
  refine ⟨ox, h1, h2, h3, h4, fun e he hb => ⟨?_, (h5 e he hb).2⟩, h6, fun w => ?_⟩
  · have := (h5 e he hb).1
    by_cases hie : i = e.on
    · have hlt := (Array.getElem?_eq_some_iff.1 this).1
      subst hie
      simp [hlt]
    · rw [Array.getElem?_setIfInBounds_ne hie]; exact this
  · obtain ⟨t, _, _, _, hd, _⟩ := (away haw).2 x.i (List.mem_map.2 ⟨x, hx, rfl⟩) ox h1
    rw [hs ox (fun cs b => Region.noSelect_spec hsel x.i ox cs b h1) hd]
    exact h7 w
theorem wpFg_sound {W0 : World} {tp pu : List Nat} (hsel : Region.noSelect ops = true) (hQ : ∀ c a d v w, Q (.panic c) (a.put d v) w → Q (.panic c) a w) (hQ' : ∀ c a d v w, Q (.panic c) a w → Q (.panic c) (a.put d v) w) :
    ∀ (m : Nat) (pl : List (Nat × Nat)) (fs : List FX) (bs : List Nat) (listed lF : Array Bool) (β : Nat → Option Nat) (a : Act) (E : World → Prop) (w : World), 2 * pl.length + nx fs β ≤ m → RelX fs listed lF β → FgOk P ops tl fs lF a →
      planG ops tl pu lF (fs.map (·.i)) pl = true → tailOk ops tl (listG lF pl) tp = true → Ext W0 w → (∀ w1 w2, Ext w1 w2 → E w1 → E w2) → E w →
      (∀ x ∈ fs, ∀ b, β x.i = some b → w.heap[b]? = some x.ob ∧ W0.heap.size ≤ b ∧ b ∉ bs) → (∀ x ∈ fs, ∀ y ∈ fs, ∀ b, β x.i = some b → β y.i = some b → x.i = y.i) → (∀ b ∈ bs, b < w.heap.size) → (∀ j, (∃ b, β j = some b) → lF[j]? = some true) →
      wpFg P ops Q W0 tp pl fs bs a E → wpAnyU P ops Q (Ext W0) tl pu (cost pl + nx fs β + tp.length) listed (putX fs β a) w := by
  intro m
  induction m with
  | zero =>
    intro pl fs bs listed lF β a E w hm hR hok hpl htp hX hst hE hbl hinj hbs hβ h
    obtain rfl : pl = [] := List.eq_nil_of_length_eq_zero (by omega)
    obtain rfl : fs = [] := by simpa [planG] using hpl
    have hl : listed = lF := Array.ext_getElem? fun j => hR.main j (by simp)
    subst hl
    rw [show cost [] + nx [] β + tp.length = tp.length by simp [cost, nx]]
    exact wpTl_sound tp _ _ _ htp (h w hX hE)
  | succ m ih =>
    intro pl fs bs listed lF β a E w hm hR hok hpl htp hX hst hE hbl hinj hbs hβ h
    have hal : ∀ x ∈ fs, β x.i = none → ∀ f, cost pl + nx fs β + tp.length = f + 1 → wpOp P ops Q x.i (fun a' w' => (tl.contains x.i = false → (pu.contains x.i = true → Ext W0 w) → Ext W0 w') ∧ wpAnyU P ops Q (Ext W0) tl pu f (listed.setIfInBounds x.i true) a' w') (putX fs β a) w := by
      intro x hx hb f hf
      obtain ⟨o, ho, hg, hd, _, _, hl, hrun⟩ := hok.fl x hx
      unfold wpOp
      simp only [ho]
      rw [if_pos (by simp [Region.wanted, hg])]
      refine .inl ?_
      unfold Oper.wp
      rw [exec_putX (fun cs b => Region.noSelect_spec hsel x.i o cs b ho) hl, hrun w]
      have hnp := nx_set (b := w.heap.size) hx hok.n1 hb
      have hXa : Ext w (w.alloc x.ob) := (Ext.refl w).alloc _
      have hlt : ∀ u ∈ fs, ∀ b, β u.i = some b → b < w.heap.size := fun u hu b hub => by
        obtain ⟨h1, _⟩ := hbl u hu b hub
        rcases Nat.lt_or_ge b w.heap.size with hl | hl
        · exact hl
        · rw [Array.getElem?_eq_none hl] at h1; cases h1
      have key := ih pl fs bs (listed.setIfInBounds x.i true) lF (setB β x.i w.heap.size) a E (w.alloc x.ob) (by omega) (hR.float hx _) hok hpl htp (hX.trans hXa) hst (hst _ _ hXa hE) ?_ ?_ (fun b hb' => by have := hbs b hb'; have := hXa.size; omega) ?_ h
      · rw [putX_set hx hok.n1 hok.n2 hb, show cost pl + nx fs (setB β x.i w.heap.size) + tp.length = f by omega] at key
        simp only [Oper.upon, hd]
        exact ⟨fun _ _ => hX.trans hXa, key⟩
      · intro y hy b hyb
        by_cases hxy : y.i = x.i
        · have hyx : y = x := nodup_injX hok.n1 hy hx hxy
          subst hyx
          simp only [setB, if_true, Option.some.injEq] at hyb
          subst hyb
          exact ⟨heap_alloc_new _ _, hX.size, fun hin => by have := hbs _ hin; omega⟩
        · simp only [setB, hxy, if_false] at hyb
          obtain ⟨h1, h2, h3⟩ := hbl y hy b hyb
          exact ⟨by rw [hXa.block (hlt y hy b hyb)]; exact h1, h2, h3⟩
      · intro y hy z hz b hyb hzb
        unfold setB at hyb hzb
        split at hyb
        · rename_i e1
          split at hzb
          · rename_i e2; rw [e1, e2]
          · have := hlt z hz b hzb
            simp only [Option.some.injEq] at hyb
            omega
        · split at hzb
          · have := hlt y hy b hyb
            simp only [Option.some.injEq] at hzb
            omega
          · exact hinj y hy z hz b hyb hzb
      · rintro j ⟨b, hj⟩
        unfold setB at hj
        split at hj
        · rename_i e; subst e; exact (hR.done x hx).2
        · exact hβ j ⟨b, hj⟩
    have hfr : ∀ x ∈ fs, β x.i = none → x.i ∈ Region.ready .any ops listed := by
      intro x hx hb
      obtain ⟨o, ho, _, _, _, ha, _⟩ := hok.fl x hx
      refine mem_ready.2 ⟨?_, o, ho, fun e he hbi => ?_⟩
      · rw [getD_of (hR.done x hx).1, hb]; rfl
      · obtain ⟨h1, h2⟩ := ha e he hbi
        rw [getD_same (hR.main _ h2), getD_of h1]
    have hfl : ∀ x ∈ fs, x.i ∈ Region.ready .any ops listed → β x.i = none := by
      intro x hx hr
      have h0 := (mem_ready.1 hr).1
      rw [getD_of (hR.done x hx).1] at h0
      cases hb : β x.i with
      | none => rfl
      | some b => rw [hb] at h0; cases h0
    have hto : ∀ j, j ∉ fs.map (·.i) → j ∈ Region.ready .any ops listed → j ∈ Region.ready .any ops lF := by
      intro j hj hr
      obtain ⟨h0, o, ho, ha⟩ := mem_ready.1 hr
      refine mem_ready.2 ⟨by rw [← getD_same (hR.main j hj)]; exact h0, o, ho, fun e he hb => ?_⟩
      have h1 := ha e he hb
      by_cases hin : e.on ∈ fs.map (·.i)
      · obtain ⟨x, hx, hxe⟩ := List.mem_map.1 hin
        rw [← hxe, getD_of (hR.done x hx).2]
      · rw [← getD_same (hR.main _ hin)]; exact h1
    have hfrom : ∀ j oj, ops[j]? = some oj → j ∉ fs.map (·.i) → (∀ e ∈ oj.after, Region.binds .any e = true → e.on ∉ fs.map (·.i)) → j ∈ Region.ready .any ops lF → j ∈ Region.ready .any ops listed := by
      intro j oj hoj hj hno hr
      obtain ⟨h0, o, ho, ha⟩ := mem_ready.1 hr
      obtain rfl : oj = o := by rw [hoj] at ho; exact Option.some.inj ho
      refine mem_ready.2 ⟨by rw [getD_same (hR.main j hj)]; exact h0, oj, hoj, fun e he hb => ?_⟩
      rw [getD_same (hR.main _ (hno e he hb))]
      exact ha e he hb
    have hβ' : ∀ {i : Nat}, ∀ j, (∃ b, β j = some b) → (lF.setIfInBounds i true)[j]? = some true := fun {i} j hj => by
      have h1 := hβ j hj
      by_cases e : i = j
      · subst e
        have := (Array.getElem?_eq_some_iff.1 h1).1
        simp [this]
      · rw [Array.getElem?_setIfInBounds_ne e]; exact h1
    match pl, hm, hpl, htp, h, hal with
    | [], hm, hpl, htp, h, hal =>
      obtain rfl : fs = [] := by simpa [planG] using hpl
      have hl : listed = lF := Array.ext_getElem? fun j => hR.main j (by simp)
      subst hl
      rw [show cost [] + nx [] β + tp.length = tp.length by simp [cost, nx]]
      exact wpTl_sound tp _ _ _ htp (h w hX hE)
    | (i, 0) :: rest, hm, hpl, htp, h, hal =>
      obtain ⟨o, v, hi, hy, h⟩ := h
      simp only [planG, hi, Bool.and_eq_true, Bool.not_eq_true'] at hpl
      obtain ⟨⟨⟨⟨⟨⟨h1, h2⟩, h3⟩, h3'⟩, h4⟩, haw⟩, h5⟩ := hpl
      have hiF : i ∉ fs.map (·.i) := by simpa using h3'
      have hA := away haw
      have hx2 : ∀ x ∈ fs, x.t ∉ o.looksAt ops ∧ o.dst ≠ some x.t ∧ ∀ ox, ops[x.i]? = some ox → o.apart ops ox = true := fun x hx => by
        obtain ⟨ox, g1, _, g3, _⟩ := hok.fl x hx
        obtain ⟨t, e1, e2, e3, _, e5⟩ := hA.2 x.i (List.mem_map.2 ⟨x, hx, rfl⟩) ox g1
        rw [g3] at e1
        obtain rfl := Option.some.inj e1
        exact ⟨e2, e3, fun ox' h' => by rw [g1] at h'; obtain rfl := Option.some.inj h'; exact e5⟩
      have key := ih rest fs bs (listed.setIfInBounds i true) (lF.setIfInBounds i true) β (a.put o.dst v) E w (by simp only [List.length_cons] at hm; omega) (hR.step hiF) (hok.step hsel haw sameFor_put) h5 htp hX hst hE hbl hinj hbs hβ' h
      rw [putX_put fun x hx => (hx2 x hx).2.1] at key
      rw [show cost ((i, 0) :: rest) + nx fs β + tp.length = (cost rest + nx fs β + tp.length) + 1 by rw [cost_ne (by decide)]; omega]
      refine wpAnyU_first hi (Region.noSelect_spec hsel) (fun c a w => hQ c a _ _ w) _ _ _ _ ?_ ?_ (hfrom i o hi hiF hA.1 (by simpa using h2)) (yields_putX (Region.noSelect_spec hsel i o · · hi) hy fun x hx => (hx2 x hx).1) hX key
      · intro j oj hj hji hun hno
        by_cases hin : j ∈ fs.map (·.i)
        · obtain ⟨x, hx, rfl⟩ := List.mem_map.1 hin
          exact (hx2 x hx).2.2 oj hj
        · exact Region.free_spec hi h1 j oj hj hji (by rw [← getD_same (hR.main j hin)]; exact hun) hno
      · intro j oj hj htj hun
        have hjF : j ∉ fs.map (·.i) := fun hin => by
          obtain ⟨x, hx, rfl⟩ := List.mem_map.1 hin
          obtain ⟨_, _, _, _, ht, _⟩ := hok.fl x hx
          rw [ht] at htj; cases htj
        have h6 := List.all_eq_true.1 h4 j (by simpa using htj)
        rw [getD_same (hR.main j hjF)] at hun
        rw [hj] at h6
        simp only [hun, Bool.false_or] at h6
        obtain ⟨e, he, hb⟩ := Array.any_eq_true'.1 h6
        simp only [Bool.and_eq_true] at hb
        exact ⟨e, he, hb.1, depX_of hR _ _ hb.2⟩
    | (i, 2) :: rest, hm, hpl, htp, h, hal =>
      obtain ⟨o, v, hi, hy, h⟩ := h
      simp only [planG, hi, Bool.and_eq_true, Bool.not_eq_true'] at hpl
      obtain ⟨⟨⟨⟨⟨⟨h1, h2⟩, h3⟩, h3'⟩, h4⟩, haw⟩, h5⟩ := hpl
      have hiF : i ∉ fs.map (·.i) := by simpa using h3'
      have hA := away haw
      have hx2 : ∀ x ∈ fs, x.t ∉ o.looksAt ops ∧ o.dst ≠ some x.t ∧ ∀ ox, ops[x.i]? = some ox → o.apart ops ox = true := fun x hx => by
        obtain ⟨ox, g1, _, g3, _⟩ := hok.fl x hx
        obtain ⟨t, e1, e2, e3, _, e5⟩ := hA.2 x.i (List.mem_map.2 ⟨x, hx, rfl⟩) ox g1
        rw [g3] at e1
        obtain rfl := Option.some.inj e1
        exact ⟨e2, e3, fun ox' h' => by rw [g1] at h'; obtain rfl := Option.some.inj h'; exact e5⟩
      have key := ih rest fs bs (listed.setIfInBounds i true) (lF.setIfInBounds i true) β (a.put o.dst v) E w (by simp only [List.length_cons] at hm; omega) (hR.step hiF) (hok.step hsel haw sameFor_put) h5 htp hX hst hE hbl hinj hbs hβ' h
      rw [putX_put fun x hx => (hx2 x hx).2.1] at key
      rw [show cost ((i, 2) :: rest) + nx fs β + tp.length = (cost rest + nx fs β + tp.length) + 1 by rw [cost_ne (by decide)]; omega]
      refine wpAnyU_pure hi (Region.noSelect_spec hsel) h4 (fun c a w => hQ c a _ _ w) _ _ _ _ ?_ (hfrom i o hi hiF hA.1 (by simpa using h2)) (yields_putX (Region.noSelect_spec hsel i o · · hi) hy fun x hx => (hx2 x hx).1) key
      intro j oj hj hji hun hno
      by_cases hin : j ∈ fs.map (·.i)
      · obtain ⟨x, hx, rfl⟩ := List.mem_map.1 hin
        exact (hx2 x hx).2.2 oj hj
      · exact Region.free_spec hi h1 j oj hj hji (by rw [← getD_same (hR.main j hin)]; exact hun) hno
    | (i, 3) :: rest, hm, hpl, htp, h, hal =>
      obtain ⟨x, fs', hfs, h9⟩ := h
      subst hfs
      simp only [planG, List.map_cons, List.head?_cons, List.tail_cons, Bool.and_eq_true, beq_iff_eq, Option.some.injEq, List.all_eq_true] at hpl
      obtain ⟨⟨h1, h2⟩, h3⟩ := hpl
      cases hb : β x.i with
      | some b =>
        obtain ⟨g1, g2, g3⟩ := hbl x (by simp) b hb
        obtain ⟨E', hst', hE', hk⟩ := h9 b g2 g3 hst
        have hn := hok.n1
        have hn2 := hok.n2
        simp only [List.map_cons, List.nodup_cons, List.mem_map, not_exists, not_and] at hn hn2
        have hlt : b < w.heap.size := by
          rcases Nat.lt_or_ge b w.heap.size with hl | hl
          · exact hl
          · rw [Array.getElem?_eq_none hl] at g1; cases g1
        have hok' : FgOk P ops tl fs' lF (a.put (some x.t) (x.yv b)) := by
          refine ⟨fun y hy => ?_, hn.2, hn2.2⟩
          obtain ⟨oy, k1, k2, k3, k4, k5, k6, k7⟩ := hok.fl y (by simp [hy])
          refine ⟨oy, k1, k2, k3, k4, fun e he hb' => ⟨(k5 e he hb').1, fun hin => (k5 e he hb').2 (by simp only [List.map_cons, List.mem_cons]; exact .inr hin)⟩, fun z hz => k6 z (by simp [hz]), fun w => ?_⟩
          rw [execOp_put oy (fun cs b => Region.noSelect_spec hsel y.i oy cs b k1) _ _ _ (fun e he => by obtain rfl := Option.some.inj he; exact k6 x (by simp))]
          exact k7 w
        have key := ih rest fs' (b :: bs) listed lF β (a.put (some x.t) (x.yv b)) E' w (by
            have : nx fs' β ≤ nx (x :: fs') β := by unfold nx; rw [List.countP_cons]; omega
            simp only [List.length_cons] at hm; omega) (hR.wait (by rw [hb]; rfl)) hok' h3 htp hX hst' (hE' w hX hE g1)
          (fun y hy b' hyb => by
            obtain ⟨k1, k2, k3⟩ := hbl y (by simp [hy]) b' hyb
            refine ⟨k1, k2, fun hin => ?_⟩
            rcases List.mem_cons.1 hin with rfl | hin
            · exact hn.1 y hy (hinj y (by simp [hy]) x (by simp) _ hyb hb)
            · exact k3 hin)
          (fun y hy z hz b' hyb hzb => hinj y (by simp [hy]) z (by simp [hz]) b' hyb hzb)
          (fun b' hb' => by
            rcases List.mem_cons.1 hb' with rfl | hb'
            · exact hlt
            · exact hbs b' hb') hβ hk
        rw [putX_put fun y hy e => hn2.1 y hy (Option.some.inj e).symm] at key
        rw [show cost ((i, 3) :: rest) + nx (x :: fs') β + tp.length = cost rest + nx fs' β + tp.length by rw [cost_eq]; unfold nx; rw [List.countP_cons, hb]; rfl]
        unfold putX
        rw [hb]
        exact key
      | none =>
        have hnp : 1 ≤ nx (x :: fs') β := by unfold nx; rw [List.countP_cons, hb]; simp
        obtain ⟨f, hf⟩ : ∃ f, cost ((i, 3) :: rest) + nx (x :: fs') β + tp.length = f + 1 := ⟨cost ((i, 3) :: rest) + nx (x :: fs') β + tp.length - 1, by omega⟩
        rw [hf]
        refine ⟨fun h0 => (by have := hfr x (by simp) hb; rw [h0] at this; cases this), fun j hj => ?_⟩
        by_cases hin : j ∈ (x :: fs').map (·.i)
        · obtain ⟨y, hy, rfl⟩ := List.mem_map.1 hin
          exact hal y hy (hfl y hy hj) f hf
        · exfalso
          have h4 := h2 j (hto j hin hj)
          obtain ⟨_, oj, hoj, ha⟩ := mem_ready.1 hj
          rw [hoj] at h4
          obtain ⟨e, he, hb'⟩ := Array.any_eq_true'.1 h4
          simp only [Bool.and_eq_true, beq_iff_eq] at hb'
          have h5 := ha e he hb'.1
          rw [hb'.2, ← h1, getD_of (hR.done x (by simp)).1, hb] at h5
          cases h5
    | (i, 4) :: rest, hm, hpl, htp, h, hal =>
      obtain ⟨x, o, rfl, hi, hd, hrun, h⟩ := h
      simp only [planG, hi, Bool.and_eq_true, Bool.not_eq_true', beq_iff_eq, Option.isNone_iff_eq_none, Array.all_eq_true_iff_forall_mem] at hpl
      obtain ⟨⟨⟨⟨h1, h2⟩, h3⟩, ⟨⟨h4, h5⟩, hself⟩, haw⟩, h6⟩ := hpl
      rw [hd] at hself
      have hself' : x.t ∉ o.looksAt ops := by simpa using hself
      have hiF : x.i ∉ fs.map (·.i) := by simpa using h3
      have hA := away haw
      have hbn : β x.i = none := by
        cases hb : β x.i with
        | none => rfl
        | some b => have := hβ x.i ⟨b, hb⟩; rw [h1] at this; cases this
      have hx2 : ∀ y ∈ fs, y.t ∉ o.looksAt ops ∧ y.t ≠ x.t ∧ ∀ oy, ops[y.i]? = some oy → x.t ∉ oy.looksAt ops := fun y hy => by
        obtain ⟨oy, g1, _, g3, _⟩ := hok.fl y hy
        obtain ⟨t, e1, e2, e3, e4, _⟩ := hA.2 y.i (List.mem_map.2 ⟨y, hy, rfl⟩) oy g1
        rw [g3] at e1
        obtain rfl := Option.some.inj e1
        exact ⟨e2, fun e => e3 (by rw [hd, e]), fun oy' h' => by rw [g1] at h'; obtain rfl := Option.some.inj h'; exact e4 _ hd⟩
      have hnx : nx (x :: fs) β = nx fs β + 1 := by unfold nx; rw [List.countP_cons, hbn]; simp
      have hokL : FgOk P ops tl (x :: fs) (lF.setIfInBounds x.i true) a := by
        have hup : ∀ k : Nat, lF[k]? = some true → (lF.setIfInBounds x.i true)[k]? = some true := fun k hk => by
          have hne : x.i ≠ k := fun e => by rw [e, hk] at h1; cases h1
          rw [Array.getElem?_setIfInBounds_ne hne]; exact hk
        have hno : ∀ k : Nat, lF[k]? = some true → k ∉ fs.map (·.i) → k ∉ (x :: fs).map (·.i) := fun k hk hn hin => by
          simp only [List.map_cons, List.mem_cons] at hin
          rcases hin with rfl | hin
          · rw [hk] at h1; cases h1
          · exact hn hin
        refine ⟨fun y hy => ?_, ?_, ?_⟩
        · rcases List.mem_cons.1 hy with rfl | hy
          · refine ⟨o, hi, h4, hd, h2, fun e he hb => ?_, fun z hz => ?_, hrun⟩
            · have h7 := h5 e he
              rw [hb] at h7
              simp only [Bool.not_true, Bool.false_or] at h7
              have h8 : lF[e.on]? = some true := by
                cases hg : lF[e.on]? with
                | none => simp [hg] at h7
                | some c => simp [hg] at h7; rw [h7]
              exact ⟨hup _ h8, hno _ h8 (hA.1 e he hb)⟩
            · rcases List.mem_cons.1 hz with rfl | hz
              · exact hself'
              · exact (hx2 z hz).1
          · rename_i hy9
            have hy8 : y ∈ fs := by assumption
            obtain ⟨oy, k1, k2, k3, k4, k5, k6, k7⟩ := hok.fl y hy8
            have hy7 := (hx2 y hy8).2.2 oy k1
            refine ⟨oy, k1, k2, k3, k4, fun e he hb => ⟨hup _ (k5 e he hb).1, hno _ (k5 e he hb).1 (k5 e he hb).2⟩, fun z hz => ?_, k7⟩
            rcases List.mem_cons.1 hz with rfl | hz
            · exact hy7
            · exact k6 z hz
        · simp only [List.map_cons, List.nodup_cons]; exact ⟨hiF, hok.n1⟩
        · simp only [List.map_cons, List.nodup_cons, List.mem_map, not_exists, not_and]; exact ⟨fun y hy e => (hx2 y hy).2.1 e, hok.n2⟩
      have key := ih rest (x :: fs) bs listed (lF.setIfInBounds x.i true) β a E w (by simp only [List.length_cons] at hm; omega) (hR.launch hiF h1 hbn) hokL h6 htp hX hst hE
        (fun y hy b hyb => by
          rcases List.mem_cons.1 hy with rfl | hy
          · rw [hbn] at hyb; cases hyb
          · exact hbl y hy b hyb)
        (fun y hy z hz b hyb hzb => by
          rcases List.mem_cons.1 hy with rfl | hy
          · rw [hbn] at hyb; cases hyb
          · rcases List.mem_cons.1 hz with rfl | hz
            · rw [hbn] at hzb; cases hzb
            · exact hinj y hy z hz b hyb hzb) hbs hβ' h
      rw [show cost ((x.i, 4) :: rest) + nx fs β + tp.length = cost rest + nx (x :: fs) β + tp.length by rw [hnx, cost_ne (by decide)]; omega]
      unfold putX at key
      rw [hbn] at key
      exact key
    | (i, 1) :: rest, hm, hpl, htp, h, hal | (i, k + 5) :: rest, hm, hpl, htp, h, hal =>
      simp only [planG, Bool.and_eq_true, Bool.not_eq_true', beq_iff_eq] at hpl
      obtain ⟨⟨⟨⟨⟨h1, h2⟩, h3⟩, h4⟩, haw⟩, h5⟩ := hpl
      have hiF : i ∉ fs.map (·.i) := by simpa using h3
      have hir : i ∈ Region.ready .any ops lF := by rw [h1]; simp
      obtain ⟨_, o, hi, _⟩ := mem_ready.1 hir
      rw [hi] at haw
      have hA := away haw
      have hx2 : ∀ x ∈ fs, x.t ∉ o.looksAt ops ∧ o.dst ≠ some x.t := fun x hx => by
        obtain ⟨ox, g1, _, g3, _⟩ := hok.fl x hx
        obtain ⟨t, e1, e2, e3, _, e5⟩ := hA.2 x.i (List.mem_map.2 ⟨x, hx, rfl⟩) ox g1
        rw [g3] at e1
        obtain rfl := Option.some.inj e1
        exact ⟨e2, e3⟩
      obtain ⟨f, hf⟩ : ∃ f, cost rest + nx fs β + tp.length = f := ⟨_, rfl⟩
      have hf1 : ∀ k, k ≠ 3 → cost ((i, k) :: rest) + nx fs β + tp.length = f + 1 := fun k hk => by rw [← hf, cost_ne hk]; omega
      rw [hf1 _ (by omega)]
      refine ⟨fun h0 => (by have := hfrom i o hi hiF hA.1 hir; rw [h0] at this; cases this), fun j hj => ?_⟩
      by_cases hin : j ∈ fs.map (·.i)
      · obtain ⟨x, hx, rfl⟩ := List.mem_map.1 hin
        exact hal x hx (hfl x hx hj) f (hf1 _ (by omega))
      · have hjr := hto j hin hj
        rw [h1] at hjr
        obtain rfl : j = i := by simpa using hjr
        refine wpOp_mono ?_ (wpOp_putX (β := β) hi (Region.noSelect_spec hsel j o · · hi) hQ' (wpOp_same hi (h w hX hE)) (fs := fs) hx2)
        rintro a' w' ⟨a'', rfl, hsm, hXw, E', hst', hE', hk⟩
        have key := ih rest fs bs (listed.setIfInBounds j true) (lF.setIfInBounds j true) β a'' E' w' (by simp only [List.length_cons] at hm; omega) (hR.step hiF) (hok.step hsel haw hsm) h5 htp (hX.trans hXw) hst' hE' ?_ hinj (fun b hb => by have := hbs b hb; have := hXw.size; omega) hβ' hk
        · rw [hf] at key
          exact ⟨fun _ _ => hX.trans hXw, key⟩
        · intro y hy b hyb
          obtain ⟨g1, g2, g3⟩ := hbl y hy b hyb
          have hlt : b < w.heap.size := by
            rcases Nat.lt_or_ge b w.heap.size with hl | hl
            · exact hl
            · rw [Array.getElem?_eq_none hl] at g1; cases g1
          exact ⟨by rw [hXw.block hlt]; exact g1, g2, g3⟩
/-- **The region, by a plan, with operations that may come up at any time.** -/
theorem wp_floatG {id : Nat} {a : Act} {w : World} (pl : List (Nat × Nat)) (tp tl pu : List Nat) (hm : P.follows .mixedOrders = true) (hsel : Region.noSelect ops = true)
    (hok : (planG ops tl pu (Array.replicate ops.size false) [] pl && tailOk ops tl (listG (Array.replicate ops.size false) pl) tp && cost pl + tp.length == ops.size) = true)
    (hQ : ∀ c a d v w, Q (.panic c) (a.put d v) w → Q (.panic c) a w) (hQ' : ∀ c a d v w, Q (.panic c) a w → Q (.panic c) (a.put d v) w)
    (h : wpFg P ops Q w.drew tp pl [] [] a (fun _ => True)) : (Code.region id ops true).wp P Q a w := by
  simp only [Bool.and_eq_true, beq_iff_eq] at hok
  obtain ⟨⟨h2, h3⟩, h4⟩ := hok
  refine wp_region_any hm (wpAny_of_U (S := Ext w.drew) (tl := tl) (pu := pu) _ _ _ _ ?_)
  have key := wpFg_sound (P := P) (Q := Q) (W0 := w.drew) (tp := tp) (pu := pu) (tl := tl) hsel hQ hQ' (2 * pl.length) pl [] [] (Array.replicate ops.size false) _ (fun _ => none) a (fun _ => True) w.drew (by simp [nx]) ⟨rfl, fun _ _ => rfl, fun x hx => (by cases hx)⟩
    ⟨fun x hx => (by cases hx), by simp, by simp⟩ h2 h3 (Ext.refl _) (fun _ _ _ _ => trivial) trivial (fun x hx => by cases hx) (fun x hx => by cases hx) (fun b hb => by cases hb) (fun j ⟨b, hb⟩ => by cases hb) h
  rw [show cost pl + nx [] (fun _ => none) + tp.length = ops.size by rw [← h4]; simp [nx]] at key
  exact key
variable {W0 : World} {fs : List FX} {bs tp : List Nat} {a : Act} {E : World → Prop} {i : Nat} {rest : List (Nat × Nat)} {o : Oper}
theorem wpFg_read {v : Value} (hi : ops.toList[i]? = some o) (hw : Region.wanted o (yielded ops a.tmps) = true) (h : ∀ w, Ext W0 w → (execOp a.eval o).run P w = .ok (.value v) w) (k : wpFg P ops Q W0 tp rest fs bs (a.put o.dst v) E) :
    wpFg P ops Q W0 tp ((i, 0) :: rest) fs bs a E := ⟨o, v, by simpa using hi, .inl ⟨hw, h⟩, k⟩
theorem wpFg_pure {v : Value} (hi : ops.toList[i]? = some o) (hw : Region.wanted o (yielded ops a.tmps) = true) (h : ∀ w, (execOp a.eval o).run P w = .ok (.value v) w) (k : wpFg P ops Q W0 tp rest fs bs (a.put o.dst v) E) :
    wpFg P ops Q W0 tp ((i, 2) :: rest) fs bs a E := ⟨o, v, by simpa using hi, .inl ⟨hw, fun w _ => h w⟩, k⟩
theorem wpFg_eff (hi : ops.toList[i]? = some o) (hw : Region.wanted o (yielded ops a.tmps) = true)
    (h : ∀ w, Ext W0 w → E w → ∀ K : Act → World → Prop, (∀ a' w' (E' : World → Prop), Ext w w' → (∀ w1 w2, Ext w1 w2 → E' w1 → E' w2) → E' w' → wpFg P ops Q W0 tp rest fs bs a' E' → K a' w') → o.wp P a w K Q) :
    wpFg P ops Q W0 tp ((i, 1) :: rest) fs bs a E := by
  have hi' : ops[i]? = some o := by simpa using hi
  intro w hX hE
  unfold wpOp
  simp only [hi', hw, if_true]
  exact .inl (h w hX hE _ fun a' w' E' h1 h2 h3 h4 => ⟨h1, E', h2, h3, h4⟩)
theorem wpFg_launch {t : Nat} (ob : Obj) (mk : Nat → Value) (hi : ops.toList[i]? = some o) (hd : o.dst = some t) (h : ∀ w, (execOp a.eval o).run P w = .ok (.value (mk w.heap.size)) (w.alloc ob)) (k : wpFg P ops Q W0 tp rest (⟨i, t, ob, mk⟩ :: fs) bs a E) :
    wpFg P ops Q W0 tp ((i, 4) :: rest) fs bs a E := ⟨⟨i, t, ob, mk⟩, o, rfl, by simpa using hi, hd, h, k⟩
theorem wpFg_wait {x : FX} (h : ∀ b, W0.heap.size ≤ b → b ∉ bs → (∀ w1 w2, Ext w1 w2 → E w1 → E w2) → ∃ E' : World → Prop, (∀ w1 w2, Ext w1 w2 → E' w1 → E' w2) ∧ (∀ w, Ext W0 w → E w → w.heap[b]? = some x.ob → E' w) ∧ wpFg P ops Q W0 tp rest fs (b :: bs) (a.put (some x.t) (x.yv b)) E') :
    wpFg P ops Q W0 tp ((i, 3) :: rest) (x :: fs) bs a E := ⟨x, fs, rfl, h⟩
theorem more_split {W0 w : World} {b : Nat} {ob : Obj} (hX : Ext W0 w) (hb2 : w.heap[b]? = some ob) (hb3 : W0.heap.size ≤ b) : ∃ os1 d1 os2 d2, w = more ((more W0 os1 d1).alloc ob) os2 d2 ∧ b = W0.heap.size + os1.size := by
  obtain ⟨os, d, rfl⟩ := hX.more
  obtain ⟨k, rfl⟩ : ∃ k, b = W0.heap.size + k := ⟨b - W0.heap.size, by omega⟩
  have hk : os[k]? = some ob := by
    have : (W0.heap ++ os)[W0.heap.size + k]? = some ob := hb2
    rw [Array.getElem?_append_right (by omega)] at this
    simpa using this
  have hklt : k < os.size := (Array.getElem?_eq_some_iff.1 hk).1
  have hos : os = (os.extract 0 k).push ob ++ os.extract (k + 1) os.size := by
    apply Array.ext_getElem?
    intro j
    have hs : (os.extract 0 k).size = k := by simp; omega
    rcases Nat.lt_trichotomy j k with hj | rfl | hj
    · rw [Array.getElem?_append_left (by simp; omega), Array.getElem?_push, if_neg (by omega), Array.getElem?_extract]
      simp
      omega
    · rw [Array.getElem?_append_left (by simp; omega), Array.getElem?_push, if_pos (by omega)]; exact hk
    · rw [Array.getElem?_append_right (by simp; omega), Array.getElem?_extract]
      by_cases h2 : j < os.size
      · rw [if_pos (by simp; omega)]
        congr 1
        simp
        omega
      · rw [if_neg (by simp; omega), Array.getElem?_eq_none (by omega)]
  refine ⟨os.extract 0 k, d, os.extract (k + 1) os.size, d, ?_, by simp; omega⟩
  simp only [more, World.alloc]
  congr 1
  conv => lhs; rw [hos]
  simp
/-- The last one that is waited for: a variable; the world behind the others. -/
theorem wpFg_last {t : Nat} {ob : Obj} (h : ∀ os1 d1 os2 d2, E (more ((more W0 os1 d1).alloc ob) os2 d2) → wpTl P ops Q tp (a.put (some t) (.pointer (some ⟨W0.heap.size + os1.size, 0, none⟩))) (more ((more W0 os1 d1).alloc ob) os2 d2)) :
    wpFg P ops Q W0 tp [(i, 3)] [⟨i, t, ob, ptrB⟩] bs a E := by
  refine ⟨_, [], rfl, fun b hb _ hst => ⟨fun w => E w ∧ w.heap[b]? = some ob, fun w1 w2 hx h1 => ⟨hst _ _ hx h1.1, ?_⟩, fun w _ hE h1 => ⟨hE, h1⟩, ?_⟩⟩
  · have hlt : b < w1.heap.size := (Array.getElem?_eq_some_iff.1 h1.2).1
    rw [hx.block hlt]; exact h1.2
  · intro w hX hE
    obtain ⟨os1, d1, os2, d2, rfl, rfl⟩ := more_split hX hE.2 hb
    exact h os1 d1 os2 d2 hE.1
end
end Go.Proofs.YtljgagjipamdeaaDoor
namespace Go.Proofs.YtljgagjipamdeaaDoor
open Go.RowKit NM
theorem heap_drew (w : World) : w.drew.heap = w.heap := rfl
abbrev VC (x : Val) : Array Value := #[.int .i64 x.kind, .int .i64 x.mant, .int .i64 x.exp, .string x.text, .bool x.truth, .int .i64 x.fault]
theorem call_beside (A : Option Addr) (cap : Nat) (a p q s : Ar) (v k u : Val) (w : World) (htab : Tab w) (h : ArgsIn w A 4 cap [a, p, q, s]) (hv : a.x.l[0]? = some v) (hk : q.x.l[0]? = some k) (hu : s.x.l[0]? = some u) (hvr : v.right) (hkr : k.right) (hur : u.right) (X : NA) (hX : vlookO (turnN p.x) (soughtO v) (wholeO k) (truthO u) = X) :
    Calls Tryd.prog 9 #[.string ⟨#[72, 76, 79, 79, 75, 85, 80]⟩, .slice A 4 cap] w (CallPost w X) := by
  subst hX
  exact call_yes ⟨#[72, 76, 79, 79, 75, 85, 80]⟩ 27 3 4 (by decide) rfl (fun args W => by go_simp) A 4 cap [a, p, q, s] w h (by decide) (by decide) _ (fun W hW => beside4_any A cap a p q s v k u W (htab.ext hW) (h.ext hW) hv hk hu hvr hkr hur)
theorem call_below (A : Option Addr) (cap : Nat) (a p q s : Ar) (v k u : Val) (w : World) (htab : Tab w) (h : ArgsIn w A 4 cap [a, p, q, s]) (hv : a.x.l[0]? = some v) (hk : q.x.l[0]? = some k) (hu : s.x.l[0]? = some u) (hvr : v.right) (hkr : k.right) (hur : u.right) (X : NA) (hX : vlookO p.x (soughtO v) (wholeO k) (truthO u) = X) :
    Calls Tryd.prog 9 #[.string ⟨#[86, 76, 79, 79, 75, 85, 80]⟩, .slice A 4 cap] w (CallPost w X) := by
  subst hX
  exact call_yes ⟨#[86, 76, 79, 79, 75, 85, 80]⟩ 26 3 4 (by decide) rfl (fun args W => by go_simp) A 4 cap [a, p, q, s] w h (by decide) (by decide) _ (fun W hW => below4_any A cap a p q s v k u W (htab.ext hW) (h.ext hW) hv hk hu hvr hkr hur)
theorem call_index3 (A : Option Addr) (cap : Nat) (a p q : Ar) (u s : Val) (w : World) (h : ArgsIn w A 3 cap [a, p, q]) (hu : p.x.l[0]? = some u) (hs : q.x.l[0]? = some s) (hur : u.right) (hsr : s.right) (X : NA) (hX : indexO a.x (wholeO u) (wholeO s) = X) :
    Calls Tryd.prog 9 #[.string ⟨#[73, 78, 68, 69, 88]⟩, .slice A 3 cap] w (CallPost w X) := by
  subst hX
  exact call_yes ⟨#[73, 78, 68, 69, 88]⟩ 23 2 3 (by decide) rfl (fun args W => by go_simp) A 3 cap [a, p, q] w h (by decide) (by decide) _ (fun W hW => index3_any A cap a p q u s W (h.ext hW) hu hs hur hsr)
set_option maxHeartbeats 8000000 in
theorem flookTurned_any (r c : Int) (A : Option Addr) (n cap : Nat) (l : List Val) (v k u : Val) (w : World) (htab : Tab w) (h : ArrIn w A n cap l) (hv : v.ok) (hk : k.ok) (hu : u.ok) :
    Calls Tryd.prog 3 #[AV r c (.slice A n cap), VV v.kind v.mant v.exp v.text v.truth v.fault, .agg #[.int .i64 k.kind, .int .i64 k.mant, .int .i64 k.exp, .string k.text, .bool k.truth, .int .i64 k.fault, .int .i64 u.kind, .int .i64 u.mant, .int .i64 u.exp, .string u.text, .bool u.truth, .int .i64 u.fault]] w fun e w' => e = .returned (.bool true) ∧ Ext w w' := by
  have HT := Lib.hid htab
  have hsm := h.small
  have g1 := fun W => refRight_any v.kind v.mant v.exp v.fault v.text v.truth W hv.2.1 hv.2.2.2.1
  have g2 := fun W => refRight_any k.kind k.mant k.exp k.fault k.text k.truth W hk.2.1 hk.2.2.2.1
  have g3 := fun W => refRight_any u.kind u.mant u.exp u.fault u.text u.truth W hu.2.1 hu.2.2.2.1
  rw [show refRight ⟨v.kind, v.mant, v.exp, v.text, v.truth, v.fault⟩ = valRight v from (right_eq v hv).symm] at g1
  rw [show refRight ⟨k.kind, k.mant, k.exp, k.text, k.truth, k.fault⟩ = valRight k from (right_eq k hk).symm] at g2
  rw [show refRight ⟨u.kind, u.mant, u.exp, u.text, u.truth, u.fault⟩ = valRight u from (right_eq u hu).symm] at g3
  have gA := fun W (hW : ArrIn W A n cap l) => refRightA_any r c A n cap l W hW
  rw [← rightA_eq r c l h.ok] at gA
  clear htab
  go_enter Tryd.func3, Tryd.ntmps3
  go_upto_region 1 with fail
  go_region
  · go_upto_region 2 with fail
    refine wp_world fun W0 hW0 => ?_
    have hx0 : Ext w W0 := by rw [hW0]; exact (by repeat (first | (with_reducible (first | exact Ext.refl _ | exact ext_d _ _ _ _ | exact ext_app _ _ _ _ _ | exact ext_app2 _ _ _ _ _ _ | exact ext_app3 _ _ _ _ _ _ _)) | ((with_reducible refine ext_suffix ⟨_, ?_⟩); (try simp only [Array.append_assoc]); rfl) | (with_reducible (first | apply Ext.drew | apply Ext.alloc | apply Ext.more_))))
    have r3 : W0.heap[w.heap.size]? = some (.cells #[.int .i64 r, .int .i64 c, .slice A n cap] 24) := by
      rw [hW0]; (try simp only [heap_drew]); repeat (first | rw [heap_alloc_below (by first | (simp; done) | (simp; omega))] | rw [heap_more_below (by first | (simp; done) | (simp; omega))] | exact heap_alloc_at (by simp))
    have r4 : W0.heap[w.heap.size + 1]? = some (.cells (VC v) 28) := by
      rw [hW0]; (try simp only [heap_drew]); repeat (first | rw [heap_alloc_below (by first | (simp; done) | (simp; omega))] | rw [heap_more_below (by first | (simp; done) | (simp; omega))] | exact heap_alloc_at (by simp))
    have r7 : W0.heap[w.heap.size + 1 + 1 + 1]? = some (.cells (VC k) 28) := by rw [hW0]; (try simp only [heap_drew]); repeat (first | rw [heap_alloc_below (by first | (simp; done) | (simp; omega))] | rw [heap_more_below (by first | (simp; done) | (simp; omega))] | exact heap_alloc_at (by simp))
    have r8 : W0.heap[w.heap.size + 1 + 1 + 1 + 1]? = some (.cells (VC u) 28) := by rw [hW0]; (try simp only [heap_drew]); repeat (first | rw [heap_alloc_below (by first | (simp; done) | (simp; omega))] | rw [heap_more_below (by first | (simp; done) | (simp; omega))] | exact heap_alloc_at (by simp))
    clear hW0
    generalize w.heap.size + 1 + 1 + 1 + 1 = pB at *
    generalize w.heap.size + 1 + 1 + 1 = pA at *
    have l3 := lt_of_block r3
    have l4 := lt_of_block r4
    have l7 := lt_of_block r7
    have l8 := lt_of_block r8
    have a0 : W0.cell? ⟨w.heap.size, 0, none⟩ = some (.int .i64 r) := cell_of_row _ _ 0 _ _ _ r3
    have a1 : W0.cell? ⟨w.heap.size, 1, none⟩ = some (.int .i64 c) := cell_of_row _ _ 1 _ _ _ r3
    have a2 : W0.cell? ⟨w.heap.size, 2, none⟩ = some (.slice A n cap) := cell_of_row _ _ 2 _ _ _ r3
    have b0 : W0.cell? ⟨w.heap.size + 1, 0, none⟩ = some (.int .i64 v.kind) := cell_of_row _ _ 0 _ _ _ r4
    have b1 : W0.cell? ⟨w.heap.size + 1, 1, none⟩ = some (.int .i64 v.mant) := cell_of_row _ _ 1 _ _ _ r4
    have b2 : W0.cell? ⟨w.heap.size + 1, 2, none⟩ = some (.int .i64 v.exp) := cell_of_row _ _ 2 _ _ _ r4
    have b3 : W0.cell? ⟨w.heap.size + 1, 3, none⟩ = some (.string v.text) := cell_of_row _ _ 3 _ _ _ r4
    have b4 : W0.cell? ⟨w.heap.size + 1, 4, none⟩ = some (.bool v.truth) := cell_of_row _ _ 4 _ _ _ r4
    have b5 : W0.cell? ⟨w.heap.size + 1, 5, none⟩ = some (.int .i64 v.fault) := cell_of_row _ _ 5 _ _ _ r4
    have c0 : W0.cell? ⟨_, 0, none⟩ = some (.int .i64 k.kind) := cell_of_row _ _ 0 _ _ _ r7
    have c1 : W0.cell? ⟨_, 1, none⟩ = some (.int .i64 k.mant) := cell_of_row _ _ 1 _ _ _ r7
    have c2 : W0.cell? ⟨_, 2, none⟩ = some (.int .i64 k.exp) := cell_of_row _ _ 2 _ _ _ r7
    have c3 : W0.cell? ⟨_, 3, none⟩ = some (.string k.text) := cell_of_row _ _ 3 _ _ _ r7
    have c4 : W0.cell? ⟨_, 4, none⟩ = some (.bool k.truth) := cell_of_row _ _ 4 _ _ _ r7
    have c5 : W0.cell? ⟨_, 5, none⟩ = some (.int .i64 k.fault) := cell_of_row _ _ 5 _ _ _ r7
    have d0 : W0.cell? ⟨_, 0, none⟩ = some (.int .i64 u.kind) := cell_of_row _ _ 0 _ _ _ r8
    have d1 : W0.cell? ⟨_, 1, none⟩ = some (.int .i64 u.mant) := cell_of_row _ _ 1 _ _ _ r8
    have d2 : W0.cell? ⟨_, 2, none⟩ = some (.int .i64 u.exp) := cell_of_row _ _ 2 _ _ _ r8
    have d3 : W0.cell? ⟨_, 3, none⟩ = some (.string u.text) := cell_of_row _ _ 3 _ _ _ r8
    have d4 : W0.cell? ⟨_, 4, none⟩ = some (.bool u.truth) := cell_of_row _ _ 4 _ _ _ r8
    have d5 : W0.cell? ⟨_, 5, none⟩ = some (.int .i64 u.fault) := cell_of_row _ _ 5 _ _ _ r8
    have h0 := h.ext hx0
    have hT0 := Lib.hid (HT.out.ext hx0)
    cases hgr : great1B r c n with
    | true =>
      clear gA g1 g2 g3
      go_wp2_with (first | (go_at_call 4; (with_reducible refine (awake14_any _ (hT0.out.ext (by repeat (first | (with_reducible (first | exact Ext.refl _ | exact ext_d _ _ _ _ | exact ext_app _ _ _ _ _ | exact ext_app2 _ _ _ _ _ _ | exact ext_app3 _ _ _ _ _ _ _)) | ((with_reducible refine ext_suffix ⟨_, ?_⟩); (try simp only [Array.append_assoc]); rfl) | (with_reducible (first | apply Ext.drew | apply Ext.alloc | apply Ext.more_)))))).mono ?_); rintro e w' ⟨rfl, hb⟩; obtain ⟨osw, dw, rfl⟩ := hb.more; clear hb) | (go_at_call 5; (with_reducible refine (great1_new (by simp) hsm true hgr).mono ?_); rintro e w' ⟨rfl, hb⟩; obtain ⟨os, d, rfl⟩ := hb.more; clear hb))
      go_ret
      exact ⟨rfl, hx0.trans (by repeat (first | (with_reducible (first | exact Ext.refl _ | exact ext_d _ _ _ _ | exact ext_app _ _ _ _ _ | exact ext_app2 _ _ _ _ _ _ | exact ext_app3 _ _ _ _ _ _ _)) | ((with_reducible refine ext_suffix ⟨_, ?_⟩); (try simp only [Array.append_assoc]); rfl) | (with_reducible (first | apply Ext.drew | apply Ext.alloc | apply Ext.more_))))⟩
    | false =>
      cases hra : rightA r c l with
      | false =>
        rw [hra] at gA
        clear g1 g2 g3 hra
        go_wp2_with (first | (go_at_call 4; (with_reducible refine (awake14_any _ (hT0.out.ext (by repeat (first | (with_reducible (first | exact Ext.refl _ | exact ext_d _ _ _ _ | exact ext_app _ _ _ _ _ | exact ext_app2 _ _ _ _ _ _ | exact ext_app3 _ _ _ _ _ _ _)) | ((with_reducible refine ext_suffix ⟨_, ?_⟩); (try simp only [Array.append_assoc]); rfl) | (with_reducible (first | apply Ext.drew | apply Ext.alloc | apply Ext.more_)))))).mono ?_); rintro e w' ⟨rfl, hb⟩; obtain ⟨osw, dw, rfl⟩ := hb.more; clear hb) | (go_at_call 5; (with_reducible refine (great1_new (by simp) hsm false hgr).mono ?_); rintro e w' ⟨rfl, hb⟩; obtain ⟨os, d, rfl⟩ := hb.more; clear hb) | (go_at_call 6; (with_reducible refine (gA _ (h0.ext (by repeat (first | (with_reducible (first | exact Ext.refl _ | exact ext_d _ _ _ _ | exact ext_app _ _ _ _ _ | exact ext_app2 _ _ _ _ _ _ | exact ext_app3 _ _ _ _ _ _ _)) | ((with_reducible refine ext_suffix ⟨_, ?_⟩); (try simp only [Array.append_assoc]); rfl) | (with_reducible (first | apply Ext.drew | apply Ext.alloc | apply Ext.more_)))))).mono ?_); rintro e w' ⟨rfl, hb⟩; obtain ⟨os, d, rfl⟩ := hb.more; clear hb))
        go_ret
        exact ⟨rfl, hx0.trans (by repeat (first | (with_reducible (first | exact Ext.refl _ | exact ext_d _ _ _ _ | exact ext_app _ _ _ _ _ | exact ext_app2 _ _ _ _ _ _ | exact ext_app3 _ _ _ _ _ _ _)) | ((with_reducible refine ext_suffix ⟨_, ?_⟩); (try simp only [Array.append_assoc]); rfl) | (with_reducible (first | apply Ext.drew | apply Ext.alloc | apply Ext.more_))))⟩
      | true =>
        rw [hra] at gA
        cases hrv : valRight v with
        | false =>
          rw [hrv] at g1
          clear g2 g3 hra hrv
          go_wp2_with (first | (go_at_call 4; (with_reducible refine (awake14_any _ (hT0.out.ext (by repeat (first | (with_reducible (first | exact Ext.refl _ | exact ext_d _ _ _ _ | exact ext_app _ _ _ _ _ | exact ext_app2 _ _ _ _ _ _ | exact ext_app3 _ _ _ _ _ _ _)) | ((with_reducible refine ext_suffix ⟨_, ?_⟩); (try simp only [Array.append_assoc]); rfl) | (with_reducible (first | apply Ext.drew | apply Ext.alloc | apply Ext.more_)))))).mono ?_); rintro e w' ⟨rfl, hb⟩; obtain ⟨osw, dw, rfl⟩ := hb.more; clear hb) | (go_at_call 5; (with_reducible refine (great1_new (by simp) hsm false hgr).mono ?_); rintro e w' ⟨rfl, hb⟩; obtain ⟨os, d, rfl⟩ := hb.more; clear hb) | (go_at_call 6; (with_reducible refine (gA _ (h0.ext (by repeat (first | (with_reducible (first | exact Ext.refl _ | exact ext_d _ _ _ _ | exact ext_app _ _ _ _ _ | exact ext_app2 _ _ _ _ _ _ | exact ext_app3 _ _ _ _ _ _ _)) | ((with_reducible refine ext_suffix ⟨_, ?_⟩); (try simp only [Array.append_assoc]); rfl) | (with_reducible (first | apply Ext.drew | apply Ext.alloc | apply Ext.more_)))))).mono ?_); rintro e w' ⟨rfl, hb⟩; obtain ⟨os, d, rfl⟩ := hb.more; clear hb) | (go_at_call 7; (with_reducible refine (g1 _).mono ?_); rintro e w' ⟨rfl, hb⟩; obtain ⟨os, d, rfl⟩ := hb.more; clear hb))
          go_ret
          exact ⟨rfl, hx0.trans (by repeat (first | (with_reducible (first | exact Ext.refl _ | exact ext_d _ _ _ _ | exact ext_app _ _ _ _ _ | exact ext_app2 _ _ _ _ _ _ | exact ext_app3 _ _ _ _ _ _ _)) | ((with_reducible refine ext_suffix ⟨_, ?_⟩); (try simp only [Array.append_assoc]); rfl) | (with_reducible (first | apply Ext.drew | apply Ext.alloc | apply Ext.more_))))⟩
        | true =>
          rw [hrv] at g1
          cases hrk : valRight k with
          | false =>
            rw [hrk] at g2
            clear g3 hra hrv hrk
            go_wp2_with (first | (go_at_call 4; (with_reducible refine (awake14_any _ (hT0.out.ext (by repeat (first | (with_reducible (first | exact Ext.refl _ | exact ext_d _ _ _ _ | exact ext_app _ _ _ _ _ | exact ext_app2 _ _ _ _ _ _ | exact ext_app3 _ _ _ _ _ _ _)) | ((with_reducible refine ext_suffix ⟨_, ?_⟩); (try simp only [Array.append_assoc]); rfl) | (with_reducible (first | apply Ext.drew | apply Ext.alloc | apply Ext.more_)))))).mono ?_); rintro e w' ⟨rfl, hb⟩; obtain ⟨osw, dw, rfl⟩ := hb.more; clear hb) | (go_at_call 5; (with_reducible refine (great1_new (by simp) hsm false hgr).mono ?_); rintro e w' ⟨rfl, hb⟩; obtain ⟨os, d, rfl⟩ := hb.more; clear hb) | (go_at_call 6; (with_reducible refine (gA _ (h0.ext (by repeat (first | (with_reducible (first | exact Ext.refl _ | exact ext_d _ _ _ _ | exact ext_app _ _ _ _ _ | exact ext_app2 _ _ _ _ _ _ | exact ext_app3 _ _ _ _ _ _ _)) | ((with_reducible refine ext_suffix ⟨_, ?_⟩); (try simp only [Array.append_assoc]); rfl) | (with_reducible (first | apply Ext.drew | apply Ext.alloc | apply Ext.more_)))))).mono ?_); rintro e w' ⟨rfl, hb⟩; obtain ⟨os, d, rfl⟩ := hb.more; clear hb) | (go_at_call 7; (with_reducible refine (g1 _).mono ?_); rintro e w' ⟨rfl, hb⟩; obtain ⟨os, d, rfl⟩ := hb.more; clear hb) | (go_at_call 7; (with_reducible refine (g2 _).mono ?_); rintro e w' ⟨rfl, hb⟩; obtain ⟨os, d, rfl⟩ := hb.more; clear hb))
            go_ret
            exact ⟨rfl, hx0.trans (by repeat (first | (with_reducible (first | exact Ext.refl _ | exact ext_d _ _ _ _ | exact ext_app _ _ _ _ _ | exact ext_app2 _ _ _ _ _ _ | exact ext_app3 _ _ _ _ _ _ _)) | ((with_reducible refine ext_suffix ⟨_, ?_⟩); (try simp only [Array.append_assoc]); rfl) | (with_reducible (first | apply Ext.drew | apply Ext.alloc | apply Ext.more_))))⟩
          | true =>
            rw [hrk] at g2
            cases hru : valRight u with
            | false =>
              rw [hru] at g3
              clear hra hrv hrk hru
              go_wp2_with (first | (go_at_call 4; (with_reducible refine (awake14_any _ (hT0.out.ext (by repeat (first | (with_reducible (first | exact Ext.refl _ | exact ext_d _ _ _ _ | exact ext_app _ _ _ _ _ | exact ext_app2 _ _ _ _ _ _ | exact ext_app3 _ _ _ _ _ _ _)) | ((with_reducible refine ext_suffix ⟨_, ?_⟩); (try simp only [Array.append_assoc]); rfl) | (with_reducible (first | apply Ext.drew | apply Ext.alloc | apply Ext.more_)))))).mono ?_); rintro e w' ⟨rfl, hb⟩; obtain ⟨osw, dw, rfl⟩ := hb.more; clear hb) | (go_at_call 5; (with_reducible refine (great1_new (by simp) hsm false hgr).mono ?_); rintro e w' ⟨rfl, hb⟩; obtain ⟨os, d, rfl⟩ := hb.more; clear hb) | (go_at_call 6; (with_reducible refine (gA _ (h0.ext (by repeat (first | (with_reducible (first | exact Ext.refl _ | exact ext_d _ _ _ _ | exact ext_app _ _ _ _ _ | exact ext_app2 _ _ _ _ _ _ | exact ext_app3 _ _ _ _ _ _ _)) | ((with_reducible refine ext_suffix ⟨_, ?_⟩); (try simp only [Array.append_assoc]); rfl) | (with_reducible (first | apply Ext.drew | apply Ext.alloc | apply Ext.more_)))))).mono ?_); rintro e w' ⟨rfl, hb⟩; obtain ⟨os, d, rfl⟩ := hb.more; clear hb) | (go_at_call 7; (with_reducible refine (g1 _).mono ?_); rintro e w' ⟨rfl, hb⟩; obtain ⟨os, d, rfl⟩ := hb.more; clear hb) | (go_at_call 7; (with_reducible refine (g2 _).mono ?_); rintro e w' ⟨rfl, hb⟩; obtain ⟨os, d, rfl⟩ := hb.more; clear hb) | (go_at_call 7; (with_reducible refine (g3 _).mono ?_); rintro e w' ⟨rfl, hb⟩; obtain ⟨os, d, rfl⟩ := hb.more; clear hb))
              go_ret
              exact ⟨rfl, hx0.trans (by repeat (first | (with_reducible (first | exact Ext.refl _ | exact ext_d _ _ _ _ | exact ext_app _ _ _ _ _ | exact ext_app2 _ _ _ _ _ _ | exact ext_app3 _ _ _ _ _ _ _)) | ((with_reducible refine ext_suffix ⟨_, ?_⟩); (try simp only [Array.append_assoc]); rfl) | (with_reducible (first | apply Ext.drew | apply Ext.alloc | apply Ext.more_))))⟩
            | true =>
              rw [hru] at g3
              have hf : fitsB r c = true := by
                have hra' := hra
                unfold rightA at hra'
                simp only [Bool.and_eq_true] at hra'
                exact hra'.1.1
              have hfm := fits_mul hf
              obtain ⟨R, rfl⟩ : ∃ R : Nat, r = (R : Int) := ⟨r.toNat, by omega⟩
              obtain ⟨C, rfl⟩ : ∃ C : Nat, c = (C : Int) := ⟨c.toNat, by omega⟩
              have HR := Lib.hid hra
              have rv : v.right := hrv
              have rk : k.right := hrk
              have ru : u.right := hru
              clear hra hrv hrk hru hf hfm
              go_upto_region 5 with (first | (go_at_call 4; (with_reducible refine (awake14_any _ (hT0.out.ext (by repeat (first | (with_reducible (first | exact Ext.refl _ | exact ext_d _ _ _ _ | exact ext_app _ _ _ _ _ | exact ext_app2 _ _ _ _ _ _ | exact ext_app3 _ _ _ _ _ _ _)) | ((with_reducible refine ext_suffix ⟨_, ?_⟩); (try simp only [Array.append_assoc]); rfl) | (with_reducible (first | apply Ext.drew | apply Ext.alloc | apply Ext.more_)))))).mono ?_); rintro e w' ⟨rfl, hb⟩; obtain ⟨osw, dw, rfl⟩ := hb.more; clear hb) | (go_at_call 5; (with_reducible refine (great1_new (by simp) hsm false hgr).mono ?_); rintro e w' ⟨rfl, hb⟩; obtain ⟨osg, dg, rfl⟩ := hb.more; clear hb) | (go_at_call 6; (with_reducible refine (gA _ (h0.ext (by repeat (first | (with_reducible (first | exact Ext.refl _ | exact ext_d _ _ _ _ | exact ext_app _ _ _ _ _ | exact ext_app2 _ _ _ _ _ _ | exact ext_app3 _ _ _ _ _ _ _)) | ((with_reducible refine ext_suffix ⟨_, ?_⟩); (try simp only [Array.append_assoc]); rfl) | (with_reducible (first | apply Ext.drew | apply Ext.alloc | apply Ext.more_)))))).mono ?_); rintro e w' ⟨rfl, hb⟩; obtain ⟨osa, da, rfl⟩ := hb.more; clear hb) | (go_at_call 7; (with_reducible refine (g1 _).mono ?_); rintro e w' ⟨rfl, hb⟩; obtain ⟨osv, dv, rfl⟩ := hb.more; clear hb) | (go_at_call 7; (with_reducible refine (g2 _).mono ?_); rintro e w' ⟨rfl, hb⟩; obtain ⟨osk, dk, rfl⟩ := hb.more; clear hb) | (go_at_call 7; (with_reducible refine (g3 _).mono ?_); rintro e w' ⟨rfl, hb⟩; obtain ⟨osu, du, rfl⟩ := hb.more; clear hb) | (go_at_call 8; (refine (refTurn_res ⟨R, C, l⟩ A n cap _ (h0.ext (by repeat (first | (with_reducible (first | exact Ext.refl _ | exact ext_d _ _ _ _ | exact ext_app _ _ _ _ _ | exact ext_app2 _ _ _ _ _ _ | exact ext_app3 _ _ _ _ _ _ _)) | ((with_reducible refine ext_suffix ⟨_, ?_⟩); (try simp only [Array.append_assoc]); rfl) | (with_reducible (first | apply Ext.drew | apply Ext.alloc | apply Ext.more_))))) HR.out).mono ?_); rintro e w' ⟨D9, m9, c9, rfl, hN9, hb⟩; obtain ⟨os9, d9, rfl⟩ := hb.more; clear hb))
              refine wp_world fun W1 hW1 => ?_
              have hx01 : Ext W0 W1 := by rw [hW1]; exact (by repeat (first | (with_reducible (first | exact Ext.refl _ | exact ext_d _ _ _ _ | exact ext_app _ _ _ _ _ | exact ext_app2 _ _ _ _ _ _ | exact ext_app3 _ _ _ _ _ _ _)) | ((with_reducible refine ext_suffix ⟨_, ?_⟩); (try simp only [Array.append_assoc]); rfl) | (with_reducible (first | apply Ext.drew | apply Ext.alloc | apply Ext.more_))))
              have aT : ArrIn W1 D9 m9 c9 (turnL R C l) := by (have hq := hN9.arr); (simp only [more_more, Array.append_assoc] at hq); rw [hW1]; exact hq.ext ((Ext.refl _).alloc _)
              have r9 : W1.heap[W0.heap.size + osw.size + 1 + (osg.size + (osa.size + (osv.size + (osk.size + (osu.size + os9.size)))))]? = some (.cells #[.int .i64 C, .int .i64 R, .slice D9 m9 c9] 24) := by
                rw [hW1]; exact heap_alloc_at (by simp)
              replace r3 := (hx01.block l3).trans r3
              replace r4 := (hx01.block l4).trans r4
              replace r7 := (hx01.block l7).trans r7
              replace r8 := (hx01.block l8).trans r8
              generalize W0.heap.size + osw.size + 1 + (osg.size + (osa.size + (osv.size + (osk.size + (osu.size + os9.size))))) = p9 at *
              have hw1 := hx0.trans hx01
              have h1 := h0.ext hx01
              have hRT : rightA C R (turnL R C l) = true := turn_right HR.out
              clear hW1 hN9 l3 l4 l7 l8 a0 a1 a2 b0 b1 b2 b3 b4 b5 c0 c1 c2 c3 c4 c5 d0 d1 d2 d3 d4 d5 gA g1 g2 g3 hgr h0 hT0 hx01
              have a0 : W1.cell? ⟨w.heap.size, 0, none⟩ = some (.int .i64 R) := cell_of_row _ _ 0 _ _ _ r3
              have a1 : W1.cell? ⟨w.heap.size, 1, none⟩ = some (.int .i64 C) := cell_of_row _ _ 1 _ _ _ r3
              have a2 : W1.cell? ⟨w.heap.size, 2, none⟩ = some (.slice A n cap) := cell_of_row _ _ 2 _ _ _ r3
              have la := lt_of_block r3
              have b0 : W1.cell? ⟨w.heap.size + 1, 0, none⟩ = some (.int .i64 v.kind) := cell_of_row _ _ 0 _ _ _ r4
              have b1 : W1.cell? ⟨w.heap.size + 1, 1, none⟩ = some (.int .i64 v.mant) := cell_of_row _ _ 1 _ _ _ r4
              have b2 : W1.cell? ⟨w.heap.size + 1, 2, none⟩ = some (.int .i64 v.exp) := cell_of_row _ _ 2 _ _ _ r4
              have b3 : W1.cell? ⟨w.heap.size + 1, 3, none⟩ = some (.string v.text) := cell_of_row _ _ 3 _ _ _ r4
              have b4 : W1.cell? ⟨w.heap.size + 1, 4, none⟩ = some (.bool v.truth) := cell_of_row _ _ 4 _ _ _ r4
              have b5 : W1.cell? ⟨w.heap.size + 1, 5, none⟩ = some (.int .i64 v.fault) := cell_of_row _ _ 5 _ _ _ r4
              have lb := lt_of_block r4
              have c0 : W1.cell? ⟨pA, 0, none⟩ = some (.int .i64 k.kind) := cell_of_row _ _ 0 _ _ _ r7
              have c1 : W1.cell? ⟨pA, 1, none⟩ = some (.int .i64 k.mant) := cell_of_row _ _ 1 _ _ _ r7
              have c2 : W1.cell? ⟨pA, 2, none⟩ = some (.int .i64 k.exp) := cell_of_row _ _ 2 _ _ _ r7
              have c3 : W1.cell? ⟨pA, 3, none⟩ = some (.string k.text) := cell_of_row _ _ 3 _ _ _ r7
              have c4 : W1.cell? ⟨pA, 4, none⟩ = some (.bool k.truth) := cell_of_row _ _ 4 _ _ _ r7
              have c5 : W1.cell? ⟨pA, 5, none⟩ = some (.int .i64 k.fault) := cell_of_row _ _ 5 _ _ _ r7
              have lc := lt_of_block r7
              have d0 : W1.cell? ⟨pB, 0, none⟩ = some (.int .i64 u.kind) := cell_of_row _ _ 0 _ _ _ r8
              have d1 : W1.cell? ⟨pB, 1, none⟩ = some (.int .i64 u.mant) := cell_of_row _ _ 1 _ _ _ r8
              have d2 : W1.cell? ⟨pB, 2, none⟩ = some (.int .i64 u.exp) := cell_of_row _ _ 2 _ _ _ r8
              have d3 : W1.cell? ⟨pB, 3, none⟩ = some (.string u.text) := cell_of_row _ _ 3 _ _ _ r8
              have d4 : W1.cell? ⟨pB, 4, none⟩ = some (.bool u.truth) := cell_of_row _ _ 4 _ _ _ r8
              have d5 : W1.cell? ⟨pB, 5, none⟩ = some (.int .i64 u.fault) := cell_of_row _ _ 5 _ _ _ r8
              have ld := lt_of_block r8
              have t0 : W1.cell? ⟨p9, 0, none⟩ = some (.int .i64 C) := cell_of_row _ _ 0 _ _ _ r9
              have t1 : W1.cell? ⟨p9, 1, none⟩ = some (.int .i64 R) := cell_of_row _ _ 1 _ _ _ r9
              have t2 : W1.cell? ⟨p9, 2, none⟩ = some (.slice D9 m9 c9) := cell_of_row _ _ 2 _ _ _ r9
              have lt := lt_of_block r9
              obtain ⟨X, hX⟩ : ∃ X, vlookO ⟨C, R, turnL R C l⟩ (soughtO v) (wholeO k) (truthO u) = X := ⟨_, rfl⟩
              have HX := Lib.hid hX
              clear hX
              refine wp_floatG [(0, 0), (3, 0), (4, 0), (7, 0), (15, 4), (8, 4), (5, 4), (1, 4), (1, 3), (2, 1), (5, 3), (6, 1), (8, 3), (9, 1), (10, 1), (11, 1), (12, 0), (13, 0), (14, 2), (15, 3)] [16, 17] [16, 17] [14] (by kernel_rfl) (by kernel_rfl) (by kernel_rfl) (fun _ _ d _ _ h => by cases d <;> exact h) (fun _ _ d _ _ h => by cases d <;> exact h) ?_
              iterate 4 ((refine wpFg_read (v := ?_) rfl ?_ (fun w1 h1 => ?_) ?_; rotate_left 1; rfl; (obtain ⟨os1, d1, rfl⟩ := h1.more; go_simp; first | done | rfl)); try simp only [Act.put, zqA, zqB, zqC])
              (refine wpFg_launch (t := 10) (.cells #[.int .i64 0, .int .i64 0, .slice none 0 0] 24) ptrB rfl rfl (fun w1 => ?_) ?_; (first | rfl | (simp [go_sem, ptrB]; done) | (go_simp; rfl)))
              (refine wpFg_launch (t := 61) ?_ (fun b => .slice (some ⟨b, 0, none⟩) 1 1) rfl rfl (fun w1 => ?_) ?_; rotate_left 1; (go_simp; first | done | rfl))
              (refine wpFg_launch (t := 58) ?_ (fun b => .slice (some ⟨b, 0, none⟩) 1 1) rfl rfl (fun w1 => ?_) ?_; rotate_left 1; (go_simp; first | done | rfl))
              (refine wpFg_launch (t := 54) ?_ (fun b => .slice (some ⟨b, 0, none⟩) 1 1) rfl rfl (fun w1 => ?_) ?_; rotate_left 1; (go_simp; first | done | rfl))
              refine wpFg_wait fun q1 _ _ _ => ?_; refine ⟨fun W => ArrIn W (some ⟨q1, 0, none⟩) 1 1 [v], fun _ _ hx h => h.ext hx, fun W _ hE h1 => arrIn_block [v] h1 rfl rfl (by decide) (by simpa using rv.ok), ?_⟩
              try simp only [Act.put, zqA, zqB, zqC]
              (refine wpFg_eff rfl ?_ (fun wf hXf hE K hK => ?_); rfl; obtain ⟨osf, df, rfl⟩ := hXf.more; go_simp; refine (row14_any _ _ _ _).mono ?_; rintro e w' ⟨rfl, hb⟩; refine hK _ _ (fun W => ArrIn W (some ⟨q1, 0, none⟩) 1 1 [v]) (by (try simp only [more_drew, more_more, Array.append_assoc]); exact hb) (fun _ _ hx h => h.ext hx) (hE.ext (by (try simp only [more_drew, more_more, Array.append_assoc]); exact hb)) ?_)
              try simp only [Act.put, zqA, zqB, zqC]
              refine wpFg_wait fun q2 _ _ _ => ?_; refine ⟨fun W => ArrIn W (some ⟨q1, 0, none⟩) 1 1 [v] ∧ ArrIn W (some ⟨q2, 0, none⟩) 1 1 [k], fun _ _ hx h => ⟨h.1.ext hx, h.2.ext hx⟩, fun W _ hE h1 => ⟨hE, arrIn_block [k] h1 rfl rfl (by decide) (by simpa using rk.ok)⟩, ?_⟩
              try simp only [Act.put, zqA, zqB, zqC]
              (refine wpFg_eff rfl ?_ (fun wf hXf hE K hK => ?_); rfl; obtain ⟨osf, df, rfl⟩ := hXf.more; go_simp; refine (row14_any _ _ _ _).mono ?_; rintro e w' ⟨rfl, hb⟩; refine hK _ _ (fun W => ArrIn W (some ⟨q1, 0, none⟩) 1 1 [v] ∧ ArrIn W (some ⟨q2, 0, none⟩) 1 1 [k]) (by (try simp only [more_drew, more_more, Array.append_assoc]); exact hb) (fun _ _ hx h => ⟨h.1.ext hx, h.2.ext hx⟩) ⟨hE.1.ext (by (try simp only [more_drew, more_more, Array.append_assoc]); exact hb), hE.2.ext (by (try simp only [more_drew, more_more, Array.append_assoc]); exact hb)⟩ ?_)
              try simp only [Act.put, zqA, zqB, zqC]
              refine wpFg_wait fun q3 _ _ _ => ?_; refine ⟨fun W => (ArrIn W (some ⟨q1, 0, none⟩) 1 1 [v] ∧ ArrIn W (some ⟨q2, 0, none⟩) 1 1 [k]) ∧ ArrIn W (some ⟨q3, 0, none⟩) 1 1 [u], fun _ _ hx h => ⟨⟨h.1.1.ext hx, h.1.2.ext hx⟩, h.2.ext hx⟩, fun W _ hE h1 => ⟨hE, arrIn_block [u] h1 rfl rfl (by decide) (by simpa using ru.ok)⟩, ?_⟩
              try simp only [Act.put, zqA, zqB, zqC]
              (refine wpFg_eff rfl ?_ (fun wf hXf hE K hK => ?_); rfl; obtain ⟨osf, df, rfl⟩ := hXf.more; go_simp; refine (row14_any _ _ _ _).mono ?_; rintro e w' ⟨rfl, hb⟩; refine hK _ _ (fun W => (ArrIn W (some ⟨q1, 0, none⟩) 1 1 [v] ∧ ArrIn W (some ⟨q2, 0, none⟩) 1 1 [k]) ∧ ArrIn W (some ⟨q3, 0, none⟩) 1 1 [u]) (by (try simp only [more_drew, more_more, Array.append_assoc]); exact hb) (fun _ _ hx h => ⟨⟨h.1.1.ext hx, h.1.2.ext hx⟩, h.2.ext hx⟩) ⟨⟨hE.1.1.ext (by (try simp only [more_drew, more_more, Array.append_assoc]); exact hb), hE.1.2.ext (by (try simp only [more_drew, more_more, Array.append_assoc]); exact hb)⟩, hE.2.ext (by (try simp only [more_drew, more_more, Array.append_assoc]); exact hb)⟩ ?_)
              try simp only [Act.put, zqA, zqB, zqC]
              (refine wpFg_eff rfl ?_ (fun wf hXf hE K hK => ?_); rfl; obtain ⟨osf, df, rfl⟩ := hXf.more; go_simp; generalize hq4 : W1.heap.size + osf.size = q4; refine hK _ _ (fun W => ArgsIn W (some ⟨q4, 0, none⟩) 4 4 [arOne v q1, ⟨⟨R, C, l⟩, A, n, cap⟩, arOne k q2, arOne u q3]) (by (try simp only [drew_more]); exact (Ext.refl _).alloc _) (fun _ _ hx h => h.ext hx) (argsIn_new (n := 4) [arOne v q1, ⟨⟨R, C, l⟩, A, n, cap⟩, arOne k q2, arOne u q3] (by rw [← hq4]; simp) rfl rfl (by decide) (by intro a ha; simp only [List.mem_cons, List.not_mem_nil, or_false] at ha; rcases ha with rfl | rfl | rfl | rfl; exact arOne_ok hE.1.1 rv; exact ⟨h1.ext (by repeat (first | (with_reducible (first | exact Ext.refl _ | exact ext_d _ _ _ _ | exact ext_app _ _ _ _ _ | exact ext_app2 _ _ _ _ _ _ | exact ext_app3 _ _ _ _ _ _ _)) | ((with_reducible refine ext_suffix ⟨_, ?_⟩); (try simp only [Array.append_assoc]); rfl) | (with_reducible (first | apply Ext.drew | apply Ext.alloc | apply Ext.more_)))), HR.out⟩; exact arOne_ok hE.1.2 rk; exact arOne_ok hE.2 ru)) ?_)
              try simp only [Act.put, zqA, zqB, zqC]
              (refine wpFg_eff rfl ?_ (fun wf hXf hE K hK => ?_); rfl; obtain ⟨osf, df, rfl⟩ := hXf.more; go_simp; refine (call_beside _ _ (arOne v q1) ⟨⟨R, C, l⟩, A, n, cap⟩ (arOne k q2) (arOne u q3) v k u _ (HT.out.ext (hw1.trans (by repeat (first | (with_reducible (first | exact Ext.refl _ | exact ext_d _ _ _ _ | exact ext_app _ _ _ _ _ | exact ext_app2 _ _ _ _ _ _ | exact ext_app3 _ _ _ _ _ _ _)) | ((with_reducible refine ext_suffix ⟨_, ?_⟩); (try simp only [Array.append_assoc]); rfl) | (with_reducible (first | apply Ext.drew | apply Ext.alloc | apply Ext.more_)))))) hE rfl rfl rfl rv rk ru X HX.out).mono ?_; rintro e w' ⟨D10, m10, c10, rfl, hN, hb⟩; refine hK _ _ (fun W => ArrIn W D10 m10 c10 X.l) (by (try simp only [more_drew, more_more, Array.append_assoc]); exact hb) (fun _ _ hx h => h.ext hx) hN.arr ?_)
              try simp only [Act.put, zqA, zqB, zqC]
              iterate 2 ((refine wpFg_read (v := ?_) rfl ?_ (fun w1 h1 => ?_) ?_; rotate_left 1; rfl; (obtain ⟨os1, d1, rfl⟩ := h1.more; go_simp; first | done | rfl)); try simp only [Act.put, zqA, zqB, zqC])
              (refine wpFg_pure (v := ?_) rfl ?_ (fun w1 => ?_) ?_; rotate_left 1; rfl; (go_simp; first | done | rfl))
              try simp only [Act.put, zqA, zqB, zqC]
              refine wpFg_last fun osa da osb db hE => ?_
              try simp only [Act.put, zqA, zqB, zqC]
              iterate 2 ((refine wpTl_op rfl ?_ (fun K hK => ?_); rfl; go_simp; refine hK _ _ ?_); try simp only [Act.put, zqA, zqB, zqC])
              refine wpTl_nil ?_
              go_upto_region 6 with fail
              refine wp_world fun W2 hW2 => ?_
              obtain ⟨r10, hx12⟩ := var_at _ _ _ _ _ _ hW2
              have aX : ArrIn W2 D10 m10 c10 X.l := by rw [hW2]; exact hE.var3
              clear hW2 hE a0 a1 a2 b0 b1 b2 b3 b4 b5 c0 c1 c2 c3 c4 c5 d0 d1 d2 d3 d4 d5 t0 t1 t2 la lb lc ld lt
              replace r3 := (hx12.block (lt_of_block r3)).trans r3
              replace r4 := (hx12.block (lt_of_block r4)).trans r4
              replace r7 := (hx12.block (lt_of_block r7)).trans r7
              replace r8 := (hx12.block (lt_of_block r8)).trans r8
              replace r9 := (hx12.block (lt_of_block r9)).trans r9
              have hw2 := hw1.trans hx12
              have h2 := h1.ext hx12
              replace aT := aT.ext hx12
              generalize W1.heap.size + osa.size = p10 at *
              clear h1 hw1 hx12
              have a0 : W2.cell? ⟨w.heap.size, 0, none⟩ = some (.int .i64 R) := cell_of_row _ _ 0 _ _ _ r3
              have a1 : W2.cell? ⟨w.heap.size, 1, none⟩ = some (.int .i64 C) := cell_of_row _ _ 1 _ _ _ r3
              have a2 : W2.cell? ⟨w.heap.size, 2, none⟩ = some (.slice A n cap) := cell_of_row _ _ 2 _ _ _ r3
              have la := lt_of_block r3
              have b0 : W2.cell? ⟨w.heap.size + 1, 0, none⟩ = some (.int .i64 v.kind) := cell_of_row _ _ 0 _ _ _ r4
              have b1 : W2.cell? ⟨w.heap.size + 1, 1, none⟩ = some (.int .i64 v.mant) := cell_of_row _ _ 1 _ _ _ r4
              have b2 : W2.cell? ⟨w.heap.size + 1, 2, none⟩ = some (.int .i64 v.exp) := cell_of_row _ _ 2 _ _ _ r4
              have b3 : W2.cell? ⟨w.heap.size + 1, 3, none⟩ = some (.string v.text) := cell_of_row _ _ 3 _ _ _ r4
              have b4 : W2.cell? ⟨w.heap.size + 1, 4, none⟩ = some (.bool v.truth) := cell_of_row _ _ 4 _ _ _ r4
              have b5 : W2.cell? ⟨w.heap.size + 1, 5, none⟩ = some (.int .i64 v.fault) := cell_of_row _ _ 5 _ _ _ r4
              have lb := lt_of_block r4
              have c0 : W2.cell? ⟨pA, 0, none⟩ = some (.int .i64 k.kind) := cell_of_row _ _ 0 _ _ _ r7
              have c1 : W2.cell? ⟨pA, 1, none⟩ = some (.int .i64 k.mant) := cell_of_row _ _ 1 _ _ _ r7
              have c2 : W2.cell? ⟨pA, 2, none⟩ = some (.int .i64 k.exp) := cell_of_row _ _ 2 _ _ _ r7
              have c3 : W2.cell? ⟨pA, 3, none⟩ = some (.string k.text) := cell_of_row _ _ 3 _ _ _ r7
              have c4 : W2.cell? ⟨pA, 4, none⟩ = some (.bool k.truth) := cell_of_row _ _ 4 _ _ _ r7
              have c5 : W2.cell? ⟨pA, 5, none⟩ = some (.int .i64 k.fault) := cell_of_row _ _ 5 _ _ _ r7
              have lc := lt_of_block r7
              have d0 : W2.cell? ⟨pB, 0, none⟩ = some (.int .i64 u.kind) := cell_of_row _ _ 0 _ _ _ r8
              have d1 : W2.cell? ⟨pB, 1, none⟩ = some (.int .i64 u.mant) := cell_of_row _ _ 1 _ _ _ r8
              have d2 : W2.cell? ⟨pB, 2, none⟩ = some (.int .i64 u.exp) := cell_of_row _ _ 2 _ _ _ r8
              have d3 : W2.cell? ⟨pB, 3, none⟩ = some (.string u.text) := cell_of_row _ _ 3 _ _ _ r8
              have d4 : W2.cell? ⟨pB, 4, none⟩ = some (.bool u.truth) := cell_of_row _ _ 4 _ _ _ r8
              have d5 : W2.cell? ⟨pB, 5, none⟩ = some (.int .i64 u.fault) := cell_of_row _ _ 5 _ _ _ r8
              have ld := lt_of_block r8
              have t0 : W2.cell? ⟨p9, 0, none⟩ = some (.int .i64 C) := cell_of_row _ _ 0 _ _ _ r9
              have t1 : W2.cell? ⟨p9, 1, none⟩ = some (.int .i64 R) := cell_of_row _ _ 1 _ _ _ r9
              have t2 : W2.cell? ⟨p9, 2, none⟩ = some (.slice D9 m9 c9) := cell_of_row _ _ 2 _ _ _ r9
              have lt := lt_of_block r9
              refine wp_floatG [(0, 0), (3, 0), (4, 0), (7, 0), (15, 4), (8, 4), (5, 4), (1, 4), (1, 3), (2, 1), (5, 3), (6, 1), (8, 3), (9, 1), (10, 1), (11, 1), (12, 0), (13, 0), (14, 2), (15, 3)] [16, 17] [16, 17] [14] (by kernel_rfl) (by kernel_rfl) (by kernel_rfl) (fun _ _ d _ _ h => by cases d <;> exact h) (fun _ _ d _ _ h => by cases d <;> exact h) ?_
              iterate 4 ((refine wpFg_read (v := ?_) rfl ?_ (fun w1 h1 => ?_) ?_; rotate_left 1; rfl; (obtain ⟨os1, d1, rfl⟩ := h1.more; go_simp; first | done | rfl)); try simp only [Act.put, zqA, zqB, zqC])
              (refine wpFg_launch (t := 12) (.cells #[.int .i64 0, .int .i64 0, .slice none 0 0] 24) ptrB rfl rfl (fun w1 => ?_) ?_; (first | rfl | (simp [go_sem, ptrB]; done) | (go_simp; rfl)))
              (refine wpFg_launch (t := 76) ?_ (fun b => .slice (some ⟨b, 0, none⟩) 1 1) rfl rfl (fun w1 => ?_) ?_; rotate_left 1; (go_simp; first | done | rfl))
              (refine wpFg_launch (t := 73) ?_ (fun b => .slice (some ⟨b, 0, none⟩) 1 1) rfl rfl (fun w1 => ?_) ?_; rotate_left 1; (go_simp; first | done | rfl))
              (refine wpFg_launch (t := 69) ?_ (fun b => .slice (some ⟨b, 0, none⟩) 1 1) rfl rfl (fun w1 => ?_) ?_; rotate_left 1; (go_simp; first | done | rfl))
              refine wpFg_wait fun q1 _ _ _ => ?_; refine ⟨fun W => ArrIn W (some ⟨q1, 0, none⟩) 1 1 [v], fun _ _ hx h => h.ext hx, fun W _ hE h1 => arrIn_block [v] h1 rfl rfl (by decide) (by simpa using rv.ok), ?_⟩
              try simp only [Act.put, zqA, zqB, zqC]
              (refine wpFg_eff rfl ?_ (fun wf hXf hE K hK => ?_); rfl; obtain ⟨osf, df, rfl⟩ := hXf.more; go_simp; refine (row14_any _ _ _ _).mono ?_; rintro e w' ⟨rfl, hb⟩; refine hK _ _ (fun W => ArrIn W (some ⟨q1, 0, none⟩) 1 1 [v]) (by (try simp only [more_drew, more_more, Array.append_assoc]); exact hb) (fun _ _ hx h => h.ext hx) (hE.ext (by (try simp only [more_drew, more_more, Array.append_assoc]); exact hb)) ?_)
              try simp only [Act.put, zqA, zqB, zqC]
              refine wpFg_wait fun q2 _ _ _ => ?_; refine ⟨fun W => ArrIn W (some ⟨q1, 0, none⟩) 1 1 [v] ∧ ArrIn W (some ⟨q2, 0, none⟩) 1 1 [k], fun _ _ hx h => ⟨h.1.ext hx, h.2.ext hx⟩, fun W _ hE h1 => ⟨hE, arrIn_block [k] h1 rfl rfl (by decide) (by simpa using rk.ok)⟩, ?_⟩
              try simp only [Act.put, zqA, zqB, zqC]
              (refine wpFg_eff rfl ?_ (fun wf hXf hE K hK => ?_); rfl; obtain ⟨osf, df, rfl⟩ := hXf.more; go_simp; refine (row14_any _ _ _ _).mono ?_; rintro e w' ⟨rfl, hb⟩; refine hK _ _ (fun W => ArrIn W (some ⟨q1, 0, none⟩) 1 1 [v] ∧ ArrIn W (some ⟨q2, 0, none⟩) 1 1 [k]) (by (try simp only [more_drew, more_more, Array.append_assoc]); exact hb) (fun _ _ hx h => ⟨h.1.ext hx, h.2.ext hx⟩) ⟨hE.1.ext (by (try simp only [more_drew, more_more, Array.append_assoc]); exact hb), hE.2.ext (by (try simp only [more_drew, more_more, Array.append_assoc]); exact hb)⟩ ?_)
              try simp only [Act.put, zqA, zqB, zqC]
              refine wpFg_wait fun q3 _ _ _ => ?_; refine ⟨fun W => (ArrIn W (some ⟨q1, 0, none⟩) 1 1 [v] ∧ ArrIn W (some ⟨q2, 0, none⟩) 1 1 [k]) ∧ ArrIn W (some ⟨q3, 0, none⟩) 1 1 [u], fun _ _ hx h => ⟨⟨h.1.1.ext hx, h.1.2.ext hx⟩, h.2.ext hx⟩, fun W _ hE h1 => ⟨hE, arrIn_block [u] h1 rfl rfl (by decide) (by simpa using ru.ok)⟩, ?_⟩
              try simp only [Act.put, zqA, zqB, zqC]
              (refine wpFg_eff rfl ?_ (fun wf hXf hE K hK => ?_); rfl; obtain ⟨osf, df, rfl⟩ := hXf.more; go_simp; refine (row14_any _ _ _ _).mono ?_; rintro e w' ⟨rfl, hb⟩; refine hK _ _ (fun W => (ArrIn W (some ⟨q1, 0, none⟩) 1 1 [v] ∧ ArrIn W (some ⟨q2, 0, none⟩) 1 1 [k]) ∧ ArrIn W (some ⟨q3, 0, none⟩) 1 1 [u]) (by (try simp only [more_drew, more_more, Array.append_assoc]); exact hb) (fun _ _ hx h => ⟨⟨h.1.1.ext hx, h.1.2.ext hx⟩, h.2.ext hx⟩) ⟨⟨hE.1.1.ext (by (try simp only [more_drew, more_more, Array.append_assoc]); exact hb), hE.1.2.ext (by (try simp only [more_drew, more_more, Array.append_assoc]); exact hb)⟩, hE.2.ext (by (try simp only [more_drew, more_more, Array.append_assoc]); exact hb)⟩ ?_)
              try simp only [Act.put, zqA, zqB, zqC]
              (refine wpFg_eff rfl ?_ (fun wf hXf hE K hK => ?_); rfl; obtain ⟨osf, df, rfl⟩ := hXf.more; go_simp; generalize hq4 : W2.heap.size + osf.size = q4; refine hK _ _ (fun W => ArgsIn W (some ⟨q4, 0, none⟩) 4 4 [arOne v q1, ⟨⟨C, R, turnL R C l⟩, D9, m9, c9⟩, arOne k q2, arOne u q3]) (by (try simp only [drew_more]); exact (Ext.refl _).alloc _) (fun _ _ hx h => h.ext hx) (argsIn_new (n := 4) [arOne v q1, ⟨⟨C, R, turnL R C l⟩, D9, m9, c9⟩, arOne k q2, arOne u q3] (by rw [← hq4]; simp) rfl rfl (by decide) (by intro a ha; simp only [List.mem_cons, List.not_mem_nil, or_false] at ha; rcases ha with rfl | rfl | rfl | rfl; exact arOne_ok hE.1.1 rv; exact ⟨aT.ext (by repeat (first | (with_reducible (first | exact Ext.refl _ | exact ext_d _ _ _ _ | exact ext_app _ _ _ _ _ | exact ext_app2 _ _ _ _ _ _ | exact ext_app3 _ _ _ _ _ _ _)) | ((with_reducible refine ext_suffix ⟨_, ?_⟩); (try simp only [Array.append_assoc]); rfl) | (with_reducible (first | apply Ext.drew | apply Ext.alloc | apply Ext.more_)))), hRT⟩; exact arOne_ok hE.1.2 rk; exact arOne_ok hE.2 ru)) ?_)
              try simp only [Act.put, zqA, zqB, zqC]
              (refine wpFg_eff rfl ?_ (fun wf hXf hE K hK => ?_); rfl; obtain ⟨osf, df, rfl⟩ := hXf.more; go_simp; refine (call_below _ _ (arOne v q1) ⟨⟨C, R, turnL R C l⟩, D9, m9, c9⟩ (arOne k q2) (arOne u q3) v k u _ (HT.out.ext (hw2.trans (by repeat (first | (with_reducible (first | exact Ext.refl _ | exact ext_d _ _ _ _ | exact ext_app _ _ _ _ _ | exact ext_app2 _ _ _ _ _ _ | exact ext_app3 _ _ _ _ _ _ _)) | ((with_reducible refine ext_suffix ⟨_, ?_⟩); (try simp only [Array.append_assoc]); rfl) | (with_reducible (first | apply Ext.drew | apply Ext.alloc | apply Ext.more_)))))) hE rfl rfl rfl rv rk ru X HX.out).mono ?_; rintro e w' ⟨D12, m12, c12, rfl, hN, hb⟩; refine hK _ _ (fun W => ArrIn W D12 m12 c12 X.l) (by (try simp only [more_drew, more_more, Array.append_assoc]); exact hb) (fun _ _ hx h => h.ext hx) hN.arr ?_)
              try simp only [Act.put, zqA, zqB, zqC]
              iterate 2 ((refine wpFg_read (v := ?_) rfl ?_ (fun w1 h1 => ?_) ?_; rotate_left 1; rfl; (obtain ⟨os1, d1, rfl⟩ := h1.more; go_simp; first | done | rfl)); try simp only [Act.put, zqA, zqB, zqC])
              (refine wpFg_pure (v := ?_) rfl ?_ (fun w1 => ?_) ?_; rotate_left 1; rfl; (go_simp; first | done | rfl))
              try simp only [Act.put, zqA, zqB, zqC]
              refine wpFg_last fun osa da osb db hE => ?_
              try simp only [Act.put, zqA, zqB, zqC]
              iterate 2 ((refine wpTl_op rfl ?_ (fun K hK => ?_); rfl; go_simp; refine hK _ _ ?_); try simp only [Act.put, zqA, zqB, zqC])
              refine wpTl_nil ?_
              go_upto_region 7 with fail
              refine wp_world fun W3 hW3 => ?_
              obtain ⟨r12, hx23⟩ := var_at _ _ _ _ _ _ hW3
              have aY : ArrIn W3 D12 m12 c12 X.l := by rw [hW3]; exact hE.var3
              clear hW3 hE a0 a1 a2 b0 b1 b2 b3 b4 b5 c0 c1 c2 c3 c4 c5 d0 d1 d2 d3 d4 d5 t0 t1 t2 la lb lc ld lt
              replace r3 := (hx23.block (lt_of_block r3)).trans r3
              replace r4 := (hx23.block (lt_of_block r4)).trans r4
              replace r7 := (hx23.block (lt_of_block r7)).trans r7
              replace r8 := (hx23.block (lt_of_block r8)).trans r8
              replace r9 := (hx23.block (lt_of_block r9)).trans r9
              replace r10 := (hx23.block (lt_of_block r10)).trans r10
              replace aX := aX.ext hx23
              have hw3 := hw2.trans hx23
              have h3 := h2.ext hx23
              replace aT := aT.ext hx23
              generalize W2.heap.size + osa.size = p12 at *
              clear h2 hw2 hx23
              have l10 := lt_of_block r10
              have l12 := lt_of_block r12
              have x0 : W3.cell? ⟨p10, 0, none⟩ = some (.int .i64 X.R) := cell_of_row _ _ 0 _ _ _ r10
              have x1 : W3.cell? ⟨p10, 1, none⟩ = some (.int .i64 X.C) := cell_of_row _ _ 1 _ _ _ r10
              have x2 : W3.cell? ⟨p10, 2, none⟩ = some (.slice D10 m10 c10) := cell_of_row _ _ 2 _ _ _ r10
              have y0 : W3.cell? ⟨p12, 0, none⟩ = some (.int .i64 X.R) := cell_of_row _ _ 0 _ _ _ r12
              have y1 : W3.cell? ⟨p12, 1, none⟩ = some (.int .i64 X.C) := cell_of_row _ _ 1 _ _ _ r12
              have y2 : W3.cell? ⟨p12, 2, none⟩ = some (.slice D12 m12 c12) := cell_of_row _ _ 2 _ _ _ r12
              have hS := fun W (k1 : ArrIn W D10 m10 c10 X.l) (k2 : ArrIn W D12 m12 c12 X.l) => refSame_any X.R X.C X.R X.C D10 D12 m10 c10 m12 c12 X.l X.l W k1 k2
              rw [show sameA X.R X.C X.l X.R X.C X.l = true by simp [sameA]] at hS
              go_upto_region 9 with (go_at_call 11; (with_reducible refine (hS _ (aX.ext (by repeat (first | (with_reducible (first | exact Ext.refl _ | exact ext_d _ _ _ _ | exact ext_app _ _ _ _ _ | exact ext_app2 _ _ _ _ _ _ | exact ext_app3 _ _ _ _ _ _ _)) | ((with_reducible refine ext_suffix ⟨_, ?_⟩); (try simp only [Array.append_assoc]); rfl) | (with_reducible (first | apply Ext.drew | apply Ext.alloc | apply Ext.more_))))) (aY.ext (by repeat (first | (with_reducible (first | exact Ext.refl _ | exact ext_d _ _ _ _ | exact ext_app _ _ _ _ _ | exact ext_app2 _ _ _ _ _ _ | exact ext_app3 _ _ _ _ _ _ _)) | ((with_reducible refine ext_suffix ⟨_, ?_⟩); (try simp only [Array.append_assoc]); rfl) | (with_reducible (first | apply Ext.drew | apply Ext.alloc | apply Ext.more_)))))).mono ?_); rintro e w' ⟨rfl, hb⟩; obtain ⟨osy, dy, rfl⟩ := hb.more; clear hb)
              refine wp_world fun W4 hW4 => ?_
              have hx34 : Ext W3 W4 := by rw [hW4]; exact (by repeat (first | (with_reducible (first | exact Ext.refl _ | exact ext_d _ _ _ _ | exact ext_app _ _ _ _ _ | exact ext_app2 _ _ _ _ _ _ | exact ext_app3 _ _ _ _ _ _ _)) | ((with_reducible refine ext_suffix ⟨_, ?_⟩); (try simp only [Array.append_assoc]); rfl) | (with_reducible (first | apply Ext.drew | apply Ext.alloc | apply Ext.more_))))
              clear hW4 hS aX aY x0 x1 x2 y0 y1 y2 l10 l12 r10 r12 HX
              clear r8
              replace r3 := (hx34.block (lt_of_block r3)).trans r3
              replace r4 := (hx34.block (lt_of_block r4)).trans r4
              replace r7 := (hx34.block (lt_of_block r7)).trans r7
              replace r9 := (hx34.block (lt_of_block r9)).trans r9
              have hw4 := hw3.trans hx34
              have h4 := h3.ext hx34
              replace aT := aT.ext hx34
              clear h3 hw3
              have a0 : W4.cell? ⟨w.heap.size, 0, none⟩ = some (.int .i64 R) := cell_of_row _ _ 0 _ _ _ r3
              have a1 : W4.cell? ⟨w.heap.size, 1, none⟩ = some (.int .i64 C) := cell_of_row _ _ 1 _ _ _ r3
              have a2 : W4.cell? ⟨w.heap.size, 2, none⟩ = some (.slice A n cap) := cell_of_row _ _ 2 _ _ _ r3
              have la := lt_of_block r3
              have b0 : W4.cell? ⟨w.heap.size + 1, 0, none⟩ = some (.int .i64 v.kind) := cell_of_row _ _ 0 _ _ _ r4
              have b1 : W4.cell? ⟨w.heap.size + 1, 1, none⟩ = some (.int .i64 v.mant) := cell_of_row _ _ 1 _ _ _ r4
              have b2 : W4.cell? ⟨w.heap.size + 1, 2, none⟩ = some (.int .i64 v.exp) := cell_of_row _ _ 2 _ _ _ r4
              have b3 : W4.cell? ⟨w.heap.size + 1, 3, none⟩ = some (.string v.text) := cell_of_row _ _ 3 _ _ _ r4
              have b4 : W4.cell? ⟨w.heap.size + 1, 4, none⟩ = some (.bool v.truth) := cell_of_row _ _ 4 _ _ _ r4
              have b5 : W4.cell? ⟨w.heap.size + 1, 5, none⟩ = some (.int .i64 v.fault) := cell_of_row _ _ 5 _ _ _ r4
              have lb := lt_of_block r4
              have c0 : W4.cell? ⟨pA, 0, none⟩ = some (.int .i64 k.kind) := cell_of_row _ _ 0 _ _ _ r7
              have c1 : W4.cell? ⟨pA, 1, none⟩ = some (.int .i64 k.mant) := cell_of_row _ _ 1 _ _ _ r7
              have c2 : W4.cell? ⟨pA, 2, none⟩ = some (.int .i64 k.exp) := cell_of_row _ _ 2 _ _ _ r7
              have c3 : W4.cell? ⟨pA, 3, none⟩ = some (.string k.text) := cell_of_row _ _ 3 _ _ _ r7
              have c4 : W4.cell? ⟨pA, 4, none⟩ = some (.bool k.truth) := cell_of_row _ _ 4 _ _ _ r7
              have c5 : W4.cell? ⟨pA, 5, none⟩ = some (.int .i64 k.fault) := cell_of_row _ _ 5 _ _ _ r7
              have lc := lt_of_block r7
              have t0 : W4.cell? ⟨p9, 0, none⟩ = some (.int .i64 C) := cell_of_row _ _ 0 _ _ _ r9
              have t1 : W4.cell? ⟨p9, 1, none⟩ = some (.int .i64 R) := cell_of_row _ _ 1 _ _ _ r9
              have t2 : W4.cell? ⟨p9, 2, none⟩ = some (.slice D9 m9 c9) := cell_of_row _ _ 2 _ _ _ r9
              have lt := lt_of_block r9
              obtain ⟨P, hP⟩ : ∃ P, indexO ⟨R, C, l⟩ (wholeO k) (wholeO v) = P := ⟨_, rfl⟩
              obtain ⟨Z, hZ⟩ : ∃ Z, indexO ⟨C, R, turnL R C l⟩ (wholeO v) (wholeO k) = Z := ⟨_, rfl⟩
              have hIT := index_turned (a := ⟨R, C, l⟩) HR.out (wholeO k) (wholeO v)
              rw [show turnN ⟨R, C, l⟩ = ⟨C, R, turnL R C l⟩ from rfl, hP, hZ] at hIT
              have HP := Lib.hid hP
              have HZ := Lib.hid hZ
              have HIT := Lib.hid hIT
              clear hP hZ hIT
              refine wp_floatG [(0, 0), (1, 0), (4, 0), (12, 4), (5, 4), (2, 4), (2, 3), (3, 1), (5, 3), (6, 1), (7, 1), (8, 1), (9, 0), (10, 0), (11, 2), (12, 3)] [13, 14] [13, 14] [11] (by kernel_rfl) (by kernel_rfl) (by kernel_rfl) (fun _ _ d _ _ h => by cases d <;> exact h) (fun _ _ d _ _ h => by cases d <;> exact h) ?_
              iterate 3 ((refine wpFg_read (v := ?_) rfl ?_ (fun w1 h1 => ?_) ?_; rotate_left 1; rfl; (obtain ⟨os1, d1, rfl⟩ := h1.more; go_simp; first | done | rfl)); try simp only [Act.put, zqA, zqB, zqC])
              (refine wpFg_launch (t := 14) (.cells #[.int .i64 0, .int .i64 0, .slice none 0 0] 24) ptrB rfl rfl (fun w1 => ?_) ?_; (first | rfl | (simp [go_sem, ptrB]; done) | (go_simp; rfl)))
              (refine wpFg_launch (t := 100) ?_ (fun b => .slice (some ⟨b, 0, none⟩) 1 1) rfl rfl (fun w1 => ?_) ?_; rotate_left 1; (go_simp; first | done | rfl))
              (refine wpFg_launch (t := 97) ?_ (fun b => .slice (some ⟨b, 0, none⟩) 1 1) rfl rfl (fun w1 => ?_) ?_; rotate_left 1; (go_simp; first | done | rfl))
              refine wpFg_wait fun q1 _ _ _ => ?_; refine ⟨fun W => ArrIn W (some ⟨q1, 0, none⟩) 1 1 [k], fun _ _ hx h => h.ext hx, fun W _ hE h1 => arrIn_block [k] h1 rfl rfl (by decide) (by simpa using rk.ok), ?_⟩
              try simp only [Act.put, zqA, zqB, zqC]
              (refine wpFg_eff rfl ?_ (fun wf hXf hE K hK => ?_); rfl; obtain ⟨osf, df, rfl⟩ := hXf.more; go_simp; refine (row14_any _ _ _ _).mono ?_; rintro e w' ⟨rfl, hb⟩; refine hK _ _ (fun W => ArrIn W (some ⟨q1, 0, none⟩) 1 1 [k]) (by (try simp only [more_drew, more_more, Array.append_assoc]); exact hb) (fun _ _ hx h => h.ext hx) (hE.ext (by (try simp only [more_drew, more_more, Array.append_assoc]); exact hb)) ?_)
              try simp only [Act.put, zqA, zqB, zqC]
              refine wpFg_wait fun q2 _ _ _ => ?_; refine ⟨fun W => ArrIn W (some ⟨q1, 0, none⟩) 1 1 [k] ∧ ArrIn W (some ⟨q2, 0, none⟩) 1 1 [v], fun _ _ hx h => ⟨h.1.ext hx, h.2.ext hx⟩, fun W _ hE h1 => ⟨hE, arrIn_block [v] h1 rfl rfl (by decide) (by simpa using rv.ok)⟩, ?_⟩
              try simp only [Act.put, zqA, zqB, zqC]
              (refine wpFg_eff rfl ?_ (fun wf hXf hE K hK => ?_); rfl; obtain ⟨osf, df, rfl⟩ := hXf.more; go_simp; refine (row14_any _ _ _ _).mono ?_; rintro e w' ⟨rfl, hb⟩; refine hK _ _ (fun W => ArrIn W (some ⟨q1, 0, none⟩) 1 1 [k] ∧ ArrIn W (some ⟨q2, 0, none⟩) 1 1 [v]) (by (try simp only [more_drew, more_more, Array.append_assoc]); exact hb) (fun _ _ hx h => ⟨h.1.ext hx, h.2.ext hx⟩) ⟨hE.1.ext (by (try simp only [more_drew, more_more, Array.append_assoc]); exact hb), hE.2.ext (by (try simp only [more_drew, more_more, Array.append_assoc]); exact hb)⟩ ?_)
              try simp only [Act.put, zqA, zqB, zqC]
              (refine wpFg_eff rfl ?_ (fun wf hXf hE K hK => ?_); rfl; obtain ⟨osf, df, rfl⟩ := hXf.more; go_simp; generalize hq4 : W4.heap.size + osf.size = q4; refine hK _ _ (fun W => ArgsIn W (some ⟨q4, 0, none⟩) 3 3 [⟨⟨R, C, l⟩, A, n, cap⟩, arOne k q1, arOne v q2]) (by (try simp only [drew_more]); exact (Ext.refl _).alloc _) (fun _ _ hx h => h.ext hx) (argsIn_new (n := 3) [⟨⟨R, C, l⟩, A, n, cap⟩, arOne k q1, arOne v q2] (by rw [← hq4]; simp) rfl rfl (by decide) (by intro a ha; simp only [List.mem_cons, List.not_mem_nil, or_false] at ha; rcases ha with rfl | rfl | rfl; exact ⟨h4.ext (by repeat (first | (with_reducible (first | exact Ext.refl _ | exact ext_d _ _ _ _ | exact ext_app _ _ _ _ _ | exact ext_app2 _ _ _ _ _ _ | exact ext_app3 _ _ _ _ _ _ _)) | ((with_reducible refine ext_suffix ⟨_, ?_⟩); (try simp only [Array.append_assoc]); rfl) | (with_reducible (first | apply Ext.drew | apply Ext.alloc | apply Ext.more_)))), HR.out⟩; exact arOne_ok hE.1 rk; exact arOne_ok hE.2 rv)) ?_)
              try simp only [Act.put, zqA, zqB, zqC]
              (refine wpFg_eff rfl ?_ (fun wf hXf hE K hK => ?_); rfl; obtain ⟨osf, df, rfl⟩ := hXf.more; go_simp; refine (call_index3 _ _ ⟨⟨R, C, l⟩, A, n, cap⟩ (arOne k q1) (arOne v q2) k v _ hE rfl rfl rk rv P HP.out).mono ?_; rintro e w' ⟨D13, m13, c13, rfl, hN, hb⟩; refine hK _ _ (fun W => ArrIn W D13 m13 c13 P.l) (by (try simp only [more_drew, more_more, Array.append_assoc]); exact hb) (fun _ _ hx h => h.ext hx) hN.arr ?_)
              try simp only [Act.put, zqA, zqB, zqC]
              iterate 2 ((refine wpFg_read (v := ?_) rfl ?_ (fun w1 h1 => ?_) ?_; rotate_left 1; rfl; (obtain ⟨os1, d1, rfl⟩ := h1.more; go_simp; first | done | rfl)); try simp only [Act.put, zqA, zqB, zqC])
              (refine wpFg_pure (v := ?_) rfl ?_ (fun w1 => ?_) ?_; rotate_left 1; rfl; (go_simp; first | done | rfl))
              try simp only [Act.put, zqA, zqB, zqC]
              refine wpFg_last fun osa da osb db hE => ?_
              try simp only [Act.put, zqA, zqB, zqC]
              iterate 2 ((refine wpTl_op rfl ?_ (fun K hK => ?_); rfl; go_simp; refine hK _ _ ?_); try simp only [Act.put, zqA, zqB, zqC])
              refine wpTl_nil ?_
              go_upto_region 10 with fail
              refine wp_world fun W5 hW5 => ?_
              obtain ⟨r14, hx45⟩ := var_at _ _ _ _ _ _ hW5
              have aP : ArrIn W5 D13 m13 c13 P.l := by rw [hW5]; exact hE.var3
              clear hW5 hE a0 a1 a2 b0 b1 b2 b3 b4 b5 c0 c1 c2 c3 c4 c5 t0 t1 t2 la lb lc lt
              generalize W4.heap.size + osa.size = p14 at *
              replace r3 := (hx45.block (lt_of_block r3)).trans r3
              replace r4 := (hx45.block (lt_of_block r4)).trans r4
              replace r7 := (hx45.block (lt_of_block r7)).trans r7
              replace r9 := (hx45.block (lt_of_block r9)).trans r9
              have hw5 := hw4.trans hx45
              have h5 := h4.ext hx45
              replace aT := aT.ext hx45
              clear h4 hw4
              have a0 : W5.cell? ⟨w.heap.size, 0, none⟩ = some (.int .i64 R) := cell_of_row _ _ 0 _ _ _ r3
              have a1 : W5.cell? ⟨w.heap.size, 1, none⟩ = some (.int .i64 C) := cell_of_row _ _ 1 _ _ _ r3
              have a2 : W5.cell? ⟨w.heap.size, 2, none⟩ = some (.slice A n cap) := cell_of_row _ _ 2 _ _ _ r3
              have la := lt_of_block r3
              have b0 : W5.cell? ⟨w.heap.size + 1, 0, none⟩ = some (.int .i64 v.kind) := cell_of_row _ _ 0 _ _ _ r4
              have b1 : W5.cell? ⟨w.heap.size + 1, 1, none⟩ = some (.int .i64 v.mant) := cell_of_row _ _ 1 _ _ _ r4
              have b2 : W5.cell? ⟨w.heap.size + 1, 2, none⟩ = some (.int .i64 v.exp) := cell_of_row _ _ 2 _ _ _ r4
              have b3 : W5.cell? ⟨w.heap.size + 1, 3, none⟩ = some (.string v.text) := cell_of_row _ _ 3 _ _ _ r4
              have b4 : W5.cell? ⟨w.heap.size + 1, 4, none⟩ = some (.bool v.truth) := cell_of_row _ _ 4 _ _ _ r4
              have b5 : W5.cell? ⟨w.heap.size + 1, 5, none⟩ = some (.int .i64 v.fault) := cell_of_row _ _ 5 _ _ _ r4
              have lb := lt_of_block r4
              have c0 : W5.cell? ⟨pA, 0, none⟩ = some (.int .i64 k.kind) := cell_of_row _ _ 0 _ _ _ r7
              have c1 : W5.cell? ⟨pA, 1, none⟩ = some (.int .i64 k.mant) := cell_of_row _ _ 1 _ _ _ r7
              have c2 : W5.cell? ⟨pA, 2, none⟩ = some (.int .i64 k.exp) := cell_of_row _ _ 2 _ _ _ r7
              have c3 : W5.cell? ⟨pA, 3, none⟩ = some (.string k.text) := cell_of_row _ _ 3 _ _ _ r7
              have c4 : W5.cell? ⟨pA, 4, none⟩ = some (.bool k.truth) := cell_of_row _ _ 4 _ _ _ r7
              have c5 : W5.cell? ⟨pA, 5, none⟩ = some (.int .i64 k.fault) := cell_of_row _ _ 5 _ _ _ r7
              have lc := lt_of_block r7
              have t0 : W5.cell? ⟨p9, 0, none⟩ = some (.int .i64 C) := cell_of_row _ _ 0 _ _ _ r9
              have t1 : W5.cell? ⟨p9, 1, none⟩ = some (.int .i64 R) := cell_of_row _ _ 1 _ _ _ r9
              have t2 : W5.cell? ⟨p9, 2, none⟩ = some (.slice D9 m9 c9) := cell_of_row _ _ 2 _ _ _ r9
              have lt := lt_of_block r9
              refine wp_floatG [(0, 0), (1, 0), (4, 0), (12, 4), (5, 4), (2, 4), (2, 3), (3, 1), (5, 3), (6, 1), (7, 1), (8, 1), (9, 0), (10, 0), (11, 2), (12, 3)] [13, 14] [13, 14] [11] (by kernel_rfl) (by kernel_rfl) (by kernel_rfl) (fun _ _ d _ _ h => by cases d <;> exact h) (fun _ _ d _ _ h => by cases d <;> exact h) ?_
              iterate 3 ((refine wpFg_read (v := ?_) rfl ?_ (fun w1 h1 => ?_) ?_; rotate_left 1; rfl; (obtain ⟨os1, d1, rfl⟩ := h1.more; go_simp; first | done | rfl)); try simp only [Act.put, zqA, zqB, zqC])
              (refine wpFg_launch (t := 16) (.cells #[.int .i64 0, .int .i64 0, .slice none 0 0] 24) ptrB rfl rfl (fun w1 => ?_) ?_; (first | rfl | (simp [go_sem, ptrB]; done) | (go_simp; rfl)))
              (refine wpFg_launch (t := 112) ?_ (fun b => .slice (some ⟨b, 0, none⟩) 1 1) rfl rfl (fun w1 => ?_) ?_; rotate_left 1; (go_simp; first | done | rfl))
              (refine wpFg_launch (t := 109) ?_ (fun b => .slice (some ⟨b, 0, none⟩) 1 1) rfl rfl (fun w1 => ?_) ?_; rotate_left 1; (go_simp; first | done | rfl))
              refine wpFg_wait fun q1 _ _ _ => ?_; refine ⟨fun W => ArrIn W (some ⟨q1, 0, none⟩) 1 1 [v], fun _ _ hx h => h.ext hx, fun W _ hE h1 => arrIn_block [v] h1 rfl rfl (by decide) (by simpa using rv.ok), ?_⟩
              try simp only [Act.put, zqA, zqB, zqC]
              (refine wpFg_eff rfl ?_ (fun wf hXf hE K hK => ?_); rfl; obtain ⟨osf, df, rfl⟩ := hXf.more; go_simp; refine (row14_any _ _ _ _).mono ?_; rintro e w' ⟨rfl, hb⟩; refine hK _ _ (fun W => ArrIn W (some ⟨q1, 0, none⟩) 1 1 [v]) (by (try simp only [more_drew, more_more, Array.append_assoc]); exact hb) (fun _ _ hx h => h.ext hx) (hE.ext (by (try simp only [more_drew, more_more, Array.append_assoc]); exact hb)) ?_)
              try simp only [Act.put, zqA, zqB, zqC]
              refine wpFg_wait fun q2 _ _ _ => ?_; refine ⟨fun W => ArrIn W (some ⟨q1, 0, none⟩) 1 1 [v] ∧ ArrIn W (some ⟨q2, 0, none⟩) 1 1 [k], fun _ _ hx h => ⟨h.1.ext hx, h.2.ext hx⟩, fun W _ hE h1 => ⟨hE, arrIn_block [k] h1 rfl rfl (by decide) (by simpa using rk.ok)⟩, ?_⟩
              try simp only [Act.put, zqA, zqB, zqC]
              (refine wpFg_eff rfl ?_ (fun wf hXf hE K hK => ?_); rfl; obtain ⟨osf, df, rfl⟩ := hXf.more; go_simp; refine (row14_any _ _ _ _).mono ?_; rintro e w' ⟨rfl, hb⟩; refine hK _ _ (fun W => ArrIn W (some ⟨q1, 0, none⟩) 1 1 [v] ∧ ArrIn W (some ⟨q2, 0, none⟩) 1 1 [k]) (by (try simp only [more_drew, more_more, Array.append_assoc]); exact hb) (fun _ _ hx h => ⟨h.1.ext hx, h.2.ext hx⟩) ⟨hE.1.ext (by (try simp only [more_drew, more_more, Array.append_assoc]); exact hb), hE.2.ext (by (try simp only [more_drew, more_more, Array.append_assoc]); exact hb)⟩ ?_)
              try simp only [Act.put, zqA, zqB, zqC]
              (refine wpFg_eff rfl ?_ (fun wf hXf hE K hK => ?_); rfl; obtain ⟨osf, df, rfl⟩ := hXf.more; go_simp; generalize hq4 : W5.heap.size + osf.size = q4; refine hK _ _ (fun W => ArgsIn W (some ⟨q4, 0, none⟩) 3 3 [⟨⟨C, R, turnL R C l⟩, D9, m9, c9⟩, arOne v q1, arOne k q2]) (by (try simp only [drew_more]); exact (Ext.refl _).alloc _) (fun _ _ hx h => h.ext hx) (argsIn_new (n := 3) [⟨⟨C, R, turnL R C l⟩, D9, m9, c9⟩, arOne v q1, arOne k q2] (by rw [← hq4]; simp) rfl rfl (by decide) (by intro a ha; simp only [List.mem_cons, List.not_mem_nil, or_false] at ha; rcases ha with rfl | rfl | rfl; exact ⟨aT.ext (by repeat (first | (with_reducible (first | exact Ext.refl _ | exact ext_d _ _ _ _ | exact ext_app _ _ _ _ _ | exact ext_app2 _ _ _ _ _ _ | exact ext_app3 _ _ _ _ _ _ _)) | ((with_reducible refine ext_suffix ⟨_, ?_⟩); (try simp only [Array.append_assoc]); rfl) | (with_reducible (first | apply Ext.drew | apply Ext.alloc | apply Ext.more_)))), hRT⟩; exact arOne_ok hE.1 rv; exact arOne_ok hE.2 rk)) ?_)
              try simp only [Act.put, zqA, zqB, zqC]
              (refine wpFg_eff rfl ?_ (fun wf hXf hE K hK => ?_); rfl; obtain ⟨osf, df, rfl⟩ := hXf.more; go_simp; refine (call_index3 _ _ ⟨⟨C, R, turnL R C l⟩, D9, m9, c9⟩ (arOne v q1) (arOne k q2) v k _ hE rfl rfl rv rk Z HZ.out).mono ?_; rintro e w' ⟨D15, m15, c15, rfl, hN, hb⟩; refine hK _ _ (fun W => ArrIn W D15 m15 c15 Z.l) (by (try simp only [more_drew, more_more, Array.append_assoc]); exact hb) (fun _ _ hx h => h.ext hx) hN.arr ?_)
              try simp only [Act.put, zqA, zqB, zqC]
              iterate 2 ((refine wpFg_read (v := ?_) rfl ?_ (fun w1 h1 => ?_) ?_; rotate_left 1; rfl; (obtain ⟨os1, d1, rfl⟩ := h1.more; go_simp; first | done | rfl)); try simp only [Act.put, zqA, zqB, zqC])
              (refine wpFg_pure (v := ?_) rfl ?_ (fun w1 => ?_) ?_; rotate_left 1; rfl; (go_simp; first | done | rfl))
              try simp only [Act.put, zqA, zqB, zqC]
              refine wpFg_last fun osa da osb db hE => ?_
              try simp only [Act.put, zqA, zqB, zqC]
              iterate 2 ((refine wpTl_op rfl ?_ (fun K hK => ?_); rfl; go_simp; refine hK _ _ ?_); try simp only [Act.put, zqA, zqB, zqC])
              refine wpTl_nil ?_
              go_upto_region 11 with fail
              refine wp_world fun W6 hW6 => ?_
              obtain ⟨r16, hx56⟩ := var_at _ _ _ _ _ _ hW6
              have aZ : ArrIn W6 D15 m15 c15 Z.l := by rw [hW6]; exact hE.var3
              clear hW6 hE a0 a1 a2 b0 b1 b2 b3 b4 b5 c0 c1 c2 c3 c4 c5 t0 t1 t2 la lb lc lt
              generalize W5.heap.size + osa.size = p16 at *
              replace r14 := (hx56.block (lt_of_block r14)).trans r14
              replace aP := aP.ext hx56
              have hw6 := hw5.trans hx56
              clear r3 r4 r7 r9 aT h5 hw5 hx56 hx45 hx34
              have e0 : W6.cell? ⟨p14, 0, none⟩ = some (.int .i64 P.R) := cell_of_row _ _ 0 _ _ _ r14
              have e1 : W6.cell? ⟨p14, 1, none⟩ = some (.int .i64 P.C) := cell_of_row _ _ 1 _ _ _ r14
              have e2 : W6.cell? ⟨p14, 2, none⟩ = some (.slice D13 m13 c13) := cell_of_row _ _ 2 _ _ _ r14
              have f0 : W6.cell? ⟨p16, 0, none⟩ = some (.int .i64 Z.R) := cell_of_row _ _ 0 _ _ _ r16
              have f1 : W6.cell? ⟨p16, 1, none⟩ = some (.int .i64 Z.C) := cell_of_row _ _ 1 _ _ _ r16
              have f2 : W6.cell? ⟨p16, 2, none⟩ = some (.slice D15 m15 c15) := cell_of_row _ _ 2 _ _ _ r16
              have l14 := lt_of_block r14
              have l16 := lt_of_block r16
              have mP := aP.len
              have mZ := aZ.len
              rcases HIT.out with ⟨⟨x, hx1, hx4⟩, ⟨z, hz1, hz4⟩⟩ | ⟨hnf, hPr, hZP⟩
              · rw [hx1] at aP mP
                rw [hz1] at aZ mZ
                obtain rfl : m13 = 1 := mP.symm
                obtain rfl : m15 = 1 := mZ.symm
                obtain ⟨x', bp, op, hx0, hxo, rfl, hat⟩ := aP.at (k := 0) Nat.one_pos
                obtain rfl : x = x' := by simpa using hx0
                obtain ⟨z', bz, oz, hz0, hzo, rfl, hatz⟩ := aZ.at (k := 0) Nat.one_pos
                obtain rfl : z = z' := by simpa using hz0
                obtain ⟨v0, _⟩ := hat
                obtain ⟨z0, _⟩ := hatz
                simp only [Nat.zero_mul, Nat.add_zero] at v0 z0
                rw [hx4] at v0
                rw [hz4] at z0
                have hlb := lt_of_cell v0
                have hlz := lt_of_cell z0
                clear mP mZ hx0 hz0 hx1 hz1 hx4 hz4 hxo hzo HIT r14 r16
                go_wp2_with fail
                go_ret
                exact ⟨rfl, hw6.trans (by repeat (first | (with_reducible (first | exact Ext.refl _ | exact ext_d _ _ _ _ | exact ext_app _ _ _ _ _ | exact ext_app2 _ _ _ _ _ _ | exact ext_app3 _ _ _ _ _ _ _)) | ((with_reducible refine ext_suffix ⟨_, ?_⟩); (try simp only [Array.append_assoc]); rfl) | (with_reducible (first | apply Ext.drew | apply Ext.alloc | apply Ext.more_))))⟩
              · have gP := fun W (hW : ArrIn W D13 m13 c13 P.l) => refRightA_any P.R P.C D13 m13 c13 P.l W hW
                rw [← rightA_eq _ _ _ aP.ok, show rightA (P.R : Int) P.C P.l = true from hPr] at gP
                have gT := fun W (hW : ArrIn W D13 m13 c13 P.l) => refTurn_res P D13 m13 c13 W hW hPr
                rw [← hZP] at gT
                have hS := fun W D m c (k1 : ArrIn W D m c Z.l) (k2 : ArrIn W D15 m15 c15 Z.l) => refSame_any Z.R Z.C Z.R Z.C D D15 m c m15 c15 Z.l Z.l W k1 k2
                rw [show sameA Z.R Z.C Z.l Z.R Z.C Z.l = true by simp [sameA]] at hS
                clear hZP hPr
                by_cases hm : P.l.length = 1
                · obtain ⟨x, hx1⟩ := List.length_eq_one_iff.1 hm
                  have hx4 : ¬ x.kind = 4 := fun e => hnf ⟨x, hx1, e⟩
                  obtain rfl : m13 = 1 := by rw [← mP]; exact hm
                  obtain ⟨x', bp, op, hx0, hxo, rfl, hat⟩ := aP.at (k := 0) Nat.one_pos
                  obtain rfl : x = x' := by rw [hx1] at hx0; simpa using hx0
                  obtain ⟨v0, _⟩ := hat
                  simp only [Nat.zero_mul, Nat.add_zero] at v0
                  have hlb := lt_of_cell v0
                  generalize x.kind = K at *
                  clear mP mZ hx0 hx1 hm hxo HIT r14 r16 hnf
                  go_wp2_with fail
                  refine wp_plan (S := Ext _) [(0, 0), (1, 1), (2, 0), (3, 0), (5, 0), (4, 1), (6, 1), (7, 0), (8, 0)] [] (by kernel_rfl) (by kernel_rfl) (by kernel_rfl) (fun _ _ d _ _ h => by cases d <;> exact h) (Ext.drew (Ext.refl _)) ?_
                  (refine wpPl_read (v := ?_) rfl ?_ (fun _ h => ?_) ?_; rotate_left 1; rfl; (obtain ⟨_, _, rfl⟩ := h.more; go_simp; try rfl))
                  try simp only [Act.put, zqA, zqB, zqC]
                  (refine wpPl_eff rfl ?_ (fun K hK => ?_); rfl; go_simp; refine (gP _ (aP.ext (by repeat (first | (with_reducible (first | exact Ext.refl _ | exact ext_d _ _ _ _ | exact ext_app _ _ _ _ _ | exact ext_app2 _ _ _ _ _ _ | exact ext_app3 _ _ _ _ _ _ _)) | ((with_reducible refine ext_suffix ⟨_, ?_⟩); (try simp only [Array.append_assoc]); rfl) | (with_reducible (first | apply Ext.drew | apply Ext.alloc | apply Ext.more_)))))).mono ?_; rintro e w' ⟨rfl, hb⟩; obtain ⟨os1, d1, rfl⟩ := hb.more; clear hb; refine hK _ _ ?_ ?_; (repeat (first | (with_reducible (first | exact Ext.refl _ | exact ext_d _ _ _ _ | exact ext_app _ _ _ _ _ | exact ext_app2 _ _ _ _ _ _ | exact ext_app3 _ _ _ _ _ _ _ | exact ext_app4 _ _ _ _ _ _ _ _ | exact ext_app5 _ _ _ _ _ _ _ _ _)) | ((with_reducible refine ext_suffix ⟨_, ?_⟩); (try simp only [Array.append_assoc]); rfl) | (with_reducible (first | apply Ext.drew | apply Ext.alloc | apply Ext.more_)) | apply Ext.drew | apply Ext.alloc | apply Ext.more_)))
                  try simp only [Act.put, zqA, zqB, zqC]
                  (refine wpPl_read (v := ?_) rfl ?_ (fun _ h => ?_) ?_; rotate_left 1; rfl; (obtain ⟨_, _, rfl⟩ := h.more; go_simp; try rfl))
                  try simp only [Act.put, zqA, zqB, zqC]
                  iterate 2 ((first | (refine wpPl_skip rfl rfl ?_) | (refine wpPl_read (v := ?_) rfl ?_ (fun w1 h1 => ?_) ?_; rotate_left 1; rfl; (obtain ⟨os1, d1, rfl⟩ := h1.more; go_simp; first | done | rfl)) | (refine wpPl_gread (v := ?_) (c := ?_) rfl rfl rfl rfl ?_ (fun hc w1 h1 => ?_) ?_; rotate_left 2; (first | exact gc_t _ | exact gc_f _ | exact gc_gt _ _ | exact gc_gf _ _); (obtain ⟨os1, d1, rfl⟩ := h1.more; (try simp only [gv_of hc]); (try (have hc1 := and_l hc; (try simp only [gv_of hc1]); (try (have hc2 := and_l hc1; (try simp only [gv_of hc2]))))); go_simp; first | done | rfl))); try simp only [Act.put, zqA, zqB, zqC])
                  (refine wpPl_eff rfl ?_ (fun K hK => ?_); (first | with_reducible rfl | rfl | (go_simp; done)); go_simp; refine (gT _ (aP.ext (by repeat (first | (with_reducible (first | exact Ext.refl _ | exact ext_d _ _ _ _ | exact ext_app _ _ _ _ _ | exact ext_app2 _ _ _ _ _ _ | exact ext_app3 _ _ _ _ _ _ _)) | ((with_reducible refine ext_suffix ⟨_, ?_⟩); (try simp only [Array.append_assoc]); rfl) | (with_reducible (first | apply Ext.drew | apply Ext.alloc | apply Ext.more_)))))).mono ?_; rintro e w' ⟨D17, m17, c17, rfl, hN, hb⟩; obtain ⟨os17, d17, rfl⟩ := hb.more; clear hb; have hNa := hN.arr; clear hN; (try simp only [more_more, Array.append_assoc] at hNa); refine hK _ _ ?_ ?_; (repeat (first | (with_reducible (first | exact Ext.refl _ | exact ext_d _ _ _ _ | exact ext_app _ _ _ _ _ | exact ext_app2 _ _ _ _ _ _ | exact ext_app3 _ _ _ _ _ _ _ | exact ext_app4 _ _ _ _ _ _ _ _ | exact ext_app5 _ _ _ _ _ _ _ _ _)) | ((with_reducible refine ext_suffix ⟨_, ?_⟩); (try simp only [Array.append_assoc]); rfl) | (with_reducible (first | apply Ext.drew | apply Ext.alloc | apply Ext.more_)) | apply Ext.drew | apply Ext.alloc | apply Ext.more_)))
                  try simp only [Act.put, zqA, zqB, zqC]
                  (refine wpPl_eff rfl ?_ (fun K hK => ?_); (first | with_reducible rfl | rfl | (go_simp; done)); go_simp; refine (hS _ _ _ _ (hNa.ext (by repeat (first | (with_reducible (first | exact Ext.refl _ | exact ext_d _ _ _ _ | exact ext_app _ _ _ _ _ | exact ext_app2 _ _ _ _ _ _ | exact ext_app3 _ _ _ _ _ _ _)) | ((with_reducible refine ext_suffix ⟨_, ?_⟩); (try simp only [Array.append_assoc]); rfl) | (with_reducible (first | apply Ext.drew | apply Ext.alloc | apply Ext.more_))))) (aZ.ext (by repeat (first | (with_reducible (first | exact Ext.refl _ | exact ext_d _ _ _ _ | exact ext_app _ _ _ _ _ | exact ext_app2 _ _ _ _ _ _ | exact ext_app3 _ _ _ _ _ _ _)) | ((with_reducible refine ext_suffix ⟨_, ?_⟩); (try simp only [Array.append_assoc]); rfl) | (with_reducible (first | apply Ext.drew | apply Ext.alloc | apply Ext.more_)))))).mono ?_; rintro e w' ⟨rfl, hb⟩; obtain ⟨os6, d6, rfl⟩ := hb.more; clear hb; refine hK _ _ ?_ ?_; (repeat (first | (with_reducible (first | exact Ext.refl _ | exact ext_d _ _ _ _ | exact ext_app _ _ _ _ _ | exact ext_app2 _ _ _ _ _ _ | exact ext_app3 _ _ _ _ _ _ _ | exact ext_app4 _ _ _ _ _ _ _ _ | exact ext_app5 _ _ _ _ _ _ _ _ _)) | ((with_reducible refine ext_suffix ⟨_, ?_⟩); (try simp only [Array.append_assoc]); rfl) | (with_reducible (first | apply Ext.drew | apply Ext.alloc | apply Ext.more_)) | apply Ext.drew | apply Ext.alloc | apply Ext.more_)))
                  try simp only [Act.put, zqA, zqB, zqC]
                  first | (refine wpPl_pick_and rfl rfl rfl rfl rfl rfl ?_) | (refine wpPl_pick_or rfl rfl rfl rfl rfl rfl ?_) | (refine wpPl_read (v := ?_) rfl ?_ (fun w1 h1 => ?_) ?_; rotate_left 1; rfl; (obtain ⟨os1, d1, rfl⟩ := h1.more; go_simp; first | done | rfl))
                  try simp only [Act.put, zqA, zqB, zqC]
                  (refine wpPl_read (v := ?_) rfl ?_ (fun _ h => ?_) ?_; rotate_left 1; rfl; (obtain ⟨_, _, rfl⟩ := h.more; go_simp; try rfl))
                  try simp only [Act.put, zqA, zqB, zqC]
                  refine wpPl_nil ?_
                  go_wp2_with fail
                  go_ret
                  exact ⟨rfl, hw6.trans (by repeat (first | (with_reducible (first | exact Ext.refl _ | exact ext_d _ _ _ _ | exact ext_app _ _ _ _ _ | exact ext_app2 _ _ _ _ _ _ | exact ext_app3 _ _ _ _ _ _ _)) | ((with_reducible refine ext_suffix ⟨_, ?_⟩); (try simp only [Array.append_assoc]); rfl) | (with_reducible (first | apply Ext.drew | apply Ext.alloc | apply Ext.more_))))⟩
                · have hm1 : ¬ ((m13 : Int) = 1) := fun e => hm (by rw [mP]; omega)
                  clear mP mZ hm HIT r14 r16 hnf
                  go_wp2_with fail
                  refine wp_plan (S := Ext _) [(0, 0), (1, 1), (2, 0), (3, 0), (5, 0), (4, 1), (6, 1), (7, 0), (8, 0)] [] (by kernel_rfl) (by kernel_rfl) (by kernel_rfl) (fun _ _ d _ _ h => by cases d <;> exact h) (Ext.drew (Ext.refl _)) ?_
                  (refine wpPl_read (v := ?_) rfl ?_ (fun _ h => ?_) ?_; rotate_left 1; rfl; (obtain ⟨_, _, rfl⟩ := h.more; go_simp; try rfl))
                  try simp only [Act.put, zqA, zqB, zqC]
                  (refine wpPl_eff rfl ?_ (fun K hK => ?_); rfl; go_simp; refine (gP _ (aP.ext (by repeat (first | (with_reducible (first | exact Ext.refl _ | exact ext_d _ _ _ _ | exact ext_app _ _ _ _ _ | exact ext_app2 _ _ _ _ _ _ | exact ext_app3 _ _ _ _ _ _ _)) | ((with_reducible refine ext_suffix ⟨_, ?_⟩); (try simp only [Array.append_assoc]); rfl) | (with_reducible (first | apply Ext.drew | apply Ext.alloc | apply Ext.more_)))))).mono ?_; rintro e w' ⟨rfl, hb⟩; obtain ⟨os1, d1, rfl⟩ := hb.more; clear hb; refine hK _ _ ?_ ?_; (repeat (first | (with_reducible (first | exact Ext.refl _ | exact ext_d _ _ _ _ | exact ext_app _ _ _ _ _ | exact ext_app2 _ _ _ _ _ _ | exact ext_app3 _ _ _ _ _ _ _ | exact ext_app4 _ _ _ _ _ _ _ _ | exact ext_app5 _ _ _ _ _ _ _ _ _)) | ((with_reducible refine ext_suffix ⟨_, ?_⟩); (try simp only [Array.append_assoc]); rfl) | (with_reducible (first | apply Ext.drew | apply Ext.alloc | apply Ext.more_)) | apply Ext.drew | apply Ext.alloc | apply Ext.more_)))
                  try simp only [Act.put, zqA, zqB, zqC]
                  (refine wpPl_read (v := ?_) rfl ?_ (fun _ h => ?_) ?_; rotate_left 1; rfl; (obtain ⟨_, _, rfl⟩ := h.more; go_simp; try rfl))
                  try simp only [Act.put, zqA, zqB, zqC]
                  iterate 2 ((first | (refine wpPl_skip rfl rfl ?_) | (refine wpPl_read (v := ?_) rfl ?_ (fun w1 h1 => ?_) ?_; rotate_left 1; rfl; (obtain ⟨os1, d1, rfl⟩ := h1.more; go_simp; first | done | rfl)) | (refine wpPl_gread (v := ?_) (c := ?_) rfl rfl rfl rfl ?_ (fun hc w1 h1 => ?_) ?_; rotate_left 2; (first | exact gc_t _ | exact gc_f _ | exact gc_gt _ _ | exact gc_gf _ _); (obtain ⟨os1, d1, rfl⟩ := h1.more; (try simp only [gv_of hc]); (try (have hc1 := and_l hc; (try simp only [gv_of hc1]); (try (have hc2 := and_l hc1; (try simp only [gv_of hc2]))))); go_simp; first | done | rfl))); try simp only [Act.put, zqA, zqB, zqC])
                  (refine wpPl_eff rfl ?_ (fun K hK => ?_); (first | with_reducible rfl | rfl | (go_simp; done)); go_simp; refine (gT _ (aP.ext (by repeat (first | (with_reducible (first | exact Ext.refl _ | exact ext_d _ _ _ _ | exact ext_app _ _ _ _ _ | exact ext_app2 _ _ _ _ _ _ | exact ext_app3 _ _ _ _ _ _ _)) | ((with_reducible refine ext_suffix ⟨_, ?_⟩); (try simp only [Array.append_assoc]); rfl) | (with_reducible (first | apply Ext.drew | apply Ext.alloc | apply Ext.more_)))))).mono ?_; rintro e w' ⟨D17, m17, c17, rfl, hN, hb⟩; obtain ⟨os17, d17, rfl⟩ := hb.more; clear hb; have hNa := hN.arr; clear hN; (try simp only [more_more, Array.append_assoc] at hNa); refine hK _ _ ?_ ?_; (repeat (first | (with_reducible (first | exact Ext.refl _ | exact ext_d _ _ _ _ | exact ext_app _ _ _ _ _ | exact ext_app2 _ _ _ _ _ _ | exact ext_app3 _ _ _ _ _ _ _ | exact ext_app4 _ _ _ _ _ _ _ _ | exact ext_app5 _ _ _ _ _ _ _ _ _)) | ((with_reducible refine ext_suffix ⟨_, ?_⟩); (try simp only [Array.append_assoc]); rfl) | (with_reducible (first | apply Ext.drew | apply Ext.alloc | apply Ext.more_)) | apply Ext.drew | apply Ext.alloc | apply Ext.more_)))
                  try simp only [Act.put, zqA, zqB, zqC]
                  (refine wpPl_eff rfl ?_ (fun K hK => ?_); (first | with_reducible rfl | rfl | (go_simp; done)); go_simp; refine (hS _ _ _ _ (hNa.ext (by repeat (first | (with_reducible (first | exact Ext.refl _ | exact ext_d _ _ _ _ | exact ext_app _ _ _ _ _ | exact ext_app2 _ _ _ _ _ _ | exact ext_app3 _ _ _ _ _ _ _)) | ((with_reducible refine ext_suffix ⟨_, ?_⟩); (try simp only [Array.append_assoc]); rfl) | (with_reducible (first | apply Ext.drew | apply Ext.alloc | apply Ext.more_))))) (aZ.ext (by repeat (first | (with_reducible (first | exact Ext.refl _ | exact ext_d _ _ _ _ | exact ext_app _ _ _ _ _ | exact ext_app2 _ _ _ _ _ _ | exact ext_app3 _ _ _ _ _ _ _)) | ((with_reducible refine ext_suffix ⟨_, ?_⟩); (try simp only [Array.append_assoc]); rfl) | (with_reducible (first | apply Ext.drew | apply Ext.alloc | apply Ext.more_)))))).mono ?_; rintro e w' ⟨rfl, hb⟩; obtain ⟨os6, d6, rfl⟩ := hb.more; clear hb; refine hK _ _ ?_ ?_; (repeat (first | (with_reducible (first | exact Ext.refl _ | exact ext_d _ _ _ _ | exact ext_app _ _ _ _ _ | exact ext_app2 _ _ _ _ _ _ | exact ext_app3 _ _ _ _ _ _ _ | exact ext_app4 _ _ _ _ _ _ _ _ | exact ext_app5 _ _ _ _ _ _ _ _ _)) | ((with_reducible refine ext_suffix ⟨_, ?_⟩); (try simp only [Array.append_assoc]); rfl) | (with_reducible (first | apply Ext.drew | apply Ext.alloc | apply Ext.more_)) | apply Ext.drew | apply Ext.alloc | apply Ext.more_)))
                  try simp only [Act.put, zqA, zqB, zqC]
                  first | (refine wpPl_pick_and rfl rfl rfl rfl rfl rfl ?_) | (refine wpPl_pick_or rfl rfl rfl rfl rfl rfl ?_) | (refine wpPl_read (v := ?_) rfl ?_ (fun w1 h1 => ?_) ?_; rotate_left 1; rfl; (obtain ⟨os1, d1, rfl⟩ := h1.more; go_simp; first | done | rfl))
                  try simp only [Act.put, zqA, zqB, zqC]
                  (refine wpPl_read (v := ?_) rfl ?_ (fun _ h => ?_) ?_; rotate_left 1; rfl; (obtain ⟨_, _, rfl⟩ := h.more; go_simp; try rfl))
                  try simp only [Act.put, zqA, zqB, zqC]
                  refine wpPl_nil ?_
                  go_wp2_with fail
                  go_ret
                  exact ⟨rfl, hw6.trans (by repeat (first | (with_reducible (first | exact Ext.refl _ | exact ext_d _ _ _ _ | exact ext_app _ _ _ _ _ | exact ext_app2 _ _ _ _ _ _ | exact ext_app3 _ _ _ _ _ _ _)) | ((with_reducible refine ext_suffix ⟨_, ?_⟩); (try simp only [Array.append_assoc]); rfl) | (with_reducible (first | apply Ext.drew | apply Ext.alloc | apply Ext.more_))))⟩
  · go_upto_region 2 with fail
    refine wp_world fun W0 hW0 => ?_
    have hx0 : Ext w W0 := by rw [hW0]; exact (by repeat (first | (with_reducible (first | exact Ext.refl _ | exact ext_d _ _ _ _ | exact ext_app _ _ _ _ _ | exact ext_app2 _ _ _ _ _ _ | exact ext_app3 _ _ _ _ _ _ _)) | ((with_reducible refine ext_suffix ⟨_, ?_⟩); (try simp only [Array.append_assoc]); rfl) | (with_reducible (first | apply Ext.drew | apply Ext.alloc | apply Ext.more_))))
    have r3 : W0.heap[w.heap.size]? = some (.cells #[.int .i64 r, .int .i64 c, .slice A n cap] 24) := by
      rw [hW0]; (try simp only [heap_drew]); repeat (first | rw [heap_alloc_below (by first | (simp; done) | (simp; omega))] | rw [heap_more_below (by first | (simp; done) | (simp; omega))] | exact heap_alloc_at (by simp))
    have r4 : W0.heap[w.heap.size + 1]? = some (.cells (VC v) 28) := by
      rw [hW0]; (try simp only [heap_drew]); repeat (first | rw [heap_alloc_below (by first | (simp; done) | (simp; omega))] | rw [heap_more_below (by first | (simp; done) | (simp; omega))] | exact heap_alloc_at (by simp))
    have r7 : W0.heap[w.heap.size + 1 + 1 + 1 + 1]? = some (.cells (VC k) 28) := by rw [hW0]; (try simp only [heap_drew]); repeat (first | rw [heap_alloc_below (by first | (simp; done) | (simp; omega))] | rw [heap_more_below (by first | (simp; done) | (simp; omega))] | exact heap_alloc_at (by simp))
    have r8 : W0.heap[w.heap.size + 1 + 1 + 1]? = some (.cells (VC u) 28) := by rw [hW0]; (try simp only [heap_drew]); repeat (first | rw [heap_alloc_below (by first | (simp; done) | (simp; omega))] | rw [heap_more_below (by first | (simp; done) | (simp; omega))] | exact heap_alloc_at (by simp))
    clear hW0
    generalize w.heap.size + 1 + 1 + 1 + 1 = pB at *
    generalize w.heap.size + 1 + 1 + 1 = pA at *
    have l3 := lt_of_block r3
    have l4 := lt_of_block r4
    have l7 := lt_of_block r7
    have l8 := lt_of_block r8
    have a0 : W0.cell? ⟨w.heap.size, 0, none⟩ = some (.int .i64 r) := cell_of_row _ _ 0 _ _ _ r3
    have a1 : W0.cell? ⟨w.heap.size, 1, none⟩ = some (.int .i64 c) := cell_of_row _ _ 1 _ _ _ r3
    have a2 : W0.cell? ⟨w.heap.size, 2, none⟩ = some (.slice A n cap) := cell_of_row _ _ 2 _ _ _ r3
    have b0 : W0.cell? ⟨w.heap.size + 1, 0, none⟩ = some (.int .i64 v.kind) := cell_of_row _ _ 0 _ _ _ r4
    have b1 : W0.cell? ⟨w.heap.size + 1, 1, none⟩ = some (.int .i64 v.mant) := cell_of_row _ _ 1 _ _ _ r4
    have b2 : W0.cell? ⟨w.heap.size + 1, 2, none⟩ = some (.int .i64 v.exp) := cell_of_row _ _ 2 _ _ _ r4
    have b3 : W0.cell? ⟨w.heap.size + 1, 3, none⟩ = some (.string v.text) := cell_of_row _ _ 3 _ _ _ r4
    have b4 : W0.cell? ⟨w.heap.size + 1, 4, none⟩ = some (.bool v.truth) := cell_of_row _ _ 4 _ _ _ r4
    have b5 : W0.cell? ⟨w.heap.size + 1, 5, none⟩ = some (.int .i64 v.fault) := cell_of_row _ _ 5 _ _ _ r4
    have c0 : W0.cell? ⟨_, 0, none⟩ = some (.int .i64 k.kind) := cell_of_row _ _ 0 _ _ _ r7
    have c1 : W0.cell? ⟨_, 1, none⟩ = some (.int .i64 k.mant) := cell_of_row _ _ 1 _ _ _ r7
    have c2 : W0.cell? ⟨_, 2, none⟩ = some (.int .i64 k.exp) := cell_of_row _ _ 2 _ _ _ r7
    have c3 : W0.cell? ⟨_, 3, none⟩ = some (.string k.text) := cell_of_row _ _ 3 _ _ _ r7
    have c4 : W0.cell? ⟨_, 4, none⟩ = some (.bool k.truth) := cell_of_row _ _ 4 _ _ _ r7
    have c5 : W0.cell? ⟨_, 5, none⟩ = some (.int .i64 k.fault) := cell_of_row _ _ 5 _ _ _ r7
    have d0 : W0.cell? ⟨_, 0, none⟩ = some (.int .i64 u.kind) := cell_of_row _ _ 0 _ _ _ r8
    have d1 : W0.cell? ⟨_, 1, none⟩ = some (.int .i64 u.mant) := cell_of_row _ _ 1 _ _ _ r8
    have d2 : W0.cell? ⟨_, 2, none⟩ = some (.int .i64 u.exp) := cell_of_row _ _ 2 _ _ _ r8
    have d3 : W0.cell? ⟨_, 3, none⟩ = some (.string u.text) := cell_of_row _ _ 3 _ _ _ r8
    have d4 : W0.cell? ⟨_, 4, none⟩ = some (.bool u.truth) := cell_of_row _ _ 4 _ _ _ r8
    have d5 : W0.cell? ⟨_, 5, none⟩ = some (.int .i64 u.fault) := cell_of_row _ _ 5 _ _ _ r8
    have h0 := h.ext hx0
    have hT0 := Lib.hid (HT.out.ext hx0)
    cases hgr : great1B r c n with
    | true =>
      clear gA g1 g2 g3
      go_wp2_with (first | (go_at_call 4; (with_reducible refine (awake14_any _ (hT0.out.ext (by repeat (first | (with_reducible (first | exact Ext.refl _ | exact ext_d _ _ _ _ | exact ext_app _ _ _ _ _ | exact ext_app2 _ _ _ _ _ _ | exact ext_app3 _ _ _ _ _ _ _)) | ((with_reducible refine ext_suffix ⟨_, ?_⟩); (try simp only [Array.append_assoc]); rfl) | (with_reducible (first | apply Ext.drew | apply Ext.alloc | apply Ext.more_)))))).mono ?_); rintro e w' ⟨rfl, hb⟩; obtain ⟨osw, dw, rfl⟩ := hb.more; clear hb) | (go_at_call 5; (with_reducible refine (great1_new (by simp) hsm true hgr).mono ?_); rintro e w' ⟨rfl, hb⟩; obtain ⟨os, d, rfl⟩ := hb.more; clear hb))
      go_ret
      exact ⟨rfl, hx0.trans (by repeat (first | (with_reducible (first | exact Ext.refl _ | exact ext_d _ _ _ _ | exact ext_app _ _ _ _ _ | exact ext_app2 _ _ _ _ _ _ | exact ext_app3 _ _ _ _ _ _ _)) | ((with_reducible refine ext_suffix ⟨_, ?_⟩); (try simp only [Array.append_assoc]); rfl) | (with_reducible (first | apply Ext.drew | apply Ext.alloc | apply Ext.more_))))⟩
    | false =>
      cases hra : rightA r c l with
      | false =>
        rw [hra] at gA
        clear g1 g2 g3 hra
        go_wp2_with (first | (go_at_call 4; (with_reducible refine (awake14_any _ (hT0.out.ext (by repeat (first | (with_reducible (first | exact Ext.refl _ | exact ext_d _ _ _ _ | exact ext_app _ _ _ _ _ | exact ext_app2 _ _ _ _ _ _ | exact ext_app3 _ _ _ _ _ _ _)) | ((with_reducible refine ext_suffix ⟨_, ?_⟩); (try simp only [Array.append_assoc]); rfl) | (with_reducible (first | apply Ext.drew | apply Ext.alloc | apply Ext.more_)))))).mono ?_); rintro e w' ⟨rfl, hb⟩; obtain ⟨osw, dw, rfl⟩ := hb.more; clear hb) | (go_at_call 5; (with_reducible refine (great1_new (by simp) hsm false hgr).mono ?_); rintro e w' ⟨rfl, hb⟩; obtain ⟨os, d, rfl⟩ := hb.more; clear hb) | (go_at_call 6; (with_reducible refine (gA _ (h0.ext (by repeat (first | (with_reducible (first | exact Ext.refl _ | exact ext_d _ _ _ _ | exact ext_app _ _ _ _ _ | exact ext_app2 _ _ _ _ _ _ | exact ext_app3 _ _ _ _ _ _ _)) | ((with_reducible refine ext_suffix ⟨_, ?_⟩); (try simp only [Array.append_assoc]); rfl) | (with_reducible (first | apply Ext.drew | apply Ext.alloc | apply Ext.more_)))))).mono ?_); rintro e w' ⟨rfl, hb⟩; obtain ⟨os, d, rfl⟩ := hb.more; clear hb))
        go_ret
        exact ⟨rfl, hx0.trans (by repeat (first | (with_reducible (first | exact Ext.refl _ | exact ext_d _ _ _ _ | exact ext_app _ _ _ _ _ | exact ext_app2 _ _ _ _ _ _ | exact ext_app3 _ _ _ _ _ _ _)) | ((with_reducible refine ext_suffix ⟨_, ?_⟩); (try simp only [Array.append_assoc]); rfl) | (with_reducible (first | apply Ext.drew | apply Ext.alloc | apply Ext.more_))))⟩
      | true =>
        rw [hra] at gA
        cases hrv : valRight v with
        | false =>
          rw [hrv] at g1
          clear g2 g3 hra hrv
          go_wp2_with (first | (go_at_call 4; (with_reducible refine (awake14_any _ (hT0.out.ext (by repeat (first | (with_reducible (first | exact Ext.refl _ | exact ext_d _ _ _ _ | exact ext_app _ _ _ _ _ | exact ext_app2 _ _ _ _ _ _ | exact ext_app3 _ _ _ _ _ _ _)) | ((with_reducible refine ext_suffix ⟨_, ?_⟩); (try simp only [Array.append_assoc]); rfl) | (with_reducible (first | apply Ext.drew | apply Ext.alloc | apply Ext.more_)))))).mono ?_); rintro e w' ⟨rfl, hb⟩; obtain ⟨osw, dw, rfl⟩ := hb.more; clear hb) | (go_at_call 5; (with_reducible refine (great1_new (by simp) hsm false hgr).mono ?_); rintro e w' ⟨rfl, hb⟩; obtain ⟨os, d, rfl⟩ := hb.more; clear hb) | (go_at_call 6; (with_reducible refine (gA _ (h0.ext (by repeat (first | (with_reducible (first | exact Ext.refl _ | exact ext_d _ _ _ _ | exact ext_app _ _ _ _ _ | exact ext_app2 _ _ _ _ _ _ | exact ext_app3 _ _ _ _ _ _ _)) | ((with_reducible refine ext_suffix ⟨_, ?_⟩); (try simp only [Array.append_assoc]); rfl) | (with_reducible (first | apply Ext.drew | apply Ext.alloc | apply Ext.more_)))))).mono ?_); rintro e w' ⟨rfl, hb⟩; obtain ⟨os, d, rfl⟩ := hb.more; clear hb) | (go_at_call 7; (with_reducible refine (g1 _).mono ?_); rintro e w' ⟨rfl, hb⟩; obtain ⟨os, d, rfl⟩ := hb.more; clear hb))
          go_ret
          exact ⟨rfl, hx0.trans (by repeat (first | (with_reducible (first | exact Ext.refl _ | exact ext_d _ _ _ _ | exact ext_app _ _ _ _ _ | exact ext_app2 _ _ _ _ _ _ | exact ext_app3 _ _ _ _ _ _ _)) | ((with_reducible refine ext_suffix ⟨_, ?_⟩); (try simp only [Array.append_assoc]); rfl) | (with_reducible (first | apply Ext.drew | apply Ext.alloc | apply Ext.more_))))⟩
        | true =>
          rw [hrv] at g1
          cases hrk : valRight k with
          | false =>
            rw [hrk] at g2
            clear g3 hra hrv hrk
            go_wp2_with (first | (go_at_call 4; (with_reducible refine (awake14_any _ (hT0.out.ext (by repeat (first | (with_reducible (first | exact Ext.refl _ | exact ext_d _ _ _ _ | exact ext_app _ _ _ _ _ | exact ext_app2 _ _ _ _ _ _ | exact ext_app3 _ _ _ _ _ _ _)) | ((with_reducible refine ext_suffix ⟨_, ?_⟩); (try simp only [Array.append_assoc]); rfl) | (with_reducible (first | apply Ext.drew | apply Ext.alloc | apply Ext.more_)))))).mono ?_); rintro e w' ⟨rfl, hb⟩; obtain ⟨osw, dw, rfl⟩ := hb.more; clear hb) | (go_at_call 5; (with_reducible refine (great1_new (by simp) hsm false hgr).mono ?_); rintro e w' ⟨rfl, hb⟩; obtain ⟨os, d, rfl⟩ := hb.more; clear hb) | (go_at_call 6; (with_reducible refine (gA _ (h0.ext (by repeat (first | (with_reducible (first | exact Ext.refl _ | exact ext_d _ _ _ _ | exact ext_app _ _ _ _ _ | exact ext_app2 _ _ _ _ _ _ | exact ext_app3 _ _ _ _ _ _ _)) | ((with_reducible refine ext_suffix ⟨_, ?_⟩); (try simp only [Array.append_assoc]); rfl) | (with_reducible (first | apply Ext.drew | apply Ext.alloc | apply Ext.more_)))))).mono ?_); rintro e w' ⟨rfl, hb⟩; obtain ⟨os, d, rfl⟩ := hb.more; clear hb) | (go_at_call 7; (with_reducible refine (g1 _).mono ?_); rintro e w' ⟨rfl, hb⟩; obtain ⟨os, d, rfl⟩ := hb.more; clear hb) | (go_at_call 7; (with_reducible refine (g2 _).mono ?_); rintro e w' ⟨rfl, hb⟩; obtain ⟨os, d, rfl⟩ := hb.more; clear hb))
            go_ret
            exact ⟨rfl, hx0.trans (by repeat (first | (with_reducible (first | exact Ext.refl _ | exact ext_d _ _ _ _ | exact ext_app _ _ _ _ _ | exact ext_app2 _ _ _ _ _ _ | exact ext_app3 _ _ _ _ _ _ _)) | ((with_reducible refine ext_suffix ⟨_, ?_⟩); (try simp only [Array.append_assoc]); rfl) | (with_reducible (first | apply Ext.drew | apply Ext.alloc | apply Ext.more_))))⟩
          | true =>
            rw [hrk] at g2
            cases hru : valRight u with
            | false =>
              rw [hru] at g3
              clear hra hrv hrk hru
              go_wp2_with (first | (go_at_call 4; (with_reducible refine (awake14_any _ (hT0.out.ext (by repeat (first | (with_reducible (first | exact Ext.refl _ | exact ext_d _ _ _ _ | exact ext_app _ _ _ _ _ | exact ext_app2 _ _ _ _ _ _ | exact ext_app3 _ _ _ _ _ _ _)) | ((with_reducible refine ext_suffix ⟨_, ?_⟩); (try simp only [Array.append_assoc]); rfl) | (with_reducible (first | apply Ext.drew | apply Ext.alloc | apply Ext.more_)))))).mono ?_); rintro e w' ⟨rfl, hb⟩; obtain ⟨osw, dw, rfl⟩ := hb.more; clear hb) | (go_at_call 5; (with_reducible refine (great1_new (by simp) hsm false hgr).mono ?_); rintro e w' ⟨rfl, hb⟩; obtain ⟨os, d, rfl⟩ := hb.more; clear hb) | (go_at_call 6; (with_reducible refine (gA _ (h0.ext (by repeat (first | (with_reducible (first | exact Ext.refl _ | exact ext_d _ _ _ _ | exact ext_app _ _ _ _ _ | exact ext_app2 _ _ _ _ _ _ | exact ext_app3 _ _ _ _ _ _ _)) | ((with_reducible refine ext_suffix ⟨_, ?_⟩); (try simp only [Array.append_assoc]); rfl) | (with_reducible (first | apply Ext.drew | apply Ext.alloc | apply Ext.more_)))))).mono ?_); rintro e w' ⟨rfl, hb⟩; obtain ⟨os, d, rfl⟩ := hb.more; clear hb) | (go_at_call 7; (with_reducible refine (g1 _).mono ?_); rintro e w' ⟨rfl, hb⟩; obtain ⟨os, d, rfl⟩ := hb.more; clear hb) | (go_at_call 7; (with_reducible refine (g2 _).mono ?_); rintro e w' ⟨rfl, hb⟩; obtain ⟨os, d, rfl⟩ := hb.more; clear hb) | (go_at_call 7; (with_reducible refine (g3 _).mono ?_); rintro e w' ⟨rfl, hb⟩; obtain ⟨os, d, rfl⟩ := hb.more; clear hb))
              go_ret
              exact ⟨rfl, hx0.trans (by repeat (first | (with_reducible (first | exact Ext.refl _ | exact ext_d _ _ _ _ | exact ext_app _ _ _ _ _ | exact ext_app2 _ _ _ _ _ _ | exact ext_app3 _ _ _ _ _ _ _)) | ((with_reducible refine ext_suffix ⟨_, ?_⟩); (try simp only [Array.append_assoc]); rfl) | (with_reducible (first | apply Ext.drew | apply Ext.alloc | apply Ext.more_))))⟩
            | true =>
              rw [hru] at g3
              have hf : fitsB r c = true := by
                have hra' := hra
                unfold rightA at hra'
                simp only [Bool.and_eq_true] at hra'
                exact hra'.1.1
              have hfm := fits_mul hf
              obtain ⟨R, rfl⟩ : ∃ R : Nat, r = (R : Int) := ⟨r.toNat, by omega⟩
              obtain ⟨C, rfl⟩ : ∃ C : Nat, c = (C : Int) := ⟨c.toNat, by omega⟩
              have HR := Lib.hid hra
              have rv : v.right := hrv
              have rk : k.right := hrk
              have ru : u.right := hru
              clear hra hrv hrk hru hf hfm
              go_upto_region 5 with (first | (go_at_call 4; (with_reducible refine (awake14_any _ (hT0.out.ext (by repeat (first | (with_reducible (first | exact Ext.refl _ | exact ext_d _ _ _ _ | exact ext_app _ _ _ _ _ | exact ext_app2 _ _ _ _ _ _ | exact ext_app3 _ _ _ _ _ _ _)) | ((with_reducible refine ext_suffix ⟨_, ?_⟩); (try simp only [Array.append_assoc]); rfl) | (with_reducible (first | apply Ext.drew | apply Ext.alloc | apply Ext.more_)))))).mono ?_); rintro e w' ⟨rfl, hb⟩; obtain ⟨osw, dw, rfl⟩ := hb.more; clear hb) | (go_at_call 5; (with_reducible refine (great1_new (by simp) hsm false hgr).mono ?_); rintro e w' ⟨rfl, hb⟩; obtain ⟨osg, dg, rfl⟩ := hb.more; clear hb) | (go_at_call 6; (with_reducible refine (gA _ (h0.ext (by repeat (first | (with_reducible (first | exact Ext.refl _ | exact ext_d _ _ _ _ | exact ext_app _ _ _ _ _ | exact ext_app2 _ _ _ _ _ _ | exact ext_app3 _ _ _ _ _ _ _)) | ((with_reducible refine ext_suffix ⟨_, ?_⟩); (try simp only [Array.append_assoc]); rfl) | (with_reducible (first | apply Ext.drew | apply Ext.alloc | apply Ext.more_)))))).mono ?_); rintro e w' ⟨rfl, hb⟩; obtain ⟨osa, da, rfl⟩ := hb.more; clear hb) | (go_at_call 7; (with_reducible refine (g1 _).mono ?_); rintro e w' ⟨rfl, hb⟩; obtain ⟨osv, dv, rfl⟩ := hb.more; clear hb) | (go_at_call 7; (with_reducible refine (g2 _).mono ?_); rintro e w' ⟨rfl, hb⟩; obtain ⟨osk, dk, rfl⟩ := hb.more; clear hb) | (go_at_call 7; (with_reducible refine (g3 _).mono ?_); rintro e w' ⟨rfl, hb⟩; obtain ⟨osu, du, rfl⟩ := hb.more; clear hb) | (go_at_call 8; (refine (refTurn_res ⟨R, C, l⟩ A n cap _ (h0.ext (by repeat (first | (with_reducible (first | exact Ext.refl _ | exact ext_d _ _ _ _ | exact ext_app _ _ _ _ _ | exact ext_app2 _ _ _ _ _ _ | exact ext_app3 _ _ _ _ _ _ _)) | ((with_reducible refine ext_suffix ⟨_, ?_⟩); (try simp only [Array.append_assoc]); rfl) | (with_reducible (first | apply Ext.drew | apply Ext.alloc | apply Ext.more_))))) HR.out).mono ?_); rintro e w' ⟨D9, m9, c9, rfl, hN9, hb⟩; obtain ⟨os9, d9, rfl⟩ := hb.more; clear hb))
              refine wp_world fun W1 hW1 => ?_
              have hx01 : Ext W0 W1 := by rw [hW1]; exact (by repeat (first | (with_reducible (first | exact Ext.refl _ | exact ext_d _ _ _ _ | exact ext_app _ _ _ _ _ | exact ext_app2 _ _ _ _ _ _ | exact ext_app3 _ _ _ _ _ _ _)) | ((with_reducible refine ext_suffix ⟨_, ?_⟩); (try simp only [Array.append_assoc]); rfl) | (with_reducible (first | apply Ext.drew | apply Ext.alloc | apply Ext.more_))))
              have aT : ArrIn W1 D9 m9 c9 (turnL R C l) := by (have hq := hN9.arr); (simp only [more_more, Array.append_assoc] at hq); rw [hW1]; exact hq.ext ((Ext.refl _).alloc _)
              have r9 : W1.heap[W0.heap.size + osw.size + 1 + (osg.size + (osa.size + (osv.size + (osk.size + (osu.size + os9.size)))))]? = some (.cells #[.int .i64 C, .int .i64 R, .slice D9 m9 c9] 24) := by
                rw [hW1]; exact heap_alloc_at (by simp)
              replace r3 := (hx01.block l3).trans r3
              replace r4 := (hx01.block l4).trans r4
              replace r7 := (hx01.block l7).trans r7
              replace r8 := (hx01.block l8).trans r8
              generalize W0.heap.size + osw.size + 1 + (osg.size + (osa.size + (osv.size + (osk.size + (osu.size + os9.size))))) = p9 at *
              have hw1 := hx0.trans hx01
              have h1 := h0.ext hx01
              have hRT : rightA C R (turnL R C l) = true := turn_right HR.out
              clear hW1 hN9 l3 l4 l7 l8 a0 a1 a2 b0 b1 b2 b3 b4 b5 c0 c1 c2 c3 c4 c5 d0 d1 d2 d3 d4 d5 gA g1 g2 g3 hgr h0 hT0 hx01
              have a0 : W1.cell? ⟨w.heap.size, 0, none⟩ = some (.int .i64 R) := cell_of_row _ _ 0 _ _ _ r3
              have a1 : W1.cell? ⟨w.heap.size, 1, none⟩ = some (.int .i64 C) := cell_of_row _ _ 1 _ _ _ r3
              have a2 : W1.cell? ⟨w.heap.size, 2, none⟩ = some (.slice A n cap) := cell_of_row _ _ 2 _ _ _ r3
              have la := lt_of_block r3
              have b0 : W1.cell? ⟨w.heap.size + 1, 0, none⟩ = some (.int .i64 v.kind) := cell_of_row _ _ 0 _ _ _ r4
              have b1 : W1.cell? ⟨w.heap.size + 1, 1, none⟩ = some (.int .i64 v.mant) := cell_of_row _ _ 1 _ _ _ r4
              have b2 : W1.cell? ⟨w.heap.size + 1, 2, none⟩ = some (.int .i64 v.exp) := cell_of_row _ _ 2 _ _ _ r4
              have b3 : W1.cell? ⟨w.heap.size + 1, 3, none⟩ = some (.string v.text) := cell_of_row _ _ 3 _ _ _ r4
              have b4 : W1.cell? ⟨w.heap.size + 1, 4, none⟩ = some (.bool v.truth) := cell_of_row _ _ 4 _ _ _ r4
              have b5 : W1.cell? ⟨w.heap.size + 1, 5, none⟩ = some (.int .i64 v.fault) := cell_of_row _ _ 5 _ _ _ r4
              have lb := lt_of_block r4
              have c0 : W1.cell? ⟨pB, 0, none⟩ = some (.int .i64 k.kind) := cell_of_row _ _ 0 _ _ _ r7
              have c1 : W1.cell? ⟨pB, 1, none⟩ = some (.int .i64 k.mant) := cell_of_row _ _ 1 _ _ _ r7
              have c2 : W1.cell? ⟨pB, 2, none⟩ = some (.int .i64 k.exp) := cell_of_row _ _ 2 _ _ _ r7
              have c3 : W1.cell? ⟨pB, 3, none⟩ = some (.string k.text) := cell_of_row _ _ 3 _ _ _ r7
              have c4 : W1.cell? ⟨pB, 4, none⟩ = some (.bool k.truth) := cell_of_row _ _ 4 _ _ _ r7
              have c5 : W1.cell? ⟨pB, 5, none⟩ = some (.int .i64 k.fault) := cell_of_row _ _ 5 _ _ _ r7
              have lc := lt_of_block r7
              have d0 : W1.cell? ⟨pA, 0, none⟩ = some (.int .i64 u.kind) := cell_of_row _ _ 0 _ _ _ r8
              have d1 : W1.cell? ⟨pA, 1, none⟩ = some (.int .i64 u.mant) := cell_of_row _ _ 1 _ _ _ r8
              have d2 : W1.cell? ⟨pA, 2, none⟩ = some (.int .i64 u.exp) := cell_of_row _ _ 2 _ _ _ r8
              have d3 : W1.cell? ⟨pA, 3, none⟩ = some (.string u.text) := cell_of_row _ _ 3 _ _ _ r8
              have d4 : W1.cell? ⟨pA, 4, none⟩ = some (.bool u.truth) := cell_of_row _ _ 4 _ _ _ r8
              have d5 : W1.cell? ⟨pA, 5, none⟩ = some (.int .i64 u.fault) := cell_of_row _ _ 5 _ _ _ r8
              have ld := lt_of_block r8
              have t0 : W1.cell? ⟨p9, 0, none⟩ = some (.int .i64 C) := cell_of_row _ _ 0 _ _ _ r9
              have t1 : W1.cell? ⟨p9, 1, none⟩ = some (.int .i64 R) := cell_of_row _ _ 1 _ _ _ r9
              have t2 : W1.cell? ⟨p9, 2, none⟩ = some (.slice D9 m9 c9) := cell_of_row _ _ 2 _ _ _ r9
              have lt := lt_of_block r9
              obtain ⟨X, hX⟩ : ∃ X, vlookO ⟨C, R, turnL R C l⟩ (soughtO v) (wholeO k) (truthO u) = X := ⟨_, rfl⟩
              have HX := Lib.hid hX
              clear hX
              refine wp_floatG [(0, 0), (3, 0), (4, 0), (7, 0), (15, 4), (8, 4), (5, 4), (1, 4), (1, 3), (2, 1), (5, 3), (6, 1), (8, 3), (9, 1), (10, 1), (11, 1), (12, 0), (13, 0), (14, 2), (15, 3)] [16, 17] [16, 17] [14] (by kernel_rfl) (by kernel_rfl) (by kernel_rfl) (fun _ _ d _ _ h => by cases d <;> exact h) (fun _ _ d _ _ h => by cases d <;> exact h) ?_
              iterate 4 ((refine wpFg_read (v := ?_) rfl ?_ (fun w1 h1 => ?_) ?_; rotate_left 1; rfl; (obtain ⟨os1, d1, rfl⟩ := h1.more; go_simp; first | done | rfl)); try simp only [Act.put, zqA, zqB, zqC])
              (refine wpFg_launch (t := 10) (.cells #[.int .i64 0, .int .i64 0, .slice none 0 0] 24) ptrB rfl rfl (fun w1 => ?_) ?_; (first | rfl | (simp [go_sem, ptrB]; done) | (go_simp; rfl)))
              (refine wpFg_launch (t := 61) ?_ (fun b => .slice (some ⟨b, 0, none⟩) 1 1) rfl rfl (fun w1 => ?_) ?_; rotate_left 1; (go_simp; first | done | rfl))
              (refine wpFg_launch (t := 58) ?_ (fun b => .slice (some ⟨b, 0, none⟩) 1 1) rfl rfl (fun w1 => ?_) ?_; rotate_left 1; (go_simp; first | done | rfl))
              (refine wpFg_launch (t := 54) ?_ (fun b => .slice (some ⟨b, 0, none⟩) 1 1) rfl rfl (fun w1 => ?_) ?_; rotate_left 1; (go_simp; first | done | rfl))
              refine wpFg_wait fun q1 _ _ _ => ?_; refine ⟨fun W => ArrIn W (some ⟨q1, 0, none⟩) 1 1 [v], fun _ _ hx h => h.ext hx, fun W _ hE h1 => arrIn_block [v] h1 rfl rfl (by decide) (by simpa using rv.ok), ?_⟩
              try simp only [Act.put, zqA, zqB, zqC]
              (refine wpFg_eff rfl ?_ (fun wf hXf hE K hK => ?_); rfl; obtain ⟨osf, df, rfl⟩ := hXf.more; go_simp; refine (row14_any _ _ _ _).mono ?_; rintro e w' ⟨rfl, hb⟩; refine hK _ _ (fun W => ArrIn W (some ⟨q1, 0, none⟩) 1 1 [v]) (by (try simp only [more_drew, more_more, Array.append_assoc]); exact hb) (fun _ _ hx h => h.ext hx) (hE.ext (by (try simp only [more_drew, more_more, Array.append_assoc]); exact hb)) ?_)
              try simp only [Act.put, zqA, zqB, zqC]
              refine wpFg_wait fun q2 _ _ _ => ?_; refine ⟨fun W => ArrIn W (some ⟨q1, 0, none⟩) 1 1 [v] ∧ ArrIn W (some ⟨q2, 0, none⟩) 1 1 [k], fun _ _ hx h => ⟨h.1.ext hx, h.2.ext hx⟩, fun W _ hE h1 => ⟨hE, arrIn_block [k] h1 rfl rfl (by decide) (by simpa using rk.ok)⟩, ?_⟩
              try simp only [Act.put, zqA, zqB, zqC]
              (refine wpFg_eff rfl ?_ (fun wf hXf hE K hK => ?_); rfl; obtain ⟨osf, df, rfl⟩ := hXf.more; go_simp; refine (row14_any _ _ _ _).mono ?_; rintro e w' ⟨rfl, hb⟩; refine hK _ _ (fun W => ArrIn W (some ⟨q1, 0, none⟩) 1 1 [v] ∧ ArrIn W (some ⟨q2, 0, none⟩) 1 1 [k]) (by (try simp only [more_drew, more_more, Array.append_assoc]); exact hb) (fun _ _ hx h => ⟨h.1.ext hx, h.2.ext hx⟩) ⟨hE.1.ext (by (try simp only [more_drew, more_more, Array.append_assoc]); exact hb), hE.2.ext (by (try simp only [more_drew, more_more, Array.append_assoc]); exact hb)⟩ ?_)
              try simp only [Act.put, zqA, zqB, zqC]
              refine wpFg_wait fun q3 _ _ _ => ?_; refine ⟨fun W => (ArrIn W (some ⟨q1, 0, none⟩) 1 1 [v] ∧ ArrIn W (some ⟨q2, 0, none⟩) 1 1 [k]) ∧ ArrIn W (some ⟨q3, 0, none⟩) 1 1 [u], fun _ _ hx h => ⟨⟨h.1.1.ext hx, h.1.2.ext hx⟩, h.2.ext hx⟩, fun W _ hE h1 => ⟨hE, arrIn_block [u] h1 rfl rfl (by decide) (by simpa using ru.ok)⟩, ?_⟩
              try simp only [Act.put, zqA, zqB, zqC]
              (refine wpFg_eff rfl ?_ (fun wf hXf hE K hK => ?_); rfl; obtain ⟨osf, df, rfl⟩ := hXf.more; go_simp; refine (row14_any _ _ _ _).mono ?_; rintro e w' ⟨rfl, hb⟩; refine hK _ _ (fun W => (ArrIn W (some ⟨q1, 0, none⟩) 1 1 [v] ∧ ArrIn W (some ⟨q2, 0, none⟩) 1 1 [k]) ∧ ArrIn W (some ⟨q3, 0, none⟩) 1 1 [u]) (by (try simp only [more_drew, more_more, Array.append_assoc]); exact hb) (fun _ _ hx h => ⟨⟨h.1.1.ext hx, h.1.2.ext hx⟩, h.2.ext hx⟩) ⟨⟨hE.1.1.ext (by (try simp only [more_drew, more_more, Array.append_assoc]); exact hb), hE.1.2.ext (by (try simp only [more_drew, more_more, Array.append_assoc]); exact hb)⟩, hE.2.ext (by (try simp only [more_drew, more_more, Array.append_assoc]); exact hb)⟩ ?_)
              try simp only [Act.put, zqA, zqB, zqC]
              (refine wpFg_eff rfl ?_ (fun wf hXf hE K hK => ?_); rfl; obtain ⟨osf, df, rfl⟩ := hXf.more; go_simp; generalize hq4 : W1.heap.size + osf.size = q4; refine hK _ _ (fun W => ArgsIn W (some ⟨q4, 0, none⟩) 4 4 [arOne v q1, ⟨⟨R, C, l⟩, A, n, cap⟩, arOne k q2, arOne u q3]) (by (try simp only [drew_more]); exact (Ext.refl _).alloc _) (fun _ _ hx h => h.ext hx) (argsIn_new (n := 4) [arOne v q1, ⟨⟨R, C, l⟩, A, n, cap⟩, arOne k q2, arOne u q3] (by rw [← hq4]; simp) rfl rfl (by decide) (by intro a ha; simp only [List.mem_cons, List.not_mem_nil, or_false] at ha; rcases ha with rfl | rfl | rfl | rfl; exact arOne_ok hE.1.1 rv; exact ⟨h1.ext (by repeat (first | (with_reducible (first | exact Ext.refl _ | exact ext_d _ _ _ _ | exact ext_app _ _ _ _ _ | exact ext_app2 _ _ _ _ _ _ | exact ext_app3 _ _ _ _ _ _ _)) | ((with_reducible refine ext_suffix ⟨_, ?_⟩); (try simp only [Array.append_assoc]); rfl) | (with_reducible (first | apply Ext.drew | apply Ext.alloc | apply Ext.more_)))), HR.out⟩; exact arOne_ok hE.1.2 rk; exact arOne_ok hE.2 ru)) ?_)
              try simp only [Act.put, zqA, zqB, zqC]
              (refine wpFg_eff rfl ?_ (fun wf hXf hE K hK => ?_); rfl; obtain ⟨osf, df, rfl⟩ := hXf.more; go_simp; refine (call_beside _ _ (arOne v q1) ⟨⟨R, C, l⟩, A, n, cap⟩ (arOne k q2) (arOne u q3) v k u _ (HT.out.ext (hw1.trans (by repeat (first | (with_reducible (first | exact Ext.refl _ | exact ext_d _ _ _ _ | exact ext_app _ _ _ _ _ | exact ext_app2 _ _ _ _ _ _ | exact ext_app3 _ _ _ _ _ _ _)) | ((with_reducible refine ext_suffix ⟨_, ?_⟩); (try simp only [Array.append_assoc]); rfl) | (with_reducible (first | apply Ext.drew | apply Ext.alloc | apply Ext.more_)))))) hE rfl rfl rfl rv rk ru X HX.out).mono ?_; rintro e w' ⟨D10, m10, c10, rfl, hN, hb⟩; refine hK _ _ (fun W => ArrIn W D10 m10 c10 X.l) (by (try simp only [more_drew, more_more, Array.append_assoc]); exact hb) (fun _ _ hx h => h.ext hx) hN.arr ?_)
              try simp only [Act.put, zqA, zqB, zqC]
              iterate 2 ((refine wpFg_read (v := ?_) rfl ?_ (fun w1 h1 => ?_) ?_; rotate_left 1; rfl; (obtain ⟨os1, d1, rfl⟩ := h1.more; go_simp; first | done | rfl)); try simp only [Act.put, zqA, zqB, zqC])
              (refine wpFg_pure (v := ?_) rfl ?_ (fun w1 => ?_) ?_; rotate_left 1; rfl; (go_simp; first | done | rfl))
              try simp only [Act.put, zqA, zqB, zqC]
              refine wpFg_last fun osa da osb db hE => ?_
              try simp only [Act.put, zqA, zqB, zqC]
              iterate 2 ((refine wpTl_op rfl ?_ (fun K hK => ?_); rfl; go_simp; refine hK _ _ ?_); try simp only [Act.put, zqA, zqB, zqC])
              refine wpTl_nil ?_
              go_upto_region 6 with fail
              refine wp_world fun W2 hW2 => ?_
              obtain ⟨r10, hx12⟩ := var_at _ _ _ _ _ _ hW2
              have aX : ArrIn W2 D10 m10 c10 X.l := by rw [hW2]; exact hE.var3
              clear hW2 hE a0 a1 a2 b0 b1 b2 b3 b4 b5 c0 c1 c2 c3 c4 c5 d0 d1 d2 d3 d4 d5 t0 t1 t2 la lb lc ld lt
              replace r3 := (hx12.block (lt_of_block r3)).trans r3
              replace r4 := (hx12.block (lt_of_block r4)).trans r4
              replace r7 := (hx12.block (lt_of_block r7)).trans r7
              replace r8 := (hx12.block (lt_of_block r8)).trans r8
              replace r9 := (hx12.block (lt_of_block r9)).trans r9
              have hw2 := hw1.trans hx12
              have h2 := h1.ext hx12
              replace aT := aT.ext hx12
              generalize W1.heap.size + osa.size = p10 at *
              clear h1 hw1 hx12
              have a0 : W2.cell? ⟨w.heap.size, 0, none⟩ = some (.int .i64 R) := cell_of_row _ _ 0 _ _ _ r3
              have a1 : W2.cell? ⟨w.heap.size, 1, none⟩ = some (.int .i64 C) := cell_of_row _ _ 1 _ _ _ r3
              have a2 : W2.cell? ⟨w.heap.size, 2, none⟩ = some (.slice A n cap) := cell_of_row _ _ 2 _ _ _ r3
              have la := lt_of_block r3
              have b0 : W2.cell? ⟨w.heap.size + 1, 0, none⟩ = some (.int .i64 v.kind) := cell_of_row _ _ 0 _ _ _ r4
              have b1 : W2.cell? ⟨w.heap.size + 1, 1, none⟩ = some (.int .i64 v.mant) := cell_of_row _ _ 1 _ _ _ r4
              have b2 : W2.cell? ⟨w.heap.size + 1, 2, none⟩ = some (.int .i64 v.exp) := cell_of_row _ _ 2 _ _ _ r4
              have b3 : W2.cell? ⟨w.heap.size + 1, 3, none⟩ = some (.string v.text) := cell_of_row _ _ 3 _ _ _ r4
              have b4 : W2.cell? ⟨w.heap.size + 1, 4, none⟩ = some (.bool v.truth) := cell_of_row _ _ 4 _ _ _ r4
              have b5 : W2.cell? ⟨w.heap.size + 1, 5, none⟩ = some (.int .i64 v.fault) := cell_of_row _ _ 5 _ _ _ r4
              have lb := lt_of_block r4
              have c0 : W2.cell? ⟨pB, 0, none⟩ = some (.int .i64 k.kind) := cell_of_row _ _ 0 _ _ _ r7
              have c1 : W2.cell? ⟨pB, 1, none⟩ = some (.int .i64 k.mant) := cell_of_row _ _ 1 _ _ _ r7
              have c2 : W2.cell? ⟨pB, 2, none⟩ = some (.int .i64 k.exp) := cell_of_row _ _ 2 _ _ _ r7
              have c3 : W2.cell? ⟨pB, 3, none⟩ = some (.string k.text) := cell_of_row _ _ 3 _ _ _ r7
              have c4 : W2.cell? ⟨pB, 4, none⟩ = some (.bool k.truth) := cell_of_row _ _ 4 _ _ _ r7
              have c5 : W2.cell? ⟨pB, 5, none⟩ = some (.int .i64 k.fault) := cell_of_row _ _ 5 _ _ _ r7
              have lc := lt_of_block r7
              have d0 : W2.cell? ⟨pA, 0, none⟩ = some (.int .i64 u.kind) := cell_of_row _ _ 0 _ _ _ r8
              have d1 : W2.cell? ⟨pA, 1, none⟩ = some (.int .i64 u.mant) := cell_of_row _ _ 1 _ _ _ r8
              have d2 : W2.cell? ⟨pA, 2, none⟩ = some (.int .i64 u.exp) := cell_of_row _ _ 2 _ _ _ r8
              have d3 : W2.cell? ⟨pA, 3, none⟩ = some (.string u.text) := cell_of_row _ _ 3 _ _ _ r8
              have d4 : W2.cell? ⟨pA, 4, none⟩ = some (.bool u.truth) := cell_of_row _ _ 4 _ _ _ r8
              have d5 : W2.cell? ⟨pA, 5, none⟩ = some (.int .i64 u.fault) := cell_of_row _ _ 5 _ _ _ r8
              have ld := lt_of_block r8
              have t0 : W2.cell? ⟨p9, 0, none⟩ = some (.int .i64 C) := cell_of_row _ _ 0 _ _ _ r9
              have t1 : W2.cell? ⟨p9, 1, none⟩ = some (.int .i64 R) := cell_of_row _ _ 1 _ _ _ r9
              have t2 : W2.cell? ⟨p9, 2, none⟩ = some (.slice D9 m9 c9) := cell_of_row _ _ 2 _ _ _ r9
              have lt := lt_of_block r9
              refine wp_floatG [(0, 0), (3, 0), (4, 0), (7, 0), (15, 4), (8, 4), (5, 4), (1, 4), (1, 3), (2, 1), (5, 3), (6, 1), (8, 3), (9, 1), (10, 1), (11, 1), (12, 0), (13, 0), (14, 2), (15, 3)] [16, 17] [16, 17] [14] (by kernel_rfl) (by kernel_rfl) (by kernel_rfl) (fun _ _ d _ _ h => by cases d <;> exact h) (fun _ _ d _ _ h => by cases d <;> exact h) ?_
              iterate 4 ((refine wpFg_read (v := ?_) rfl ?_ (fun w1 h1 => ?_) ?_; rotate_left 1; rfl; (obtain ⟨os1, d1, rfl⟩ := h1.more; go_simp; first | done | rfl)); try simp only [Act.put, zqA, zqB, zqC])
              (refine wpFg_launch (t := 12) (.cells #[.int .i64 0, .int .i64 0, .slice none 0 0] 24) ptrB rfl rfl (fun w1 => ?_) ?_; (first | rfl | (simp [go_sem, ptrB]; done) | (go_simp; rfl)))
              (refine wpFg_launch (t := 76) ?_ (fun b => .slice (some ⟨b, 0, none⟩) 1 1) rfl rfl (fun w1 => ?_) ?_; rotate_left 1; (go_simp; first | done | rfl))
              (refine wpFg_launch (t := 73) ?_ (fun b => .slice (some ⟨b, 0, none⟩) 1 1) rfl rfl (fun w1 => ?_) ?_; rotate_left 1; (go_simp; first | done | rfl))
              (refine wpFg_launch (t := 69) ?_ (fun b => .slice (some ⟨b, 0, none⟩) 1 1) rfl rfl (fun w1 => ?_) ?_; rotate_left 1; (go_simp; first | done | rfl))
              refine wpFg_wait fun q1 _ _ _ => ?_; refine ⟨fun W => ArrIn W (some ⟨q1, 0, none⟩) 1 1 [v], fun _ _ hx h => h.ext hx, fun W _ hE h1 => arrIn_block [v] h1 rfl rfl (by decide) (by simpa using rv.ok), ?_⟩
              try simp only [Act.put, zqA, zqB, zqC]
              (refine wpFg_eff rfl ?_ (fun wf hXf hE K hK => ?_); rfl; obtain ⟨osf, df, rfl⟩ := hXf.more; go_simp; refine (row14_any _ _ _ _).mono ?_; rintro e w' ⟨rfl, hb⟩; refine hK _ _ (fun W => ArrIn W (some ⟨q1, 0, none⟩) 1 1 [v]) (by (try simp only [more_drew, more_more, Array.append_assoc]); exact hb) (fun _ _ hx h => h.ext hx) (hE.ext (by (try simp only [more_drew, more_more, Array.append_assoc]); exact hb)) ?_)
              try simp only [Act.put, zqA, zqB, zqC]
              refine wpFg_wait fun q2 _ _ _ => ?_; refine ⟨fun W => ArrIn W (some ⟨q1, 0, none⟩) 1 1 [v] ∧ ArrIn W (some ⟨q2, 0, none⟩) 1 1 [k], fun _ _ hx h => ⟨h.1.ext hx, h.2.ext hx⟩, fun W _ hE h1 => ⟨hE, arrIn_block [k] h1 rfl rfl (by decide) (by simpa using rk.ok)⟩, ?_⟩
              try simp only [Act.put, zqA, zqB, zqC]
              (refine wpFg_eff rfl ?_ (fun wf hXf hE K hK => ?_); rfl; obtain ⟨osf, df, rfl⟩ := hXf.more; go_simp; refine (row14_any _ _ _ _).mono ?_; rintro e w' ⟨rfl, hb⟩; refine hK _ _ (fun W => ArrIn W (some ⟨q1, 0, none⟩) 1 1 [v] ∧ ArrIn W (some ⟨q2, 0, none⟩) 1 1 [k]) (by (try simp only [more_drew, more_more, Array.append_assoc]); exact hb) (fun _ _ hx h => ⟨h.1.ext hx, h.2.ext hx⟩) ⟨hE.1.ext (by (try simp only [more_drew, more_more, Array.append_assoc]); exact hb), hE.2.ext (by (try simp only [more_drew, more_more, Array.append_assoc]); exact hb)⟩ ?_)
              try simp only [Act.put, zqA, zqB, zqC]
              refine wpFg_wait fun q3 _ _ _ => ?_; refine ⟨fun W => (ArrIn W (some ⟨q1, 0, none⟩) 1 1 [v] ∧ ArrIn W (some ⟨q2, 0, none⟩) 1 1 [k]) ∧ ArrIn W (some ⟨q3, 0, none⟩) 1 1 [u], fun _ _ hx h => ⟨⟨h.1.1.ext hx, h.1.2.ext hx⟩, h.2.ext hx⟩, fun W _ hE h1 => ⟨hE, arrIn_block [u] h1 rfl rfl (by decide) (by simpa using ru.ok)⟩, ?_⟩
              try simp only [Act.put, zqA, zqB, zqC]
              (refine wpFg_eff rfl ?_ (fun wf hXf hE K hK => ?_); rfl; obtain ⟨osf, df, rfl⟩ := hXf.more; go_simp; refine (row14_any _ _ _ _).mono ?_; rintro e w' ⟨rfl, hb⟩; refine hK _ _ (fun W => (ArrIn W (some ⟨q1, 0, none⟩) 1 1 [v] ∧ ArrIn W (some ⟨q2, 0, none⟩) 1 1 [k]) ∧ ArrIn W (some ⟨q3, 0, none⟩) 1 1 [u]) (by (try simp only [more_drew, more_more, Array.append_assoc]); exact hb) (fun _ _ hx h => ⟨⟨h.1.1.ext hx, h.1.2.ext hx⟩, h.2.ext hx⟩) ⟨⟨hE.1.1.ext (by (try simp only [more_drew, more_more, Array.append_assoc]); exact hb), hE.1.2.ext (by (try simp only [more_drew, more_more, Array.append_assoc]); exact hb)⟩, hE.2.ext (by (try simp only [more_drew, more_more, Array.append_assoc]); exact hb)⟩ ?_)
              try simp only [Act.put, zqA, zqB, zqC]
              (refine wpFg_eff rfl ?_ (fun wf hXf hE K hK => ?_); rfl; obtain ⟨osf, df, rfl⟩ := hXf.more; go_simp; generalize hq4 : W2.heap.size + osf.size = q4; refine hK _ _ (fun W => ArgsIn W (some ⟨q4, 0, none⟩) 4 4 [arOne v q1, ⟨⟨C, R, turnL R C l⟩, D9, m9, c9⟩, arOne k q2, arOne u q3]) (by (try simp only [drew_more]); exact (Ext.refl _).alloc _) (fun _ _ hx h => h.ext hx) (argsIn_new (n := 4) [arOne v q1, ⟨⟨C, R, turnL R C l⟩, D9, m9, c9⟩, arOne k q2, arOne u q3] (by rw [← hq4]; simp) rfl rfl (by decide) (by intro a ha; simp only [List.mem_cons, List.not_mem_nil, or_false] at ha; rcases ha with rfl | rfl | rfl | rfl; exact arOne_ok hE.1.1 rv; exact ⟨aT.ext (by repeat (first | (with_reducible (first | exact Ext.refl _ | exact ext_d _ _ _ _ | exact ext_app _ _ _ _ _ | exact ext_app2 _ _ _ _ _ _ | exact ext_app3 _ _ _ _ _ _ _)) | ((with_reducible refine ext_suffix ⟨_, ?_⟩); (try simp only [Array.append_assoc]); rfl) | (with_reducible (first | apply Ext.drew | apply Ext.alloc | apply Ext.more_)))), hRT⟩; exact arOne_ok hE.1.2 rk; exact arOne_ok hE.2 ru)) ?_)
              try simp only [Act.put, zqA, zqB, zqC]
              (refine wpFg_eff rfl ?_ (fun wf hXf hE K hK => ?_); rfl; obtain ⟨osf, df, rfl⟩ := hXf.more; go_simp; refine (call_below _ _ (arOne v q1) ⟨⟨C, R, turnL R C l⟩, D9, m9, c9⟩ (arOne k q2) (arOne u q3) v k u _ (HT.out.ext (hw2.trans (by repeat (first | (with_reducible (first | exact Ext.refl _ | exact ext_d _ _ _ _ | exact ext_app _ _ _ _ _ | exact ext_app2 _ _ _ _ _ _ | exact ext_app3 _ _ _ _ _ _ _)) | ((with_reducible refine ext_suffix ⟨_, ?_⟩); (try simp only [Array.append_assoc]); rfl) | (with_reducible (first | apply Ext.drew | apply Ext.alloc | apply Ext.more_)))))) hE rfl rfl rfl rv rk ru X HX.out).mono ?_; rintro e w' ⟨D12, m12, c12, rfl, hN, hb⟩; refine hK _ _ (fun W => ArrIn W D12 m12 c12 X.l) (by (try simp only [more_drew, more_more, Array.append_assoc]); exact hb) (fun _ _ hx h => h.ext hx) hN.arr ?_)
              try simp only [Act.put, zqA, zqB, zqC]
              iterate 2 ((refine wpFg_read (v := ?_) rfl ?_ (fun w1 h1 => ?_) ?_; rotate_left 1; rfl; (obtain ⟨os1, d1, rfl⟩ := h1.more; go_simp; first | done | rfl)); try simp only [Act.put, zqA, zqB, zqC])
              (refine wpFg_pure (v := ?_) rfl ?_ (fun w1 => ?_) ?_; rotate_left 1; rfl; (go_simp; first | done | rfl))
              try simp only [Act.put, zqA, zqB, zqC]
              refine wpFg_last fun osa da osb db hE => ?_
              try simp only [Act.put, zqA, zqB, zqC]
              iterate 2 ((refine wpTl_op rfl ?_ (fun K hK => ?_); rfl; go_simp; refine hK _ _ ?_); try simp only [Act.put, zqA, zqB, zqC])
              refine wpTl_nil ?_
              go_upto_region 7 with fail
              refine wp_world fun W3 hW3 => ?_
              obtain ⟨r12, hx23⟩ := var_at _ _ _ _ _ _ hW3
              have aY : ArrIn W3 D12 m12 c12 X.l := by rw [hW3]; exact hE.var3
              clear hW3 hE a0 a1 a2 b0 b1 b2 b3 b4 b5 c0 c1 c2 c3 c4 c5 d0 d1 d2 d3 d4 d5 t0 t1 t2 la lb lc ld lt
              replace r3 := (hx23.block (lt_of_block r3)).trans r3
              replace r4 := (hx23.block (lt_of_block r4)).trans r4
              replace r7 := (hx23.block (lt_of_block r7)).trans r7
              replace r8 := (hx23.block (lt_of_block r8)).trans r8
              replace r9 := (hx23.block (lt_of_block r9)).trans r9
              replace r10 := (hx23.block (lt_of_block r10)).trans r10
              replace aX := aX.ext hx23
              have hw3 := hw2.trans hx23
              have h3 := h2.ext hx23
              replace aT := aT.ext hx23
              generalize W2.heap.size + osa.size = p12 at *
              clear h2 hw2 hx23
              have l10 := lt_of_block r10
              have l12 := lt_of_block r12
              have x0 : W3.cell? ⟨p10, 0, none⟩ = some (.int .i64 X.R) := cell_of_row _ _ 0 _ _ _ r10
              have x1 : W3.cell? ⟨p10, 1, none⟩ = some (.int .i64 X.C) := cell_of_row _ _ 1 _ _ _ r10
              have x2 : W3.cell? ⟨p10, 2, none⟩ = some (.slice D10 m10 c10) := cell_of_row _ _ 2 _ _ _ r10
              have y0 : W3.cell? ⟨p12, 0, none⟩ = some (.int .i64 X.R) := cell_of_row _ _ 0 _ _ _ r12
              have y1 : W3.cell? ⟨p12, 1, none⟩ = some (.int .i64 X.C) := cell_of_row _ _ 1 _ _ _ r12
              have y2 : W3.cell? ⟨p12, 2, none⟩ = some (.slice D12 m12 c12) := cell_of_row _ _ 2 _ _ _ r12
              have hS := fun W (k1 : ArrIn W D10 m10 c10 X.l) (k2 : ArrIn W D12 m12 c12 X.l) => refSame_any X.R X.C X.R X.C D10 D12 m10 c10 m12 c12 X.l X.l W k1 k2
              rw [show sameA X.R X.C X.l X.R X.C X.l = true by simp [sameA]] at hS
              go_upto_region 9 with (go_at_call 11; (with_reducible refine (hS _ (aX.ext (by repeat (first | (with_reducible (first | exact Ext.refl _ | exact ext_d _ _ _ _ | exact ext_app _ _ _ _ _ | exact ext_app2 _ _ _ _ _ _ | exact ext_app3 _ _ _ _ _ _ _)) | ((with_reducible refine ext_suffix ⟨_, ?_⟩); (try simp only [Array.append_assoc]); rfl) | (with_reducible (first | apply Ext.drew | apply Ext.alloc | apply Ext.more_))))) (aY.ext (by repeat (first | (with_reducible (first | exact Ext.refl _ | exact ext_d _ _ _ _ | exact ext_app _ _ _ _ _ | exact ext_app2 _ _ _ _ _ _ | exact ext_app3 _ _ _ _ _ _ _)) | ((with_reducible refine ext_suffix ⟨_, ?_⟩); (try simp only [Array.append_assoc]); rfl) | (with_reducible (first | apply Ext.drew | apply Ext.alloc | apply Ext.more_)))))).mono ?_); rintro e w' ⟨rfl, hb⟩; obtain ⟨osy, dy, rfl⟩ := hb.more; clear hb)
              refine wp_world fun W4 hW4 => ?_
              have hx34 : Ext W3 W4 := by rw [hW4]; exact (by repeat (first | (with_reducible (first | exact Ext.refl _ | exact ext_d _ _ _ _ | exact ext_app _ _ _ _ _ | exact ext_app2 _ _ _ _ _ _ | exact ext_app3 _ _ _ _ _ _ _)) | ((with_reducible refine ext_suffix ⟨_, ?_⟩); (try simp only [Array.append_assoc]); rfl) | (with_reducible (first | apply Ext.drew | apply Ext.alloc | apply Ext.more_))))
              clear hW4 hS aX aY x0 x1 x2 y0 y1 y2 l10 l12 r10 r12 HX
              clear r8
              replace r3 := (hx34.block (lt_of_block r3)).trans r3
              replace r4 := (hx34.block (lt_of_block r4)).trans r4
              replace r7 := (hx34.block (lt_of_block r7)).trans r7
              replace r9 := (hx34.block (lt_of_block r9)).trans r9
              have hw4 := hw3.trans hx34
              have h4 := h3.ext hx34
              replace aT := aT.ext hx34
              clear h3 hw3
              have a0 : W4.cell? ⟨w.heap.size, 0, none⟩ = some (.int .i64 R) := cell_of_row _ _ 0 _ _ _ r3
              have a1 : W4.cell? ⟨w.heap.size, 1, none⟩ = some (.int .i64 C) := cell_of_row _ _ 1 _ _ _ r3
              have a2 : W4.cell? ⟨w.heap.size, 2, none⟩ = some (.slice A n cap) := cell_of_row _ _ 2 _ _ _ r3
              have la := lt_of_block r3
              have b0 : W4.cell? ⟨w.heap.size + 1, 0, none⟩ = some (.int .i64 v.kind) := cell_of_row _ _ 0 _ _ _ r4
              have b1 : W4.cell? ⟨w.heap.size + 1, 1, none⟩ = some (.int .i64 v.mant) := cell_of_row _ _ 1 _ _ _ r4
              have b2 : W4.cell? ⟨w.heap.size + 1, 2, none⟩ = some (.int .i64 v.exp) := cell_of_row _ _ 2 _ _ _ r4
              have b3 : W4.cell? ⟨w.heap.size + 1, 3, none⟩ = some (.string v.text) := cell_of_row _ _ 3 _ _ _ r4
              have b4 : W4.cell? ⟨w.heap.size + 1, 4, none⟩ = some (.bool v.truth) := cell_of_row _ _ 4 _ _ _ r4
              have b5 : W4.cell? ⟨w.heap.size + 1, 5, none⟩ = some (.int .i64 v.fault) := cell_of_row _ _ 5 _ _ _ r4
              have lb := lt_of_block r4
              have c0 : W4.cell? ⟨pB, 0, none⟩ = some (.int .i64 k.kind) := cell_of_row _ _ 0 _ _ _ r7
              have c1 : W4.cell? ⟨pB, 1, none⟩ = some (.int .i64 k.mant) := cell_of_row _ _ 1 _ _ _ r7
              have c2 : W4.cell? ⟨pB, 2, none⟩ = some (.int .i64 k.exp) := cell_of_row _ _ 2 _ _ _ r7
              have c3 : W4.cell? ⟨pB, 3, none⟩ = some (.string k.text) := cell_of_row _ _ 3 _ _ _ r7
              have c4 : W4.cell? ⟨pB, 4, none⟩ = some (.bool k.truth) := cell_of_row _ _ 4 _ _ _ r7
              have c5 : W4.cell? ⟨pB, 5, none⟩ = some (.int .i64 k.fault) := cell_of_row _ _ 5 _ _ _ r7
              have lc := lt_of_block r7
              have t0 : W4.cell? ⟨p9, 0, none⟩ = some (.int .i64 C) := cell_of_row _ _ 0 _ _ _ r9
              have t1 : W4.cell? ⟨p9, 1, none⟩ = some (.int .i64 R) := cell_of_row _ _ 1 _ _ _ r9
              have t2 : W4.cell? ⟨p9, 2, none⟩ = some (.slice D9 m9 c9) := cell_of_row _ _ 2 _ _ _ r9
              have lt := lt_of_block r9
              obtain ⟨P, hP⟩ : ∃ P, indexO ⟨R, C, l⟩ (wholeO k) (wholeO v) = P := ⟨_, rfl⟩
              obtain ⟨Z, hZ⟩ : ∃ Z, indexO ⟨C, R, turnL R C l⟩ (wholeO v) (wholeO k) = Z := ⟨_, rfl⟩
              have hIT := index_turned (a := ⟨R, C, l⟩) HR.out (wholeO k) (wholeO v)
              rw [show turnN ⟨R, C, l⟩ = ⟨C, R, turnL R C l⟩ from rfl, hP, hZ] at hIT
              have HP := Lib.hid hP
              have HZ := Lib.hid hZ
              have HIT := Lib.hid hIT
              clear hP hZ hIT
              refine wp_floatG [(0, 0), (1, 0), (4, 0), (12, 4), (5, 4), (2, 4), (2, 3), (3, 1), (5, 3), (6, 1), (7, 1), (8, 1), (9, 0), (10, 0), (11, 2), (12, 3)] [13, 14] [13, 14] [11] (by kernel_rfl) (by kernel_rfl) (by kernel_rfl) (fun _ _ d _ _ h => by cases d <;> exact h) (fun _ _ d _ _ h => by cases d <;> exact h) ?_
              iterate 3 ((refine wpFg_read (v := ?_) rfl ?_ (fun w1 h1 => ?_) ?_; rotate_left 1; rfl; (obtain ⟨os1, d1, rfl⟩ := h1.more; go_simp; first | done | rfl)); try simp only [Act.put, zqA, zqB, zqC])
              (refine wpFg_launch (t := 14) (.cells #[.int .i64 0, .int .i64 0, .slice none 0 0] 24) ptrB rfl rfl (fun w1 => ?_) ?_; (first | rfl | (simp [go_sem, ptrB]; done) | (go_simp; rfl)))
              (refine wpFg_launch (t := 100) ?_ (fun b => .slice (some ⟨b, 0, none⟩) 1 1) rfl rfl (fun w1 => ?_) ?_; rotate_left 1; (go_simp; first | done | rfl))
              (refine wpFg_launch (t := 97) ?_ (fun b => .slice (some ⟨b, 0, none⟩) 1 1) rfl rfl (fun w1 => ?_) ?_; rotate_left 1; (go_simp; first | done | rfl))
              refine wpFg_wait fun q1 _ _ _ => ?_; refine ⟨fun W => ArrIn W (some ⟨q1, 0, none⟩) 1 1 [k], fun _ _ hx h => h.ext hx, fun W _ hE h1 => arrIn_block [k] h1 rfl rfl (by decide) (by simpa using rk.ok), ?_⟩
              try simp only [Act.put, zqA, zqB, zqC]
              (refine wpFg_eff rfl ?_ (fun wf hXf hE K hK => ?_); rfl; obtain ⟨osf, df, rfl⟩ := hXf.more; go_simp; refine (row14_any _ _ _ _).mono ?_; rintro e w' ⟨rfl, hb⟩; refine hK _ _ (fun W => ArrIn W (some ⟨q1, 0, none⟩) 1 1 [k]) (by (try simp only [more_drew, more_more, Array.append_assoc]); exact hb) (fun _ _ hx h => h.ext hx) (hE.ext (by (try simp only [more_drew, more_more, Array.append_assoc]); exact hb)) ?_)
              try simp only [Act.put, zqA, zqB, zqC]
              refine wpFg_wait fun q2 _ _ _ => ?_; refine ⟨fun W => ArrIn W (some ⟨q1, 0, none⟩) 1 1 [k] ∧ ArrIn W (some ⟨q2, 0, none⟩) 1 1 [v], fun _ _ hx h => ⟨h.1.ext hx, h.2.ext hx⟩, fun W _ hE h1 => ⟨hE, arrIn_block [v] h1 rfl rfl (by decide) (by simpa using rv.ok)⟩, ?_⟩
              try simp only [Act.put, zqA, zqB, zqC]
              (refine wpFg_eff rfl ?_ (fun wf hXf hE K hK => ?_); rfl; obtain ⟨osf, df, rfl⟩ := hXf.more; go_simp; refine (row14_any _ _ _ _).mono ?_; rintro e w' ⟨rfl, hb⟩; refine hK _ _ (fun W => ArrIn W (some ⟨q1, 0, none⟩) 1 1 [k] ∧ ArrIn W (some ⟨q2, 0, none⟩) 1 1 [v]) (by (try simp only [more_drew, more_more, Array.append_assoc]); exact hb) (fun _ _ hx h => ⟨h.1.ext hx, h.2.ext hx⟩) ⟨hE.1.ext (by (try simp only [more_drew, more_more, Array.append_assoc]); exact hb), hE.2.ext (by (try simp only [more_drew, more_more, Array.append_assoc]); exact hb)⟩ ?_)
              try simp only [Act.put, zqA, zqB, zqC]
              (refine wpFg_eff rfl ?_ (fun wf hXf hE K hK => ?_); rfl; obtain ⟨osf, df, rfl⟩ := hXf.more; go_simp; generalize hq4 : W4.heap.size + osf.size = q4; refine hK _ _ (fun W => ArgsIn W (some ⟨q4, 0, none⟩) 3 3 [⟨⟨R, C, l⟩, A, n, cap⟩, arOne k q1, arOne v q2]) (by (try simp only [drew_more]); exact (Ext.refl _).alloc _) (fun _ _ hx h => h.ext hx) (argsIn_new (n := 3) [⟨⟨R, C, l⟩, A, n, cap⟩, arOne k q1, arOne v q2] (by rw [← hq4]; simp) rfl rfl (by decide) (by intro a ha; simp only [List.mem_cons, List.not_mem_nil, or_false] at ha; rcases ha with rfl | rfl | rfl; exact ⟨h4.ext (by repeat (first | (with_reducible (first | exact Ext.refl _ | exact ext_d _ _ _ _ | exact ext_app _ _ _ _ _ | exact ext_app2 _ _ _ _ _ _ | exact ext_app3 _ _ _ _ _ _ _)) | ((with_reducible refine ext_suffix ⟨_, ?_⟩); (try simp only [Array.append_assoc]); rfl) | (with_reducible (first | apply Ext.drew | apply Ext.alloc | apply Ext.more_)))), HR.out⟩; exact arOne_ok hE.1 rk; exact arOne_ok hE.2 rv)) ?_)
              try simp only [Act.put, zqA, zqB, zqC]
              (refine wpFg_eff rfl ?_ (fun wf hXf hE K hK => ?_); rfl; obtain ⟨osf, df, rfl⟩ := hXf.more; go_simp; refine (call_index3 _ _ ⟨⟨R, C, l⟩, A, n, cap⟩ (arOne k q1) (arOne v q2) k v _ hE rfl rfl rk rv P HP.out).mono ?_; rintro e w' ⟨D13, m13, c13, rfl, hN, hb⟩; refine hK _ _ (fun W => ArrIn W D13 m13 c13 P.l) (by (try simp only [more_drew, more_more, Array.append_assoc]); exact hb) (fun _ _ hx h => h.ext hx) hN.arr ?_)
              try simp only [Act.put, zqA, zqB, zqC]
              iterate 2 ((refine wpFg_read (v := ?_) rfl ?_ (fun w1 h1 => ?_) ?_; rotate_left 1; rfl; (obtain ⟨os1, d1, rfl⟩ := h1.more; go_simp; first | done | rfl)); try simp only [Act.put, zqA, zqB, zqC])
              (refine wpFg_pure (v := ?_) rfl ?_ (fun w1 => ?_) ?_; rotate_left 1; rfl; (go_simp; first | done | rfl))
              try simp only [Act.put, zqA, zqB, zqC]
              refine wpFg_last fun osa da osb db hE => ?_
              try simp only [Act.put, zqA, zqB, zqC]
              iterate 2 ((refine wpTl_op rfl ?_ (fun K hK => ?_); rfl; go_simp; refine hK _ _ ?_); try simp only [Act.put, zqA, zqB, zqC])
              refine wpTl_nil ?_
              go_upto_region 10 with fail
              refine wp_world fun W5 hW5 => ?_
              obtain ⟨r14, hx45⟩ := var_at _ _ _ _ _ _ hW5
              have aP : ArrIn W5 D13 m13 c13 P.l := by rw [hW5]; exact hE.var3
              clear hW5 hE a0 a1 a2 b0 b1 b2 b3 b4 b5 c0 c1 c2 c3 c4 c5 t0 t1 t2 la lb lc lt
              generalize W4.heap.size + osa.size = p14 at *
              replace r3 := (hx45.block (lt_of_block r3)).trans r3
              replace r4 := (hx45.block (lt_of_block r4)).trans r4
              replace r7 := (hx45.block (lt_of_block r7)).trans r7
              replace r9 := (hx45.block (lt_of_block r9)).trans r9
              have hw5 := hw4.trans hx45
              have h5 := h4.ext hx45
              replace aT := aT.ext hx45
              clear h4 hw4
              have a0 : W5.cell? ⟨w.heap.size, 0, none⟩ = some (.int .i64 R) := cell_of_row _ _ 0 _ _ _ r3
              have a1 : W5.cell? ⟨w.heap.size, 1, none⟩ = some (.int .i64 C) := cell_of_row _ _ 1 _ _ _ r3
              have a2 : W5.cell? ⟨w.heap.size, 2, none⟩ = some (.slice A n cap) := cell_of_row _ _ 2 _ _ _ r3
              have la := lt_of_block r3
              have b0 : W5.cell? ⟨w.heap.size + 1, 0, none⟩ = some (.int .i64 v.kind) := cell_of_row _ _ 0 _ _ _ r4
              have b1 : W5.cell? ⟨w.heap.size + 1, 1, none⟩ = some (.int .i64 v.mant) := cell_of_row _ _ 1 _ _ _ r4
              have b2 : W5.cell? ⟨w.heap.size + 1, 2, none⟩ = some (.int .i64 v.exp) := cell_of_row _ _ 2 _ _ _ r4
              have b3 : W5.cell? ⟨w.heap.size + 1, 3, none⟩ = some (.string v.text) := cell_of_row _ _ 3 _ _ _ r4
              have b4 : W5.cell? ⟨w.heap.size + 1, 4, none⟩ = some (.bool v.truth) := cell_of_row _ _ 4 _ _ _ r4
              have b5 : W5.cell? ⟨w.heap.size + 1, 5, none⟩ = some (.int .i64 v.fault) := cell_of_row _ _ 5 _ _ _ r4
              have lb := lt_of_block r4
              have c0 : W5.cell? ⟨pB, 0, none⟩ = some (.int .i64 k.kind) := cell_of_row _ _ 0 _ _ _ r7
              have c1 : W5.cell? ⟨pB, 1, none⟩ = some (.int .i64 k.mant) := cell_of_row _ _ 1 _ _ _ r7
              have c2 : W5.cell? ⟨pB, 2, none⟩ = some (.int .i64 k.exp) := cell_of_row _ _ 2 _ _ _ r7
              have c3 : W5.cell? ⟨pB, 3, none⟩ = some (.string k.text) := cell_of_row _ _ 3 _ _ _ r7
              have c4 : W5.cell? ⟨pB, 4, none⟩ = some (.bool k.truth) := cell_of_row _ _ 4 _ _ _ r7
              have c5 : W5.cell? ⟨pB, 5, none⟩ = some (.int .i64 k.fault) := cell_of_row _ _ 5 _ _ _ r7
              have lc := lt_of_block r7
              have t0 : W5.cell? ⟨p9, 0, none⟩ = some (.int .i64 C) := cell_of_row _ _ 0 _ _ _ r9
              have t1 : W5.cell? ⟨p9, 1, none⟩ = some (.int .i64 R) := cell_of_row _ _ 1 _ _ _ r9
              have t2 : W5.cell? ⟨p9, 2, none⟩ = some (.slice D9 m9 c9) := cell_of_row _ _ 2 _ _ _ r9
              have lt := lt_of_block r9
              refine wp_floatG [(0, 0), (1, 0), (4, 0), (12, 4), (5, 4), (2, 4), (2, 3), (3, 1), (5, 3), (6, 1), (7, 1), (8, 1), (9, 0), (10, 0), (11, 2), (12, 3)] [13, 14] [13, 14] [11] (by kernel_rfl) (by kernel_rfl) (by kernel_rfl) (fun _ _ d _ _ h => by cases d <;> exact h) (fun _ _ d _ _ h => by cases d <;> exact h) ?_
              iterate 3 ((refine wpFg_read (v := ?_) rfl ?_ (fun w1 h1 => ?_) ?_; rotate_left 1; rfl; (obtain ⟨os1, d1, rfl⟩ := h1.more; go_simp; first | done | rfl)); try simp only [Act.put, zqA, zqB, zqC])
              (refine wpFg_launch (t := 16) (.cells #[.int .i64 0, .int .i64 0, .slice none 0 0] 24) ptrB rfl rfl (fun w1 => ?_) ?_; (first | rfl | (simp [go_sem, ptrB]; done) | (go_simp; rfl)))
              (refine wpFg_launch (t := 112) ?_ (fun b => .slice (some ⟨b, 0, none⟩) 1 1) rfl rfl (fun w1 => ?_) ?_; rotate_left 1; (go_simp; first | done | rfl))
              (refine wpFg_launch (t := 109) ?_ (fun b => .slice (some ⟨b, 0, none⟩) 1 1) rfl rfl (fun w1 => ?_) ?_; rotate_left 1; (go_simp; first | done | rfl))
              refine wpFg_wait fun q1 _ _ _ => ?_; refine ⟨fun W => ArrIn W (some ⟨q1, 0, none⟩) 1 1 [v], fun _ _ hx h => h.ext hx, fun W _ hE h1 => arrIn_block [v] h1 rfl rfl (by decide) (by simpa using rv.ok), ?_⟩
              try simp only [Act.put, zqA, zqB, zqC]
              (refine wpFg_eff rfl ?_ (fun wf hXf hE K hK => ?_); rfl; obtain ⟨osf, df, rfl⟩ := hXf.more; go_simp; refine (row14_any _ _ _ _).mono ?_; rintro e w' ⟨rfl, hb⟩; refine hK _ _ (fun W => ArrIn W (some ⟨q1, 0, none⟩) 1 1 [v]) (by (try simp only [more_drew, more_more, Array.append_assoc]); exact hb) (fun _ _ hx h => h.ext hx) (hE.ext (by (try simp only [more_drew, more_more, Array.append_assoc]); exact hb)) ?_)
              try simp only [Act.put, zqA, zqB, zqC]
              refine wpFg_wait fun q2 _ _ _ => ?_; refine ⟨fun W => ArrIn W (some ⟨q1, 0, none⟩) 1 1 [v] ∧ ArrIn W (some ⟨q2, 0, none⟩) 1 1 [k], fun _ _ hx h => ⟨h.1.ext hx, h.2.ext hx⟩, fun W _ hE h1 => ⟨hE, arrIn_block [k] h1 rfl rfl (by decide) (by simpa using rk.ok)⟩, ?_⟩
              try simp only [Act.put, zqA, zqB, zqC]
              (refine wpFg_eff rfl ?_ (fun wf hXf hE K hK => ?_); rfl; obtain ⟨osf, df, rfl⟩ := hXf.more; go_simp; refine (row14_any _ _ _ _).mono ?_; rintro e w' ⟨rfl, hb⟩; refine hK _ _ (fun W => ArrIn W (some ⟨q1, 0, none⟩) 1 1 [v] ∧ ArrIn W (some ⟨q2, 0, none⟩) 1 1 [k]) (by (try simp only [more_drew, more_more, Array.append_assoc]); exact hb) (fun _ _ hx h => ⟨h.1.ext hx, h.2.ext hx⟩) ⟨hE.1.ext (by (try simp only [more_drew, more_more, Array.append_assoc]); exact hb), hE.2.ext (by (try simp only [more_drew, more_more, Array.append_assoc]); exact hb)⟩ ?_)
              try simp only [Act.put, zqA, zqB, zqC]
              (refine wpFg_eff rfl ?_ (fun wf hXf hE K hK => ?_); rfl; obtain ⟨osf, df, rfl⟩ := hXf.more; go_simp; generalize hq4 : W5.heap.size + osf.size = q4; refine hK _ _ (fun W => ArgsIn W (some ⟨q4, 0, none⟩) 3 3 [⟨⟨C, R, turnL R C l⟩, D9, m9, c9⟩, arOne v q1, arOne k q2]) (by (try simp only [drew_more]); exact (Ext.refl _).alloc _) (fun _ _ hx h => h.ext hx) (argsIn_new (n := 3) [⟨⟨C, R, turnL R C l⟩, D9, m9, c9⟩, arOne v q1, arOne k q2] (by rw [← hq4]; simp) rfl rfl (by decide) (by intro a ha; simp only [List.mem_cons, List.not_mem_nil, or_false] at ha; rcases ha with rfl | rfl | rfl; exact ⟨aT.ext (by repeat (first | (with_reducible (first | exact Ext.refl _ | exact ext_d _ _ _ _ | exact ext_app _ _ _ _ _ | exact ext_app2 _ _ _ _ _ _ | exact ext_app3 _ _ _ _ _ _ _)) | ((with_reducible refine ext_suffix ⟨_, ?_⟩); (try simp only [Array.append_assoc]); rfl) | (with_reducible (first | apply Ext.drew | apply Ext.alloc | apply Ext.more_)))), hRT⟩; exact arOne_ok hE.1 rv; exact arOne_ok hE.2 rk)) ?_)
              try simp only [Act.put, zqA, zqB, zqC]
              (refine wpFg_eff rfl ?_ (fun wf hXf hE K hK => ?_); rfl; obtain ⟨osf, df, rfl⟩ := hXf.more; go_simp; refine (call_index3 _ _ ⟨⟨C, R, turnL R C l⟩, D9, m9, c9⟩ (arOne v q1) (arOne k q2) v k _ hE rfl rfl rv rk Z HZ.out).mono ?_; rintro e w' ⟨D15, m15, c15, rfl, hN, hb⟩; refine hK _ _ (fun W => ArrIn W D15 m15 c15 Z.l) (by (try simp only [more_drew, more_more, Array.append_assoc]); exact hb) (fun _ _ hx h => h.ext hx) hN.arr ?_)
              try simp only [Act.put, zqA, zqB, zqC]
              iterate 2 ((refine wpFg_read (v := ?_) rfl ?_ (fun w1 h1 => ?_) ?_; rotate_left 1; rfl; (obtain ⟨os1, d1, rfl⟩ := h1.more; go_simp; first | done | rfl)); try simp only [Act.put, zqA, zqB, zqC])
              (refine wpFg_pure (v := ?_) rfl ?_ (fun w1 => ?_) ?_; rotate_left 1; rfl; (go_simp; first | done | rfl))
              try simp only [Act.put, zqA, zqB, zqC]
              refine wpFg_last fun osa da osb db hE => ?_
              try simp only [Act.put, zqA, zqB, zqC]
              iterate 2 ((refine wpTl_op rfl ?_ (fun K hK => ?_); rfl; go_simp; refine hK _ _ ?_); try simp only [Act.put, zqA, zqB, zqC])
              refine wpTl_nil ?_
              go_upto_region 11 with fail
              refine wp_world fun W6 hW6 => ?_
              obtain ⟨r16, hx56⟩ := var_at _ _ _ _ _ _ hW6
              have aZ : ArrIn W6 D15 m15 c15 Z.l := by rw [hW6]; exact hE.var3
              clear hW6 hE a0 a1 a2 b0 b1 b2 b3 b4 b5 c0 c1 c2 c3 c4 c5 t0 t1 t2 la lb lc lt
              generalize W5.heap.size + osa.size = p16 at *
              replace r14 := (hx56.block (lt_of_block r14)).trans r14
              replace aP := aP.ext hx56
              have hw6 := hw5.trans hx56
              clear r3 r4 r7 r9 aT h5 hw5 hx56 hx45 hx34
              have e0 : W6.cell? ⟨p14, 0, none⟩ = some (.int .i64 P.R) := cell_of_row _ _ 0 _ _ _ r14
              have e1 : W6.cell? ⟨p14, 1, none⟩ = some (.int .i64 P.C) := cell_of_row _ _ 1 _ _ _ r14
              have e2 : W6.cell? ⟨p14, 2, none⟩ = some (.slice D13 m13 c13) := cell_of_row _ _ 2 _ _ _ r14
              have f0 : W6.cell? ⟨p16, 0, none⟩ = some (.int .i64 Z.R) := cell_of_row _ _ 0 _ _ _ r16
              have f1 : W6.cell? ⟨p16, 1, none⟩ = some (.int .i64 Z.C) := cell_of_row _ _ 1 _ _ _ r16
              have f2 : W6.cell? ⟨p16, 2, none⟩ = some (.slice D15 m15 c15) := cell_of_row _ _ 2 _ _ _ r16
              have l14 := lt_of_block r14
              have l16 := lt_of_block r16
              have mP := aP.len
              have mZ := aZ.len
              rcases HIT.out with ⟨⟨x, hx1, hx4⟩, ⟨z, hz1, hz4⟩⟩ | ⟨hnf, hPr, hZP⟩
              · rw [hx1] at aP mP
                rw [hz1] at aZ mZ
                obtain rfl : m13 = 1 := mP.symm
                obtain rfl : m15 = 1 := mZ.symm
                obtain ⟨x', bp, op, hx0, hxo, rfl, hat⟩ := aP.at (k := 0) Nat.one_pos
                obtain rfl : x = x' := by simpa using hx0
                obtain ⟨z', bz, oz, hz0, hzo, rfl, hatz⟩ := aZ.at (k := 0) Nat.one_pos
                obtain rfl : z = z' := by simpa using hz0
                obtain ⟨v0, _⟩ := hat
                obtain ⟨z0, _⟩ := hatz
                simp only [Nat.zero_mul, Nat.add_zero] at v0 z0
                rw [hx4] at v0
                rw [hz4] at z0
                have hlb := lt_of_cell v0
                have hlz := lt_of_cell z0
                clear mP mZ hx0 hz0 hx1 hz1 hx4 hz4 hxo hzo HIT r14 r16
                go_wp2_with fail
                go_ret
                exact ⟨rfl, hw6.trans (by repeat (first | (with_reducible (first | exact Ext.refl _ | exact ext_d _ _ _ _ | exact ext_app _ _ _ _ _ | exact ext_app2 _ _ _ _ _ _ | exact ext_app3 _ _ _ _ _ _ _)) | ((with_reducible refine ext_suffix ⟨_, ?_⟩); (try simp only [Array.append_assoc]); rfl) | (with_reducible (first | apply Ext.drew | apply Ext.alloc | apply Ext.more_))))⟩
              · have gP := fun W (hW : ArrIn W D13 m13 c13 P.l) => refRightA_any P.R P.C D13 m13 c13 P.l W hW
                rw [← rightA_eq _ _ _ aP.ok, show rightA (P.R : Int) P.C P.l = true from hPr] at gP
                have gT := fun W (hW : ArrIn W D13 m13 c13 P.l) => refTurn_res P D13 m13 c13 W hW hPr
                rw [← hZP] at gT
                have hS := fun W D m c (k1 : ArrIn W D m c Z.l) (k2 : ArrIn W D15 m15 c15 Z.l) => refSame_any Z.R Z.C Z.R Z.C D D15 m c m15 c15 Z.l Z.l W k1 k2
                rw [show sameA Z.R Z.C Z.l Z.R Z.C Z.l = true by simp [sameA]] at hS
                clear hZP hPr
                by_cases hm : P.l.length = 1
                · obtain ⟨x, hx1⟩ := List.length_eq_one_iff.1 hm
                  have hx4 : ¬ x.kind = 4 := fun e => hnf ⟨x, hx1, e⟩
                  obtain rfl : m13 = 1 := by rw [← mP]; exact hm
                  obtain ⟨x', bp, op, hx0, hxo, rfl, hat⟩ := aP.at (k := 0) Nat.one_pos
                  obtain rfl : x = x' := by rw [hx1] at hx0; simpa using hx0
                  obtain ⟨v0, _⟩ := hat
                  simp only [Nat.zero_mul, Nat.add_zero] at v0
                  have hlb := lt_of_cell v0
                  generalize x.kind = K at *
                  clear mP mZ hx0 hx1 hm hxo HIT r14 r16 hnf
                  go_wp2_with fail
                  refine wp_plan (S := Ext _) [(0, 0), (1, 1), (2, 0), (3, 0), (5, 0), (4, 1), (6, 1), (7, 0), (8, 0)] [] (by kernel_rfl) (by kernel_rfl) (by kernel_rfl) (fun _ _ d _ _ h => by cases d <;> exact h) (Ext.drew (Ext.refl _)) ?_
                  (refine wpPl_read (v := ?_) rfl ?_ (fun _ h => ?_) ?_; rotate_left 1; rfl; (obtain ⟨_, _, rfl⟩ := h.more; go_simp; try rfl))
                  try simp only [Act.put, zqA, zqB, zqC]
                  (refine wpPl_eff rfl ?_ (fun K hK => ?_); rfl; go_simp; refine (gP _ (aP.ext (by repeat (first | (with_reducible (first | exact Ext.refl _ | exact ext_d _ _ _ _ | exact ext_app _ _ _ _ _ | exact ext_app2 _ _ _ _ _ _ | exact ext_app3 _ _ _ _ _ _ _)) | ((with_reducible refine ext_suffix ⟨_, ?_⟩); (try simp only [Array.append_assoc]); rfl) | (with_reducible (first | apply Ext.drew | apply Ext.alloc | apply Ext.more_)))))).mono ?_; rintro e w' ⟨rfl, hb⟩; obtain ⟨os1, d1, rfl⟩ := hb.more; clear hb; refine hK _ _ ?_ ?_; (repeat (first | (with_reducible (first | exact Ext.refl _ | exact ext_d _ _ _ _ | exact ext_app _ _ _ _ _ | exact ext_app2 _ _ _ _ _ _ | exact ext_app3 _ _ _ _ _ _ _ | exact ext_app4 _ _ _ _ _ _ _ _ | exact ext_app5 _ _ _ _ _ _ _ _ _)) | ((with_reducible refine ext_suffix ⟨_, ?_⟩); (try simp only [Array.append_assoc]); rfl) | (with_reducible (first | apply Ext.drew | apply Ext.alloc | apply Ext.more_)) | apply Ext.drew | apply Ext.alloc | apply Ext.more_)))
                  try simp only [Act.put, zqA, zqB, zqC]
                  (refine wpPl_read (v := ?_) rfl ?_ (fun _ h => ?_) ?_; rotate_left 1; rfl; (obtain ⟨_, _, rfl⟩ := h.more; go_simp; try rfl))
                  try simp only [Act.put, zqA, zqB, zqC]
                  iterate 2 ((first | (refine wpPl_skip rfl rfl ?_) | (refine wpPl_read (v := ?_) rfl ?_ (fun w1 h1 => ?_) ?_; rotate_left 1; rfl; (obtain ⟨os1, d1, rfl⟩ := h1.more; go_simp; first | done | rfl)) | (refine wpPl_gread (v := ?_) (c := ?_) rfl rfl rfl rfl ?_ (fun hc w1 h1 => ?_) ?_; rotate_left 2; (first | exact gc_t _ | exact gc_f _ | exact gc_gt _ _ | exact gc_gf _ _); (obtain ⟨os1, d1, rfl⟩ := h1.more; (try simp only [gv_of hc]); (try (have hc1 := and_l hc; (try simp only [gv_of hc1]); (try (have hc2 := and_l hc1; (try simp only [gv_of hc2]))))); go_simp; first | done | rfl))); try simp only [Act.put, zqA, zqB, zqC])
                  (refine wpPl_eff rfl ?_ (fun K hK => ?_); (first | with_reducible rfl | rfl | (go_simp; done)); go_simp; refine (gT _ (aP.ext (by repeat (first | (with_reducible (first | exact Ext.refl _ | exact ext_d _ _ _ _ | exact ext_app _ _ _ _ _ | exact ext_app2 _ _ _ _ _ _ | exact ext_app3 _ _ _ _ _ _ _)) | ((with_reducible refine ext_suffix ⟨_, ?_⟩); (try simp only [Array.append_assoc]); rfl) | (with_reducible (first | apply Ext.drew | apply Ext.alloc | apply Ext.more_)))))).mono ?_; rintro e w' ⟨D17, m17, c17, rfl, hN, hb⟩; obtain ⟨os17, d17, rfl⟩ := hb.more; clear hb; have hNa := hN.arr; clear hN; (try simp only [more_more, Array.append_assoc] at hNa); refine hK _ _ ?_ ?_; (repeat (first | (with_reducible (first | exact Ext.refl _ | exact ext_d _ _ _ _ | exact ext_app _ _ _ _ _ | exact ext_app2 _ _ _ _ _ _ | exact ext_app3 _ _ _ _ _ _ _ | exact ext_app4 _ _ _ _ _ _ _ _ | exact ext_app5 _ _ _ _ _ _ _ _ _)) | ((with_reducible refine ext_suffix ⟨_, ?_⟩); (try simp only [Array.append_assoc]); rfl) | (with_reducible (first | apply Ext.drew | apply Ext.alloc | apply Ext.more_)) | apply Ext.drew | apply Ext.alloc | apply Ext.more_)))
                  try simp only [Act.put, zqA, zqB, zqC]
                  (refine wpPl_eff rfl ?_ (fun K hK => ?_); (first | with_reducible rfl | rfl | (go_simp; done)); go_simp; refine (hS _ _ _ _ (hNa.ext (by repeat (first | (with_reducible (first | exact Ext.refl _ | exact ext_d _ _ _ _ | exact ext_app _ _ _ _ _ | exact ext_app2 _ _ _ _ _ _ | exact ext_app3 _ _ _ _ _ _ _)) | ((with_reducible refine ext_suffix ⟨_, ?_⟩); (try simp only [Array.append_assoc]); rfl) | (with_reducible (first | apply Ext.drew | apply Ext.alloc | apply Ext.more_))))) (aZ.ext (by repeat (first | (with_reducible (first | exact Ext.refl _ | exact ext_d _ _ _ _ | exact ext_app _ _ _ _ _ | exact ext_app2 _ _ _ _ _ _ | exact ext_app3 _ _ _ _ _ _ _)) | ((with_reducible refine ext_suffix ⟨_, ?_⟩); (try simp only [Array.append_assoc]); rfl) | (with_reducible (first | apply Ext.drew | apply Ext.alloc | apply Ext.more_)))))).mono ?_; rintro e w' ⟨rfl, hb⟩; obtain ⟨os6, d6, rfl⟩ := hb.more; clear hb; refine hK _ _ ?_ ?_; (repeat (first | (with_reducible (first | exact Ext.refl _ | exact ext_d _ _ _ _ | exact ext_app _ _ _ _ _ | exact ext_app2 _ _ _ _ _ _ | exact ext_app3 _ _ _ _ _ _ _ | exact ext_app4 _ _ _ _ _ _ _ _ | exact ext_app5 _ _ _ _ _ _ _ _ _)) | ((with_reducible refine ext_suffix ⟨_, ?_⟩); (try simp only [Array.append_assoc]); rfl) | (with_reducible (first | apply Ext.drew | apply Ext.alloc | apply Ext.more_)) | apply Ext.drew | apply Ext.alloc | apply Ext.more_)))
                  try simp only [Act.put, zqA, zqB, zqC]
                  first | (refine wpPl_pick_and rfl rfl rfl rfl rfl rfl ?_) | (refine wpPl_pick_or rfl rfl rfl rfl rfl rfl ?_) | (refine wpPl_read (v := ?_) rfl ?_ (fun w1 h1 => ?_) ?_; rotate_left 1; rfl; (obtain ⟨os1, d1, rfl⟩ := h1.more; go_simp; first | done | rfl))
                  try simp only [Act.put, zqA, zqB, zqC]
                  (refine wpPl_read (v := ?_) rfl ?_ (fun _ h => ?_) ?_; rotate_left 1; rfl; (obtain ⟨_, _, rfl⟩ := h.more; go_simp; try rfl))
                  try simp only [Act.put, zqA, zqB, zqC]
                  refine wpPl_nil ?_
                  go_wp2_with fail
                  go_ret
                  exact ⟨rfl, hw6.trans (by repeat (first | (with_reducible (first | exact Ext.refl _ | exact ext_d _ _ _ _ | exact ext_app _ _ _ _ _ | exact ext_app2 _ _ _ _ _ _ | exact ext_app3 _ _ _ _ _ _ _)) | ((with_reducible refine ext_suffix ⟨_, ?_⟩); (try simp only [Array.append_assoc]); rfl) | (with_reducible (first | apply Ext.drew | apply Ext.alloc | apply Ext.more_))))⟩
                · have hm1 : ¬ ((m13 : Int) = 1) := fun e => hm (by rw [mP]; omega)
                  clear mP mZ hm HIT r14 r16 hnf
                  go_wp2_with fail
                  refine wp_plan (S := Ext _) [(0, 0), (1, 1), (2, 0), (3, 0), (5, 0), (4, 1), (6, 1), (7, 0), (8, 0)] [] (by kernel_rfl) (by kernel_rfl) (by kernel_rfl) (fun _ _ d _ _ h => by cases d <;> exact h) (Ext.drew (Ext.refl _)) ?_
                  (refine wpPl_read (v := ?_) rfl ?_ (fun _ h => ?_) ?_; rotate_left 1; rfl; (obtain ⟨_, _, rfl⟩ := h.more; go_simp; try rfl))
                  try simp only [Act.put, zqA, zqB, zqC]
                  (refine wpPl_eff rfl ?_ (fun K hK => ?_); rfl; go_simp; refine (gP _ (aP.ext (by repeat (first | (with_reducible (first | exact Ext.refl _ | exact ext_d _ _ _ _ | exact ext_app _ _ _ _ _ | exact ext_app2 _ _ _ _ _ _ | exact ext_app3 _ _ _ _ _ _ _)) | ((with_reducible refine ext_suffix ⟨_, ?_⟩); (try simp only [Array.append_assoc]); rfl) | (with_reducible (first | apply Ext.drew | apply Ext.alloc | apply Ext.more_)))))).mono ?_; rintro e w' ⟨rfl, hb⟩; obtain ⟨os1, d1, rfl⟩ := hb.more; clear hb; refine hK _ _ ?_ ?_; (repeat (first | (with_reducible (first | exact Ext.refl _ | exact ext_d _ _ _ _ | exact ext_app _ _ _ _ _ | exact ext_app2 _ _ _ _ _ _ | exact ext_app3 _ _ _ _ _ _ _ | exact ext_app4 _ _ _ _ _ _ _ _ | exact ext_app5 _ _ _ _ _ _ _ _ _)) | ((with_reducible refine ext_suffix ⟨_, ?_⟩); (try simp only [Array.append_assoc]); rfl) | (with_reducible (first | apply Ext.drew | apply Ext.alloc | apply Ext.more_)) | apply Ext.drew | apply Ext.alloc | apply Ext.more_)))
                  try simp only [Act.put, zqA, zqB, zqC]
                  (refine wpPl_read (v := ?_) rfl ?_ (fun _ h => ?_) ?_; rotate_left 1; rfl; (obtain ⟨_, _, rfl⟩ := h.more; go_simp; try rfl))
                  try simp only [Act.put, zqA, zqB, zqC]
                  iterate 2 ((first | (refine wpPl_skip rfl rfl ?_) | (refine wpPl_read (v := ?_) rfl ?_ (fun w1 h1 => ?_) ?_; rotate_left 1; rfl; (obtain ⟨os1, d1, rfl⟩ := h1.more; go_simp; first | done | rfl)) | (refine wpPl_gread (v := ?_) (c := ?_) rfl rfl rfl rfl ?_ (fun hc w1 h1 => ?_) ?_; rotate_left 2; (first | exact gc_t _ | exact gc_f _ | exact gc_gt _ _ | exact gc_gf _ _); (obtain ⟨os1, d1, rfl⟩ := h1.more; (try simp only [gv_of hc]); (try (have hc1 := and_l hc; (try simp only [gv_of hc1]); (try (have hc2 := and_l hc1; (try simp only [gv_of hc2]))))); go_simp; first | done | rfl))); try simp only [Act.put, zqA, zqB, zqC])
                  (refine wpPl_eff rfl ?_ (fun K hK => ?_); (first | with_reducible rfl | rfl | (go_simp; done)); go_simp; refine (gT _ (aP.ext (by repeat (first | (with_reducible (first | exact Ext.refl _ | exact ext_d _ _ _ _ | exact ext_app _ _ _ _ _ | exact ext_app2 _ _ _ _ _ _ | exact ext_app3 _ _ _ _ _ _ _)) | ((with_reducible refine ext_suffix ⟨_, ?_⟩); (try simp only [Array.append_assoc]); rfl) | (with_reducible (first | apply Ext.drew | apply Ext.alloc | apply Ext.more_)))))).mono ?_; rintro e w' ⟨D17, m17, c17, rfl, hN, hb⟩; obtain ⟨os17, d17, rfl⟩ := hb.more; clear hb; have hNa := hN.arr; clear hN; (try simp only [more_more, Array.append_assoc] at hNa); refine hK _ _ ?_ ?_; (repeat (first | (with_reducible (first | exact Ext.refl _ | exact ext_d _ _ _ _ | exact ext_app _ _ _ _ _ | exact ext_app2 _ _ _ _ _ _ | exact ext_app3 _ _ _ _ _ _ _ | exact ext_app4 _ _ _ _ _ _ _ _ | exact ext_app5 _ _ _ _ _ _ _ _ _)) | ((with_reducible refine ext_suffix ⟨_, ?_⟩); (try simp only [Array.append_assoc]); rfl) | (with_reducible (first | apply Ext.drew | apply Ext.alloc | apply Ext.more_)) | apply Ext.drew | apply Ext.alloc | apply Ext.more_)))
                  try simp only [Act.put, zqA, zqB, zqC]
                  (refine wpPl_eff rfl ?_ (fun K hK => ?_); (first | with_reducible rfl | rfl | (go_simp; done)); go_simp; refine (hS _ _ _ _ (hNa.ext (by repeat (first | (with_reducible (first | exact Ext.refl _ | exact ext_d _ _ _ _ | exact ext_app _ _ _ _ _ | exact ext_app2 _ _ _ _ _ _ | exact ext_app3 _ _ _ _ _ _ _)) | ((with_reducible refine ext_suffix ⟨_, ?_⟩); (try simp only [Array.append_assoc]); rfl) | (with_reducible (first | apply Ext.drew | apply Ext.alloc | apply Ext.more_))))) (aZ.ext (by repeat (first | (with_reducible (first | exact Ext.refl _ | exact ext_d _ _ _ _ | exact ext_app _ _ _ _ _ | exact ext_app2 _ _ _ _ _ _ | exact ext_app3 _ _ _ _ _ _ _)) | ((with_reducible refine ext_suffix ⟨_, ?_⟩); (try simp only [Array.append_assoc]); rfl) | (with_reducible (first | apply Ext.drew | apply Ext.alloc | apply Ext.more_)))))).mono ?_; rintro e w' ⟨rfl, hb⟩; obtain ⟨os6, d6, rfl⟩ := hb.more; clear hb; refine hK _ _ ?_ ?_; (repeat (first | (with_reducible (first | exact Ext.refl _ | exact ext_d _ _ _ _ | exact ext_app _ _ _ _ _ | exact ext_app2 _ _ _ _ _ _ | exact ext_app3 _ _ _ _ _ _ _ | exact ext_app4 _ _ _ _ _ _ _ _ | exact ext_app5 _ _ _ _ _ _ _ _ _)) | ((with_reducible refine ext_suffix ⟨_, ?_⟩); (try simp only [Array.append_assoc]); rfl) | (with_reducible (first | apply Ext.drew | apply Ext.alloc | apply Ext.more_)) | apply Ext.drew | apply Ext.alloc | apply Ext.more_)))
                  try simp only [Act.put, zqA, zqB, zqC]
                  first | (refine wpPl_pick_and rfl rfl rfl rfl rfl rfl ?_) | (refine wpPl_pick_or rfl rfl rfl rfl rfl rfl ?_) | (refine wpPl_read (v := ?_) rfl ?_ (fun w1 h1 => ?_) ?_; rotate_left 1; rfl; (obtain ⟨os1, d1, rfl⟩ := h1.more; go_simp; first | done | rfl))
                  try simp only [Act.put, zqA, zqB, zqC]
                  (refine wpPl_read (v := ?_) rfl ?_ (fun _ h => ?_) ?_; rotate_left 1; rfl; (obtain ⟨_, _, rfl⟩ := h.more; go_simp; try rfl))
                  try simp only [Act.put, zqA, zqB, zqC]
                  refine wpPl_nil ?_
                  go_wp2_with fail
                  go_ret
                  exact ⟨rfl, hw6.trans (by repeat (first | (with_reducible (first | exact Ext.refl _ | exact ext_d _ _ _ _ | exact ext_app _ _ _ _ _ | exact ext_app2 _ _ _ _ _ _ | exact ext_app3 _ _ _ _ _ _ _)) | ((with_reducible refine ext_suffix ⟨_, ?_⟩); (try simp only [Array.append_assoc]); rfl) | (with_reducible (first | apply Ext.drew | apply Ext.alloc | apply Ext.more_))))⟩
end Go.Proofs.YtljgagjipamdeaaDoor
namespace Go.Proofs.YtljgagjipamdeaaDoor
open Go.ChangeShapes Go.WideShapes Go.ChangeAt Go.RowKit Go.Deep
theorem own : ownKnob Tryd.prog.godebug = none := by kernel_rfl
theorem laidOut : laidOutB Tryd.prog = true := by kernel_rfl
theorem cells_num : Tryd.prog.cellsOf 26 = 2 := by kernel_rfl
theorem cells_int : Tryd.prog.cellsOf 3 = 1 := by kernel_rfl
/-- What all rows of this seat list. -/
def laid3 : List (String × DataW Unit) := [("math/bits.deBruijn32tab", Rows.laid_math_bits_deBruijn32tab), ("math/bits.deBruijn64tab", Rows.laid_math_bits_deBruijn64tab), ("internal/strconv.uint64pow10", Rows.laid_internal_strconv_uint64pow10)]
theorem pow10_data : (Rows.laid_internal_strconv_uint64pow10 : DataW Unit) = Lib.tabData .u64 Lib.pow10Tab := by
  unfold Rows.laid_internal_strconv_uint64pow10 Lib.tabData Lib.pow10Tab
  simp [List.range_succ]
theorem gPow : Tryd.prog.globalNamed "internal/strconv.uint64pow10" = some 1 := by kernel_rfl
theorem tPow : (Tryd.prog.globals[1]?).map (·.type) = some 120 := by kernel_rfl
theorem tab_of_laid {W : World} (h : laidMetH Tryd.prog laid3 W) : Tab W := by
  rw [MakeChecks.laidMetH_plain _ _ _ (by kernel_rfl)] at h
  obtain ⟨ps, ⟨g0, t0, cs0, f0, p0, q0, hg0, ht0, hv0, hd0, ⟨g1, t1, cs1, f1, p1, q1, hg1, ht1, hv1, hd1, ⟨g2, t2, cs2, f2, p2, q2, hg2, ht2, hv2, hd2, _, _⟩, _⟩, _⟩, _, _⟩ := h
  obtain rfl := Option.some.inj (gPow.symm.trans hg2)
  obtain rfl := Option.some.inj (tPow.symm.trans ht2)
  rw [pow10_data] at hd2
  unfold Tab Lib.TabIs
  rw [hv2, ← Lib.cells_of_tab Tryd.underlying120 Tryd.underlying88 (by kernel_rfl) (by kernel_rfl) hd2]
theorem door_met (os : Os) (args : Array Value) : laidMetH Tryd.prog laid3 ((World.doorLaid Tryd.prog 400 os).forCall (fun _ _ => 0) ⟨#[], args, []⟩).memory :=
  laidMetH_of_parts3 (fuel := 8) (laidMet_of_run' 8 (by kernel_rfl) (by kernel_rfl)) (by kernel_rfl) (by kernel_rfl)
set_option maxRecDepth 100000
section
variable {H : Type} {enc : TypeId × Value → H} {w : World} {base : Nat} {spare : Nat → Bool} {held : Bool}
theorem i64_of {n : Int} (h : (Lit.int .i64 n).wf = true) : I64 n := by
  simpa [Lit.wf, IntKind.min, IntKind.max, IntKind.signed, IntKind.bits, I64] using h
theorem trod_blocks_ {t : TypeId} {v : Value} {d : DataW H} {p : List MemPlace} (h : DataW.Trod enc Tryd.prog w base spare held t v d p) : ∀ x ∈ p, x.block < w.heap.size := by
  obtain ⟨m, hm⟩ := h
  exact DataW.trod_lt m _ _ _ hm
end
end Go.Proofs.YtljgagjipamdeaaDoor
namespace Go.Proofs.YtljgagjipamdeaaDoor
open Go.ChangeShapes Go.WideShapes Go.ChangeAt Go.RowKit Go.Deep
theorem cells_val : Tryd.prog.cellsOf 28 = 6 := by kernel_rfl
theorem cells_string : Tryd.prog.cellsOf 9 = 1 := by kernel_rfl
theorem cells_bool : Tryd.prog.cellsOf 4 = 1 := by kernel_rfl
theorem cells_arr : Tryd.prog.cellsOf 24 = 3 := by kernel_rfl
set_option maxRecDepth 100000
section
variable {H : Type} {enc : TypeId × Value → H} {w : World} {base : Nat} {spare : Nat → Bool} {held : Bool}
theorem open_num {fuel : Nat} {c1 c2 : Value} {x : DataW H × List MemPlace} (h : DataW.trod enc Tryd.prog w base spare held fuel 26 [c1, c2] = some x) : ∃ m e : Int, [c1, c2] = [.int .i64 m, .int .i64 e] ∧ I64 m ∧ I64 e := by
  obtain ⟨xs, n, rfl, _, hl, hxs, hf⟩ := DataW.trod_struct Tryd.underlying26 h
  obtain ⟨y0, hy0⟩ : ∃ y, xs[0]? = some y := ⟨_, List.getElem?_eq_getElem (by rw [hxs]; decide)⟩
  have g0 : DataW.trod enc Tryd.prog w base spare held n 3 [c1] = some y0 := by rw [← hy0]; have := hf 0 _ rfl; simpa [cells_int] using this
  obtain ⟨y1, hy1⟩ : ∃ y, xs[1]? = some y := ⟨_, List.getElem?_eq_getElem (by rw [hxs]; decide)⟩
  have g1 : DataW.trod enc Tryd.prog w base spare held n 3 [c2] = some y1 := by rw [← hy1]; have := hf 1 _ rfl; simpa [cells_int] using this
  obtain ⟨m, e0, _, w0⟩ := DataW.trod_int Tryd.underlying3 g0
  obtain ⟨e, e1, _, w1⟩ := DataW.trod_int Tryd.underlying3 g1
  simp only [List.cons.injEq, and_true] at e0 e1
  subst e0 e1
  exact ⟨m, e, rfl, i64_of w0, i64_of w1⟩
set_option maxHeartbeats 800000 in
theorem open_val {fuel : Nat} {cs : List Value} {x : DataW H × List MemPlace} (h : DataW.trod enc Tryd.prog w base spare held fuel 28 cs = some x) : ∃ y : Val, cs = y.cells ∧ y.ok := by
  obtain ⟨xs, n, rfl, _, hl, hxs, hf⟩ := DataW.trod_struct Tryd.underlying28 h
  rw [cells_val] at hl
  match cs, hl with
  | [c0, c1, c2, c3, c4, c5], _ =>
    obtain ⟨y0, hy0⟩ : ∃ y, xs[0]? = some y := ⟨_, List.getElem?_eq_getElem (by rw [hxs]; decide)⟩
    have g0 : DataW.trod enc Tryd.prog w base spare held n 3 [c0] = some y0 := by rw [← hy0]; have := hf 0 _ rfl; simpa [cells_int] using this
    obtain ⟨y1, hy1⟩ : ∃ y, xs[1]? = some y := ⟨_, List.getElem?_eq_getElem (by rw [hxs]; decide)⟩
    have g1 : DataW.trod enc Tryd.prog w base spare held n 26 [c1, c2] = some y1 := by rw [← hy1]; have := hf 1 _ rfl; simpa [cells_num] using this
    obtain ⟨y2, hy2⟩ : ∃ y, xs[2]? = some y := ⟨_, List.getElem?_eq_getElem (by rw [hxs]; decide)⟩
    have g2 : DataW.trod enc Tryd.prog w base spare held n 9 [c3] = some y2 := by rw [← hy2]; have := hf 2 _ rfl; simpa [cells_string] using this
    obtain ⟨y3, hy3⟩ : ∃ y, xs[3]? = some y := ⟨_, List.getElem?_eq_getElem (by rw [hxs]; decide)⟩
    have g3 : DataW.trod enc Tryd.prog w base spare held n 4 [c4] = some y3 := by rw [← hy3]; have := hf 3 _ rfl; simpa [cells_bool] using this
    obtain ⟨y4, hy4⟩ : ∃ y, xs[4]? = some y := ⟨_, List.getElem?_eq_getElem (by rw [hxs]; decide)⟩
    have g4 : DataW.trod enc Tryd.prog w base spare held n 3 [c5] = some y4 := by rw [← hy4]; have := hf 4 _ rfl; simpa [cells_int] using this
    obtain ⟨k, e0, _, w0⟩ := DataW.trod_int Tryd.underlying3 g0
    obtain ⟨m, ex, e1, w1, w2⟩ := open_num g1
    obtain ⟨t, e3, _, w3⟩ := DataW.trod_string Tryd.underlying9 g2
    obtain ⟨b, e4, _⟩ := DataW.trod_bool Tryd.underlying4 g3
    obtain ⟨f, e5, _, w5⟩ := DataW.trod_int Tryd.underlying3 g4
    simp only [List.cons.injEq, and_true] at e0 e1 e3 e4 e5
    obtain ⟨rfl, rfl⟩ := e1
    subst e0 e3 e4 e5
    exact ⟨⟨k, m, ex, t, b, f⟩, rfl, i64_of w0, w1, w2, w3, i64_of w5⟩
/-- A slice of values. -/
theorem open_vals {fuel : Nat} {a : Option Addr} {len cap : Nat} {x : DataW H × List MemPlace} (h : DataW.trod enc Tryd.prog w base spare held fuel 22 [.slice a len cap] = some x) : ∃ l, ArrIn w a len cap l := by
  rcases open_slice Tryd.underlying22 h with ⟨hcs, _⟩ | ⟨ad, len', cap', m, n, D, Pl, hcs, hb, hl, hm, hmm, _, hi⟩
  · simp only [List.cons.injEq, Value.slice.injEq, and_true] at hcs
    obtain ⟨rfl, rfl, rfl⟩ := hcs
    exact ⟨[], SlV.nil _ _ _, rfl, Nat.le_refl _, by omega, by simp⟩
  · simp only [List.cons.injEq, Value.slice.injEq, and_true] at hcs
    obtain ⟨rfl, rfl, rfl⟩ := hcs
    have hlm : len ≤ m := by rw [hmm]; split <;> omega
    obtain ⟨X, hX⟩ := choose_lt (α := Val) (n := len) (p := fun i y => w.cells? base (ad.add (i * 6)) 6 = some y.cells ∧ y.ok) (fun i hil => by
      obtain ⟨cs', h1, h2⟩ := hi i (by omega)
      rw [cells_val] at h1
      obtain ⟨y, rfl, hy⟩ := open_val h2
      exact ⟨y, h1, hy⟩)
    refine ⟨(List.range len).map X, ?_, by simp, hl, by simp only [maxLen] at hm; omega, ?_⟩
    · intro j u hu
      have hj : j / 6 < len := by
        have := (List.getElem?_eq_some_iff.1 hu).1
        rw [vcells_length] at this
        simp at this
        omega
      have hat := vcells_at ((List.range len).map X) (j / 6) (X (j / 6)) (by simp [hj]) (j % 6) (by omega)
      rw [show j / 6 * 6 + j % 6 = j by omega, hu] at hat
      obtain ⟨_, _, hc⟩ := World.cells?_some (hX (j / 6) hj).1
      have h6 := hc (j % 6) (by omega)
      rw [← hat, Go.Deep.add_add, show j / 6 * 6 + j % 6 = j by omega] at h6
      obtain ⟨b, off, spot⟩ := ad
      have hsp : spot = none := by
        obtain ⟨_, _, hc0⟩ := World.cells?_some (hX 0 (by omega)).1
        have h0 := hc0 0 (by omega)
        simp [Addr.add, Val.cells] at h0
        exact World.cell?_spot h0
      subst hsp
      rw [Addr.add_mid] at h6
      exact ⟨b, off, rfl, Nat.zero_le _, h6⟩
    · intro y hy
      simp only [List.mem_map, List.mem_range] at hy
      obtain ⟨i, hi', rfl⟩ := hy
      exact (hX i hi').2
theorem open_arr {r : Reach} {b0 : Nat} {v : Value} {d : DataW H} {p : List MemPlace} (hv : Value.okWide Tryd.prog w r b0 24 v) (h : DataW.Trod enc Tryd.prog w base spare held 24 v d p) :
    ∃ (a c : Int) (A : Option Addr) (n cap : Nat) (l : List Val), v = AV a c (.slice A n cap) ∧ I64 a ∧ I64 c ∧ ArrIn w A n cap l := by
  obtain ⟨c0, c1, c2, y0, y1, y2, m, rfl, rfl, rfl, hy0, hy1, hy2⟩ := Joins.open_agg3 Tryd.underlying24 (by kernel_rfl) cells_arr hv h
  obtain ⟨a, e0, _, w0⟩ := DataW.trod_int Tryd.underlying3 hy0
  obtain ⟨c, e1, _, w1⟩ := DataW.trod_int Tryd.underlying3 hy1
  obtain ⟨A, n, cap, e2⟩ := Joins.slice_form Tryd.underlying22 hy2
  simp only [List.cons.injEq, and_true] at e0 e1 e2
  subst e0 e1 e2
  obtain ⟨l, hl⟩ := open_vals hy2
  exact ⟨a, c, A, n, cap, l, rfl, i64_of w0, i64_of w1, hl⟩
theorem open_valV {r : Reach} {b0 : Nat} {v : Value} {d : DataW H} {p : List MemPlace} (hv : Value.okWide Tryd.prog w r b0 28 v) (h : DataW.Trod enc Tryd.prog w base spare held 28 v d p) :
    ∃ x : Val, v = VV x.kind x.mant x.exp x.text x.truth x.fault ∧ x.ok := by
  obtain ⟨cs, rfl, hsz⟩ : ∃ cs, v = .agg cs ∧ cs.size = Tryd.prog.cellsOf 28 := by
    simp only [Value.okWide, Tryd.underlying28] at hv
    obtain ⟨cs, h1, h2, _⟩ := hv
    exact ⟨cs, h1, h2⟩
  obtain ⟨fuel, hf⟩ := h
  obtain ⟨cl⟩ := cs
  have hf' : DataW.trod enc Tryd.prog w base spare held fuel 28 cl = some (d, p) := by simpa [Value.cells] using hf
  obtain ⟨x, rfl, hx⟩ := open_val hf'
  exact ⟨x, rfl, hx⟩
theorem cells_pairV : Tryd.prog.cellsOf 29 = 12 := by kernel_rfl
set_option maxHeartbeats 1000000 in
theorem open_pairV {r : Reach} {b0 : Nat} {v : Value} {d : DataW H} {p : List MemPlace} (hv : Value.okWide Tryd.prog w r b0 29 v) (h : DataW.Trod enc Tryd.prog w base spare held 29 v d p) :
    ∃ x y : Val, v = .agg #[.int .i64 x.kind, .int .i64 x.mant, .int .i64 x.exp, .string x.text, .bool x.truth, .int .i64 x.fault, .int .i64 y.kind, .int .i64 y.mant, .int .i64 y.exp, .string y.text, .bool y.truth, .int .i64 y.fault] ∧ x.ok ∧ y.ok := by
  obtain ⟨cs, rfl, hsz⟩ : ∃ cs, v = .agg cs ∧ cs.size = Tryd.prog.cellsOf 29 := by
    simp only [Value.okWide, Tryd.underlying29] at hv
    obtain ⟨cs, h1, h2, _⟩ := hv
    exact ⟨cs, h1, h2⟩
  rw [cells_pairV] at hsz
  obtain ⟨fuel, hf⟩ := h
  obtain ⟨xs, n, rfl, _, hl, hxs, hg⟩ := DataW.trod_array Tryd.underlying29 hf
  obtain ⟨cl⟩ := cs
  match cl, hsz with
  | [c0, c1, c2, c3, c4, c5, c6, c7, c8, c9, c10, c11], _ =>
    obtain ⟨y0, hy0⟩ : ∃ y, xs[0]? = some y := ⟨_, List.getElem?_eq_getElem (by rw [hxs]; decide)⟩
    have g0' := hg 0 (by decide)
    rw [hy0] at g0'
    obtain ⟨y1, hy1⟩ : ∃ y, xs[1]? = some y := ⟨_, List.getElem?_eq_getElem (by rw [hxs]; decide)⟩
    have g1' := hg 1 (by decide)
    rw [hy1] at g1'
    have g0 : DataW.trod enc Tryd.prog w base spare held n 28 [c0, c1, c2, c3, c4, c5] = some y0 := by simpa [cells_val, Value.cells] using g0'
    have g1 : DataW.trod enc Tryd.prog w base spare held n 28 [c6, c7, c8, c9, c10, c11] = some y1 := by simpa [cells_val, Value.cells] using g1'
    obtain ⟨x, e0, hx⟩ := open_val g0
    obtain ⟨y, e1, hy⟩ := open_val g1
    simp only [Val.cells, List.cons.injEq, and_true] at e0 e1
    obtain ⟨rfl, rfl, rfl, rfl, rfl, rfl⟩ := e0
    obtain ⟨rfl, rfl, rfl, rfl, rfl, rfl⟩ := e1
    exact ⟨x, y, rfl, hx, hy⟩
end
end Go.Proofs.YtljgagjipamdeaaDoor
