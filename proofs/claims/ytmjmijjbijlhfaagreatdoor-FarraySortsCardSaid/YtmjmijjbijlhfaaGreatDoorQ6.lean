/- What the rows' proofs lean on: the contracts of the functions that they reach, and plain facts (part Q6). -/
import Derived.WalkKit
import Derived.WalkLawsBesides
import Derived.WalkSpells
import Derived.Outline
import Derived.Below
import Derived.Deep.RegionHeld3
import Derived.Deep.DeepCutAuto
import Derived.Deep.AppendLies
import Derived.Maps.AppendAt
import Derived.Lib.Hide
import Derived.OrdersHeld
import Derived.Test.YtmjmijjbijlhfaaGreatDoorProg
import Derived.Shelf.Small.Bits
import Derived.Shelf.Small.Strs
import Derived.Shelf.Strconv.Itoa0
import Derived.Shelf.Strconv.Itoa1
import Derived.Shelf.LaysM
import Derived.Shelf.Strconv.Itoa2
import Derived.Shelf.Bits.Mul64
import Derived.Ground.SlgmProg
import Derived.Shelf.SortM.Plain
import Derived.Shelf.SortM.SortNone
import Derived.Lib.ItoaMem
import Derived.Lib.OthersKept
import Derived.Deep.CutBlock
import Derived.Laws.Bits64b
import Derived.Lib.AppendZeros
import Derived.Lib.Bytealg
import Derived.Laws.RangeAny
import Derived.Maps.OwnSet
import Derived.Maps.Own
import Derived.Laws.EntriesVeiled
import Derived.Lib.ConvBytes
import Derived.Lib.SlBytesRow
import Derived.Lib.SmallJoins
import Derived.RegionTactic
import Derived.Sort.OwnSortedInts
import Derived.Shelf.SlIter.Nil
import Derived.Ground.GgzProg
import Derived.Test.YtmjmijjbijlhfaaGreatDoorRows
import Derived.Test.YtmjmijjbijlhfaaGreatDoorCards
import Derived.Test.YtmjmijjbijlhfaaGreatDoorTie
import Derived.ProofKit
import Derived.LaidMore
import Derived.OpenShut
import Derived.ShutString
import Derived.ChangeOld
import Derived.Stop.Joined
import Derived.Deep.Slices
import Derived.SevenTiedAt
import Derived.Test.YtmjmijjbijlhfaaGreatDoorQ5
set_option linter.unusedSimpArgs false
set_option linter.unusedVariables false
set_option maxRecDepth 100000
namespace Go.Proofs.YtmjmijjbijlhfaaGreatDoor
open Go.RowKit NM
theorem MrgIn.part1 {lt : Nat → Nat → Bool} {cl : FuncId} {capt : Array Value} {M base cap N a m b s mid e : Nat} {A : Option Addr} {D D1 : List Nat} {w w1 : World} (h : MrgIn lt cl capt M base A cap N a m b D w) (ht : Turned lt a s mid e b D D1) (hx : Below base w w1) (hw : Wr base w1 A cap D1) (h1 : a < s) (h2 : s < mid) (h3 : mid ≤ b) :
    MrgIn lt cl capt M base A cap N a s mid D1 w1 :=
  ⟨h.cmp.keep hx, Nat.le_trans h.bw hx.size, hw, ht.part.len.trans h.len, h.small, h1, h2, Nat.le_trans h3 h.bN, fun x hxx => h.lim x (ht.perm.mem_iff.1 (seg_mono_mem (Nat.le_refl _) h3 hxx)), ht.p1, ht.p2, ht.c1⟩
theorem MrgIn.part2 {lt : Nat → Nat → Bool} {cl : FuncId} {capt : Array Value} {M base cap N a m b s mid e : Nat} {A : Option Addr} {D D1 D2 : List Nat} {w w2 : World} (h : MrgIn lt cl capt M base A cap N a m b D w) (ht : Turned lt a s mid e b D D1) (hm : Mrg lt a mid D1 D2) (hx : Below base w w2) (hw : Wr base w2 A cap D2) (h1 : mid < e) (h2 : e < b) (h3 : a ≤ mid) :
    MrgIn lt cl capt M base A cap N mid e b D2 w2 := by
  have e1 : seg D2 mid b = seg D1 mid b := hm.part.seg_hi (Nat.le_refl _)
  have e2 : seg D2 mid e = seg D1 mid e := hm.part.seg_hi (Nat.le_refl _)
  have e3 : seg D2 e b = seg D1 e b := hm.part.seg_hi (Nat.le_of_lt h1)
  refine ⟨h.cmp.keep hx, Nat.le_trans h.bw hx.size, hw, hm.part.len.trans (ht.part.len.trans h.len), h.small, h1, h2, h.bN, fun x hxx => ?_, by rw [e2]; exact ht.p3, by rw [e3]; exact ht.p4, by rw [e2, e3]; exact ht.c2⟩
  rw [e1] at hxx
  exact h.lim x (ht.perm.mem_iff.1 (seg_mono_mem h3 (Nat.le_refl _) hxx))
/-- Where the search goes on. -/
structure Srch (a m b mid lo hi nn N : Nat) : Prop where
  am : a < m
  mb : m < b
  bN : b ≤ N
  small : N ≤ 100000
  amid : a < mid
  midb : mid < b
  alo : a ≤ lo
  lohi : lo ≤ hi
  him : hi ≤ m
  himid : hi ≤ mid
  nlo : nn ≤ b + lo
  nhi : m + hi ≤ nn
  lom : lo < m
  e1 : lo = a ∨ nn = b + lo
  e2 : hi = m ∨ nn = m + hi
  nn : mid + m = nn
theorem srch_of {a m b mid lo hi nn N : Nat} (h1 : a < m) (h2 : m < b) (h3 : b ≤ N) (h4 : N ≤ 100000) (hm : (a + b) / 2 = mid) (hn : mid + m = nn) (h : (mid < m ∧ mid + m - b = lo ∧ hi = mid) ∨ (m ≤ mid ∧ lo = a ∧ hi = m)) : Srch a m b mid lo hi nn N := by
  constructor <;> omega
theorem srch_round {a m b mid lo hi nn N i j : Nat} (h : Srch a m b mid lo hi nn N) (h1 : lo ≤ i) (h2 : i < j) (h3 : j ≤ hi) :
    ∃ hh q : Nat, (IntKind.i64.wrap ((i : Int) + (j : Int)) = (i : Int) + (j : Int) ∧ IntKind.u64.wrap ((i : Int) + (j : Int)) = (i : Int) + (j : Int) ∧ ((i : Int) + (j : Int)) / 2 = (hh : Int) ∧ IntKind.u64.wrap (hh : Int) = (hh : Int) ∧ IntKind.i64.wrap (hh : Int) = (hh : Int)) ∧ IntKind.i64.wrap (((nn - 1 : Nat) : Int) - (hh : Int)) = (q : Int) ∧ IntKind.i64.wrap ((hh : Int) + 1) = ((hh + 1 : Nat) : Int) ∧ (i ≤ hh ∧ hh < j ∧ a ≤ hh ∧ hh < b ∧ a ≤ q ∧ q < b) ∧ hh < N ∧ q < N ∧ nn - (hh + 1) = q ∧ nn - 1 - hh = q := by
  obtain ⟨g1, g2, g3, g4, g5, g6, g7, g8, g9, g10, g11, g12, g13, g14, g15, g16⟩ := h
  refine ⟨(i + j) / 2, nn - 1 - (i + j) / 2, mid_facts (by omega) rfl, by rw [IntKind.wrap_i64]; omega, by rw [IntKind.wrap_i64]; omega, by omega, by omega, by omega, by omega, rfl⟩
/-- Where it ends. -/
structure Ends (a m b mid i e nn N : Nat) : Prop where
  ai : a ≤ i
  im : i ≤ m
  me : m ≤ e
  eb : e ≤ b
  imid : i ≤ mid
  mide : mid ≤ e
  kmid : mid = i + (e - m)
  amid : a < mid
  midb : mid < b
  bN : b ≤ N
  small : N ≤ 100000
  en : nn - i = e
  ei : IntKind.i64.wrap ((nn : Int) - (i : Int)) = (e : Int)
theorem srch_ends {a m b mid lo hi nn N i : Nat} (h : Srch a m b mid lo hi nn N) (h1 : lo ≤ i) (h3 : i ≤ hi) : Ends a m b mid i (nn - i) nn N := by
  obtain ⟨g1, g2, g3, g4, g5, g6, g7, g8, g9, g10, g11, g12, g13, g14, g15, g16⟩ := h
  refine ⟨by omega, by omega, by omega, by omega, by omega, by omega, by omega, by omega, by omega, by omega, by omega, rfl, by rw [IntKind.wrap_i64]; omega⟩
theorem srch_turned {lt : Nat → Nat → Bool} (hlt : Swo lt) {cl : FuncId} {capt : Array Value} {M base cap N a m b mid lo hi nn i : Nat} {A : Option Addr} {D : List Nat} {w : World} (hin : MrgIn lt cl capt M base A cap N a m b D w) (h : Srch a m b mid lo hi nn N) (h1 : lo ≤ i) (h3 : i ≤ hi)
    (H1 : i = lo ∨ ∃ u v, D[nn - i]? = some u ∧ D[i - 1]? = some v ∧ lt u v = false) (H2 : i = hi ∨ ∃ u v, D[nn - 1 - i]? = some u ∧ D[i]? = some v ∧ lt u v = true) :
    Turned lt a i mid (nn - i) b D (D.take i ++ (seg D m (nn - i) ++ (seg D i m ++ D.drop (nn - i)))) := by
  have he := srch_ends h h1 h3
  have hl := hin.len
  have hb := h.bN
  refine turned_of hlt he.ai he.im he.me he.eb (by omega) he.kmid hin.sx hin.sy hin.xy ?_ ?_
  · rcases H1 with H | ⟨u, v, hu, hv, hl⟩
    · rcases h.e1 with h' | h'
      · exact Or.inl (by omega)
      · exact Or.inr (Or.inl (by omega))
    · exact Or.inr (Or.inr ⟨u, v, hu, hv, hl⟩)
  · rcases H2 with H | ⟨u, v, hu, hv, hl⟩
    · rcases h.e2 with h' | h'
      · exact Or.inl (by omega)
      · exact Or.inr (Or.inl (by omega))
    · exact Or.inr (Or.inr ⟨u, v, by rw [Nat.sub_right_comm]; exact hu, hv, hl⟩)
theorem rot_of {base cap N a m b mid i e nn : Nat} {A : Option Addr} {D D1 : List Nat} (cf : Value) (he : Ends a m b mid i e nn N) (hl : D.length = N) (hD1 : D.take i ++ (seg D m e ++ (seg D i m ++ D.drop e)) = D1) {wr : World} (hW : Wr base wr A cap D) (q1 : i < m) (q2 : m < e) :
    Calls Tryz.prog 214 #[.slice A N cap, .int .i64 (i : Int), .int .i64 (m : Int), .int .i64 (e : Int), cf] wr fun e9 w' => e9 = .returned (.tuple #[]) ∧ Wr base w' A cap D1 ∧ Below base wr w' := by
  obtain ⟨k1, k2, k3, k4, k5, k6, k7, k8, k9, k10, k11, k12, k13⟩ := he
  have l1 : (D.take i).length = i := by rw [List.length_take]; omega
  have l2 : (seg D i m).length = m - i := seg_length (by omega)
  have l3 : (seg D m e).length = e - m := seg_length (by omega)
  have h9 := rotate_any base A cap N (D.take i) (seg D i m) (seg D m e) (D.drop e) (i : Int) (m : Int) (e : Int) cf wr (by rw [← turn_as k2 k3]; exact hW) (by rw [← turn_as k2 k3]; exact hl) k11 (by omega) (by omega) (by omega) (by omega) (by omega)
  rw [hD1] at h9
  exact h9
set_option maxHeartbeats 0 in
theorem symMerge_step {lt : Nat → Nat → Bool} (hlt : Swo lt) (cl : FuncId) (capt : Array Value) (M base : Nat) (A : Option Addr) (cap N k : Nat) (ih : ∀ (a m b : Nat) (D : List Nat) (w : World), b - a ≤ k → MrgIn lt cl capt M base A cap N a m b D w →
    Calls Tryz.prog 201 #[.slice A N cap, .int .i64 (a : Int), .int .i64 (m : Int), .int .i64 (b : Int), .func (.func cl) #[] capt] w fun e w' => e = .returned (.tuple #[]) ∧ (∃ D', Mrg lt a b D D' ∧ Wr base w' A cap D') ∧ Below base w w') (a m b : Nat) (D : List Nat) (w : World) (hk : b - a ≤ k + 1) (h : MrgIn lt cl capt M base A cap N a m b D w) :
    Calls Tryz.prog 201 #[.slice A N cap, .int .i64 (a : Int), .int .i64 (m : Int), .int .i64 (b : Int), .func (.func cl) #[] capt] w fun e w' => e = .returned (.tuple #[]) ∧ (∃ D', Mrg lt a b D D' ∧ Wr base w' A cap D') ∧ Below base w w' := by
    by_cases hl : m = a + 1
    · subst hl; exact symLeft_any hlt cl capt M base A cap N a b D w h
    by_cases hr : b = m + 1
    · subst hr; exact symRight_any hlt cl capt M base A cap N a m D w h hl
    have hin := h
    obtain ⟨hc, hbw, hW0, hDl, hs, hamm, hmb, hbN, hlim, hsx, hsy, hxy⟩ := h
    have e0 : IntKind.i64.wrap ((m : Int) - (a : Int)) = (m : Int) - (a : Int) := by rw [IntKind.wrap_i64]; omega
    have e1 : ((m : Int) - (a : Int) == 1) = false := by simp; omega
    have e2 : IntKind.i64.wrap ((b : Int) - (m : Int)) = (b : Int) - (m : Int) := by rw [IntKind.wrap_i64]; omega
    have e3 : ((b : Int) - (m : Int) == 1) = false := by simp; omega
    obtain ⟨mid, emid⟩ : ∃ hh, (a + b) / 2 = hh := ⟨_, rfl⟩
    obtain ⟨w1, w2, w3, w4, w5⟩ := mid_facts (i := a) (j := b) (by omega) emid
    obtain ⟨nn, hnn⟩ : ∃ nn, mid + m = nn := ⟨_, rfl⟩
    have e4 : IntKind.i64.wrap ((mid : Int) + (m : Int)) = (nn : Int) := by rw [IntKind.wrap_i64]; omega
    obtain ⟨pp, hpp⟩ : ∃ pp, nn - 1 = pp := ⟨_, rfl⟩
    have e5 : IntKind.i64.wrap ((nn : Int) - 1) = (pp : Int) := by rw [IntKind.wrap_i64]; omega
    obtain ⟨y0, hy0⟩ : ∃ x, D[m]? = some x := ⟨_, List.getElem?_eq_getElem (by omega)⟩
    obtain ⟨bl, off, rfl, hb1, cx, fx⟩ := Dg.at hW0 hy0
    have hcap := hW0.1
    rw [hDl] at hcap
    have hblk : bl < w.heap.size := lt_of_cell cx
    have HC := Lib.hid hc
    have hent := hc.ent
    have HIN := Lib.hid hin
    have HIH : Hid (∀ (a m b : Nat) (D : List Nat) (w : World), b - a ≤ k → MrgIn lt cl capt M base (some ⟨bl, off, none⟩) cap N a m b D w → Calls Tryz.prog 201 #[.slice (some ⟨bl, off, none⟩) N cap, .int .i64 (a : Int), .int .i64 (m : Int), .int .i64 (b : Int), .func (.func cl) #[] capt] w fun e w' => e = .returned (.tuple #[]) ∧ (∃ D', Mrg lt a b D D' ∧ Wr base w' (some ⟨bl, off, none⟩) cap D') ∧ Below base w w') := ih
    have HK := Lib.hid hk
    have HPP := Lib.hid hpp
    have HN0 := Lib.hid hnn
    have HBW := Lib.hid hbw
    have HSW := Lib.hid hlt
    have hS := fun lo hi (h : (mid < m ∧ mid + m - b = lo ∧ hi = mid) ∨ (m ≤ mid ∧ lo = a ∧ hi = m)) => srch_of (N := N) hamm hmb hbN hs emid hnn h
    have HS0 := Lib.hid hS
    have HLN := Lib.hid (And.intro hs (And.intro hbN (And.intro hamm hmb)))
    clear hc hlim hsx hsy hxy hW0 hy0 emid hpp cx fx hl hr ih hin hk hS hbw hlt hDl hb1
    go_enter Tryz.func201, Tryz.ntmps201
    by_cases hmm : mid < m
    · have hmm' : (mid : Int) < (m : Int) := by omega
      obtain ⟨lo, hlo⟩ : ∃ lo, mid + m - b = lo := ⟨_, rfl⟩
      have HS := Lib.hid (HS0.out lo mid (Or.inl ⟨hmm, hlo, rfl⟩))
      have e6 : IntKind.i64.wrap ((nn : Int) - (b : Int)) = (lo : Int) := by rw [IntKind.wrap_i64]; omega
      have hm0 : m < b := hmb
      have hm1 : m < N := by omega
      clear hlo
      go_wp2_with fail
      clear e0 e1 e2 e3 e4 e5 w1 w2 w3 w4 w5 hmm hmm' hbN hamm hmb hs hnn e6
      go_loopw [20, 21] (fun s t wr => ∃ i j : Nat, lo ≤ i ∧ i ≤ j ∧ j ≤ mid ∧ s = .int .i64 (i : Int) ∧ t = .int .i64 (j : Int) ∧ Hid (i = lo ∨ ∃ u v, D[nn - i]? = some u ∧ D[i - 1]? = some v ∧ lt u v = false) ∧ Hid (j = mid ∨ ∃ u v, D[nn - 1 - j]? = some u ∧ D[j]? = some v ∧ lt u v = true) ∧ Hid (Wr base wr (some ⟨bl, off, none⟩) cap D) ∧ Below base w wr) (fun s t _ => (intOf t - intOf s).toNat)
      case atStart => exact ⟨lo, mid, Nat.le_refl _, HS.out.lohi, Nat.le_refl _, rfl, rfl, Or.inl rfl, Or.inl rfl, HIN.out.wr, Below.refl _ _⟩
      case round =>
        obtain ⟨i, j, h1, h2, h3, rfl, rfl, H1, H2, hW, hX⟩ := hrel
        by_cases hij : i < j
        · obtain ⟨hh, q, ⟨w1, w2, w3, w4, w5⟩, ep, hw5, ⟨g1, g2, g3, g4, g5, g6⟩, hN1, hN2, g7, g8⟩ := srch_round HS.out h1 hij h3
          rw [HPP.out] at ep
          have hij' : (i : Int) < (j : Int) := by omega
          rename_i K0 hK0
          have HK0 := Lib.hid hK0
          clear hK0
          obtain ⟨u, hu⟩ : ∃ u, D[q]? = some u := ⟨_, List.getElem?_eq_getElem (by rw [HIN.out.len]; exact hN2)⟩
          obtain ⟨v, hv⟩ : ∃ u, D[hh]? = some u := ⟨_, List.getElem?_eq_getElem (by rw [HIN.out.len]; exact hN1)⟩
          have huM : u < M := HIN.out.lim u (seg_mem hu g5 g6)
          have hvM : v < M := HIN.out.lim v (seg_mem hv g3 g4)
          obtain ⟨bl', off', e, _, cu, fu⟩ := Dg.at hW.out hu
          simp only [Option.some.injEq, Addr.mk.injEq, and_true] at e
          obtain ⟨rfl, rfl⟩ := e
          obtain ⟨bl', off', e, _, cv, fv⟩ := Dg.at hW.out hv
          simp only [Option.some.injEq, Addr.mk.injEq, and_true] at e
          obtain ⟨rfl, rfl⟩ := e
          have hcall := fun (W : World) (hW : Ext wr W) => HC.out.run u v W huM hvM (below_ext hX HBW.out hW)
          have hb2 : bl < wr.heap.size := lt_of_cell cu
          have HX := Lib.hid hX
          have HU := Lib.hid (And.intro hu (And.intro hv (And.intro g7 (And.intro g8 (And.intro h1 (And.intro h3 (And.intro g1 g2)))))))
          clear hu hv g1 g2 g3 g4 g5 g6 g7 g8 huM hvM hX h1 h2 h3 hij
          go_upto_region 35 with fail
          cases hlx : lt u v with
          | false =>
            rw [hlx] at hcall
            have H1' : Hid (hh + 1 = lo ∨ ∃ u v, D[nn - (hh + 1)]? = some u ∧ D[hh + 1 - 1]? = some v ∧ lt u v = false) := Or.inr ⟨u, v, by rw [HU.out.2.2.1]; exact HU.out.1, HU.out.2.1, hlx⟩
            clear hlx H1
            refine wp_plan (S := Ext _) [(0, 0), (1, 0), (2, 0), (3, 0), (4, 0), (5, 0), (6, 0), (7, 0), (8, 0), (9, 0), (10, 0), (11, 1), (12, 0), (13, 0)] [] (by kernel_rfl) (by kernel_rfl) (by kernel_rfl) (fun _ _ d _ _ h => by cases d <;> exact h) (Ext.drew (Ext.refl _)) ?_
            iterate 11 ((refine wpPl_read (v := ?_) rfl ?_ (fun _ h => ?_) ?_; rotate_left 1; rfl; (obtain ⟨_, _, rfl⟩ := h.more; go_simp; try rfl)); try simp only [Act.put, zqA, zqB, zqC])
            (refine wpPl_eff rfl ?_ (fun K hK => ?_); rfl; go_simp; refine (hcall _ (by with_reducible repeat (first | exact Ext.refl _ | apply Ext.drew | apply Ext.alloc | apply Ext.more_))).mono ?_; rintro e w' ⟨c, rfl, hlc, hb⟩; obtain ⟨os1, d1, rfl⟩ := hb.more; clear hb; refine hK _ _ ?_ ?_; (repeat (first | (with_reducible (first | exact Ext.refl _ | exact ext_d _ _ _ _ | exact ext_app _ _ _ _ _ | exact ext_app2 _ _ _ _ _ _ | exact ext_app3 _ _ _ _ _ _ _ | exact ext_app4 _ _ _ _ _ _ _ _ | exact ext_app5 _ _ _ _ _ _ _ _ _)) | ((with_reducible refine ext_suffix ⟨_, ?_⟩); (try simp only [Array.append_assoc]); rfl) | (with_reducible (first | apply Ext.drew | apply Ext.alloc | apply Ext.more_)) | apply Ext.drew | apply Ext.alloc | apply Ext.more_)))
            try simp only [Act.put, zqA, zqB, zqC]
            iterate 2 ((refine wpPl_read (v := ?_) rfl ?_ (fun _ h => ?_) ?_; rotate_left 1; rfl; (obtain ⟨_, _, rfl⟩ := h.more; go_simp; try rfl)); try simp only [Act.put, zqA, zqB, zqC])
            refine wpPl_nil ?_
            go_wp2_with fail
            obtain ⟨_, _, _, _, h1, h3, g1, g2⟩ := HU.out
            exact ⟨⟨hh + 1, j, by omega, by omega, h3, by go_num, rfl, H1', H2, hW.out.of_ext (by with_reducible repeat (first | exact Ext.refl _ | apply Ext.drew | apply Ext.alloc | apply Ext.more_)), below_ext HX.out HBW.out (by with_reducible repeat (first | exact Ext.refl _ | apply Ext.drew | apply Ext.alloc | apply Ext.more_))⟩, by simp [intOf]; omega⟩
          | true =>
            rw [hlx] at hcall
            have H2' : Hid (hh = mid ∨ ∃ u v, D[nn - 1 - hh]? = some u ∧ D[hh]? = some v ∧ lt u v = true) := Or.inr ⟨u, v, by rw [HU.out.2.2.2.1]; exact HU.out.1, HU.out.2.1, hlx⟩
            clear hlx H2
            refine wp_plan (S := Ext _) [(0, 0), (1, 0), (2, 0), (3, 0), (4, 0), (5, 0), (6, 0), (7, 0), (8, 0), (9, 0), (10, 0), (11, 1), (12, 0), (13, 0)] [] (by kernel_rfl) (by kernel_rfl) (by kernel_rfl) (fun _ _ d _ _ h => by cases d <;> exact h) (Ext.drew (Ext.refl _)) ?_
            iterate 11 ((refine wpPl_read (v := ?_) rfl ?_ (fun _ h => ?_) ?_; rotate_left 1; rfl; (obtain ⟨_, _, rfl⟩ := h.more; go_simp; try rfl)); try simp only [Act.put, zqA, zqB, zqC])
            (refine wpPl_eff rfl ?_ (fun K hK => ?_); rfl; go_simp; refine (hcall _ (by with_reducible repeat (first | exact Ext.refl _ | apply Ext.drew | apply Ext.alloc | apply Ext.more_))).mono ?_; rintro e w' ⟨c, rfl, hlc, hb⟩; obtain ⟨os1, d1, rfl⟩ := hb.more; clear hb; refine hK _ _ ?_ ?_; (repeat (first | (with_reducible (first | exact Ext.refl _ | exact ext_d _ _ _ _ | exact ext_app _ _ _ _ _ | exact ext_app2 _ _ _ _ _ _ | exact ext_app3 _ _ _ _ _ _ _ | exact ext_app4 _ _ _ _ _ _ _ _ | exact ext_app5 _ _ _ _ _ _ _ _ _)) | ((with_reducible refine ext_suffix ⟨_, ?_⟩); (try simp only [Array.append_assoc]); rfl) | (with_reducible (first | apply Ext.drew | apply Ext.alloc | apply Ext.more_)) | apply Ext.drew | apply Ext.alloc | apply Ext.more_)))
            try simp only [Act.put, zqA, zqB, zqC]
            iterate 2 ((refine wpPl_read (v := ?_) rfl ?_ (fun _ h => ?_) ?_; rotate_left 1; rfl; (obtain ⟨_, _, rfl⟩ := h.more; go_simp; try rfl)); try simp only [Act.put, zqA, zqB, zqC])
            refine wpPl_nil ?_
            go_wp2_with fail
            obtain ⟨_, _, _, _, h1, h3, g1, g2⟩ := HU.out
            exact ⟨⟨i, hh, h1, g1, by omega, rfl, rfl, H1, H2', hW.out.of_ext (by with_reducible repeat (first | exact Ext.refl _ | apply Ext.drew | apply Ext.alloc | apply Ext.more_)), below_ext HX.out HBW.out (by with_reducible repeat (first | exact Ext.refl _ | apply Ext.drew | apply Ext.alloc | apply Ext.more_))⟩, by simp [intOf]; omega⟩
        · obtain rfl : i = j := by omega
          have hij' : ¬ (i : Int) < (i : Int) := Int.lt_irrefl _
          have hE := srch_ends HS.out h1 h3
          have HT := Lib.hid (srch_turned HSW.out HIN.out HS.out h1 h3 H1.out H2.out)
          obtain ⟨e, he⟩ : ∃ e, nn - i = e := ⟨_, rfl⟩
          rw [he] at hE HT
          obtain ⟨D1, hD1⟩ : ∃ D1, D.take i ++ (seg D m e ++ (seg D i m ++ D.drop e)) = D1 := ⟨_, rfl⟩
          rw [hD1] at HT
          have ee := hE.ei
          have HE := Lib.hid hE
          have HR1 : Hid (i < m → m < e → Calls Tryz.prog 214 #[.slice (some ⟨bl, off, none⟩) N cap, .int .i64 (i : Int), .int .i64 (m : Int), .int .i64 (e : Int), .func (.func cl) #[] capt] wr fun e9 w' => e9 = .returned (.tuple #[]) ∧ Wr base w' (some ⟨bl, off, none⟩) cap D1 ∧ Below base wr w') := fun q1 q2 => rot_of _ HE.out HIN.out.len hD1 hW.out q1 q2
          have HRN : Hid ((i = m ∨ m = e) → Wr base wr (some ⟨bl, off, none⟩) cap D1) := fun q => by rw [← hD1, turn_none HE.out.im HE.out.me q]; exact hW.out
          have HX := Lib.hid hX
          have HI1 : Hid (∀ W, Below base w W → Wr base W (some ⟨bl, off, none⟩) cap D1 → a < i → i < mid → Calls Tryz.prog 201 #[.slice (some ⟨bl, off, none⟩) N cap, .int .i64 (a : Int), .int .i64 (i : Int), .int .i64 (mid : Int), .func (.func cl) #[] capt] W fun e9 w' => e9 = .returned (.tuple #[]) ∧ (∃ D', Mrg lt a mid D1 D' ∧ Wr base w' (some ⟨bl, off, none⟩) cap D') ∧ Below base W w') := fun W hx hw q1 q2 => HIH.out a i mid D1 W (by have := HK.out; have := HE.out.midb; omega) (MrgIn.part1 HIN.out HT.out hx hw q1 q2 (Nat.le_of_lt HE.out.midb))
          have HI2 : Hid (∀ D2 W, Mrg lt a mid D1 D2 → Below base w W → Wr base W (some ⟨bl, off, none⟩) cap D2 → mid < e → e < b → Calls Tryz.prog 201 #[.slice (some ⟨bl, off, none⟩) N cap, .int .i64 (mid : Int), .int .i64 (e : Int), .int .i64 (b : Int), .func (.func cl) #[] capt] W fun e9 w' => e9 = .returned (.tuple #[]) ∧ (∃ D', Mrg lt mid b D2 D' ∧ Wr base w' (some ⟨bl, off, none⟩) cap D') ∧ Below base W w') := fun D2 W hm hx hw q1 q2 => HIH.out mid e b D2 W (by have := HK.out; have := HE.out.amid; omega) (MrgIn.part2 HIN.out HT.out hm hx hw q1 q2 (Nat.le_of_lt HE.out.amid))
          have HS1 : Hid (¬ (a < i ∧ i < mid) → Mrg lt a mid D1 D1) := fun q => by
            refine Mrg.of_sorted ?_
            have k1 := HE.out.ai
            have k5 := HE.out.imid
            by_cases q1 : i = a
            · have := HT.out.p2; rw [q1] at this; exact this
            · have q2 : i = mid := by omega
              have := HT.out.p1; rw [q2] at this; exact this
          have HS2 : Hid (∀ D2, Mrg lt a mid D1 D2 → ¬ (mid < e ∧ e < b) → Mrg lt mid b D2 D2) := fun D2 hm q => by
            refine Mrg.of_sorted ?_
            have k1 := HE.out.mide
            have k5 := HE.out.eb
            rw [hm.part.seg_hi (Nat.le_refl _)]
            by_cases q1 : e = mid
            · have := HT.out.p4; rw [q1] at this; exact this
            · have q2 : e = b := by omega
              have := HT.out.p3; rw [q2] at this; exact this
          have HJ : Hid (∀ D2 D3, Mrg lt a mid D1 D2 → Mrg lt mid b D2 D3 → Mrg lt a b D D3) := fun D2 D3 m1 m2 => merge_join (Nat.le_of_lt HE.out.amid) (Nat.le_of_lt HE.out.midb) HT.out.part HT.out.perm HT.out.cross m1 m2
          clear H1 H2 hX HT hD1 HIH HIN he HC hE h1 h2 h3 hij HS HS0 HPP HN0 HBW HSW HK HLN hcap hblk hm0 hm1
          clear hW
          by_cases r1 : i < m
          · have r1' : (i : Int) < (m : Int) := by omega
            by_cases r2 : m < e
            · have r2' : (m : Int) < (e : Int) := by omega
              have hcall := HR1.out r1 r2
              go_upto_region 41 with (go_at_call 214; refine hcall.mono ?_; rintro e9 w1 ⟨rfl, hW10, hb1⟩)
              have hX1 := Lib.hid (Below.trans HX.out hb1)
              have hW1 := Lib.hid hW10
              clear hcall hb1 hW10
              by_cases s1 : a < i
              · have s1' : (a : Int) < (i : Int) := by omega
                by_cases s2 : i < mid
                · have s2' : (i : Int) < (mid : Int) := by omega
                  have hcall := HI1.out _ hX1.out hW1.out s1 s2
                  go_upto_region 43 with (go_at_call 201; refine hcall.mono ?_; rintro e9 w2 ⟨rfl, ⟨D2, hM0, hW20⟩, hb2⟩)
                  have hX2 := Lib.hid (Below.trans hX1.out hb2)
                  have hM := Lib.hid hM0
                  have hW2 := Lib.hid hW20
                  clear hcall hb2 hX1 hW1 hM0 hW20
                  by_cases u1 : mid < e
                  · have u1' : (mid : Int) < (e : Int) := by omega
                    by_cases u2 : e < b
                    · have u2' : (e : Int) < (b : Int) := by omega
                      have hcall := HI2.out _ _ hM.out hX2.out hW2.out u1 u2
                      go_wp2_with (go_at_call 201; refine hcall.mono ?_; rintro e9 w3 ⟨rfl, ⟨D3, hN, hW3⟩, hb3⟩)
                      exact bodyPost_end (v := .tuple #[]) (by simp [results, Tryz.results201, go_sem]) rfl ⟨rfl, ⟨_, HJ.out _ _ hM.out hN, hW3⟩, Below.trans hX2.out hb3⟩
                    · have u2' : ¬ (e : Int) < (b : Int) := by omega
                      have hN := HS2.out _ hM.out (fun q => u2 q.2)
                      go_wp2_with fail
                      exact bodyPost_end (v := .tuple #[]) (by simp [results, Tryz.results201, go_sem]) rfl ⟨rfl, ⟨_, HJ.out _ _ hM.out hN, hW2.out⟩, hX2.out⟩
                  · have u1' : ¬ (mid : Int) < (e : Int) := by omega
                    have hN := Lib.hid (HS2.out _ hM.out (fun q => u1 q.1))
                    go_wp2_with fail
                    exact bodyPost_end (v := .tuple #[]) (by simp [results, Tryz.results201, go_sem]) rfl ⟨rfl, ⟨_, HJ.out _ _ hM.out hN.out, hW2.out⟩, hX2.out⟩
                · have s2' : ¬ (i : Int) < (mid : Int) := by omega
                  have hM := Lib.hid (HS1.out (fun q => s2 q.2))
                  have hW2 := hW1
                  have hX2 := hX1
                  clear hX1 hW1
                  go_upto_region 43 with fail
                  by_cases u1 : mid < e
                  · have u1' : (mid : Int) < (e : Int) := by omega
                    by_cases u2 : e < b
                    · have u2' : (e : Int) < (b : Int) := by omega
                      have hcall := HI2.out _ _ hM.out hX2.out hW2.out u1 u2
                      go_wp2_with (go_at_call 201; refine hcall.mono ?_; rintro e9 w3 ⟨rfl, ⟨D3, hN, hW3⟩, hb3⟩)
                      exact bodyPost_end (v := .tuple #[]) (by simp [results, Tryz.results201, go_sem]) rfl ⟨rfl, ⟨_, HJ.out _ _ hM.out hN, hW3⟩, Below.trans hX2.out hb3⟩
                    · have u2' : ¬ (e : Int) < (b : Int) := by omega
                      have hN := HS2.out _ hM.out (fun q => u2 q.2)
                      go_wp2_with fail
                      exact bodyPost_end (v := .tuple #[]) (by simp [results, Tryz.results201, go_sem]) rfl ⟨rfl, ⟨_, HJ.out _ _ hM.out hN, hW2.out⟩, hX2.out⟩
                  · have u1' : ¬ (mid : Int) < (e : Int) := by omega
                    have hN := Lib.hid (HS2.out _ hM.out (fun q => u1 q.1))
                    go_wp2_with fail
                    exact bodyPost_end (v := .tuple #[]) (by simp [results, Tryz.results201, go_sem]) rfl ⟨rfl, ⟨_, HJ.out _ _ hM.out hN.out, hW2.out⟩, hX2.out⟩
              · have s1' : ¬ (a : Int) < (i : Int) := by omega
                have hM := Lib.hid (HS1.out (fun q => s1 q.1))
                have hW2 := hW1
                have hX2 := hX1
                clear hX1 hW1
                go_upto_region 43 with fail
                by_cases u1 : mid < e
                · have u1' : (mid : Int) < (e : Int) := by omega
                  by_cases u2 : e < b
                  · have u2' : (e : Int) < (b : Int) := by omega
                    have hcall := HI2.out _ _ hM.out hX2.out hW2.out u1 u2
                    go_wp2_with (go_at_call 201; refine hcall.mono ?_; rintro e9 w3 ⟨rfl, ⟨D3, hN, hW3⟩, hb3⟩)
                    exact bodyPost_end (v := .tuple #[]) (by simp [results, Tryz.results201, go_sem]) rfl ⟨rfl, ⟨_, HJ.out _ _ hM.out hN, hW3⟩, Below.trans hX2.out hb3⟩
                  · have u2' : ¬ (e : Int) < (b : Int) := by omega
                    have hN := HS2.out _ hM.out (fun q => u2 q.2)
                    go_wp2_with fail
                    exact bodyPost_end (v := .tuple #[]) (by simp [results, Tryz.results201, go_sem]) rfl ⟨rfl, ⟨_, HJ.out _ _ hM.out hN, hW2.out⟩, hX2.out⟩
                · have u1' : ¬ (mid : Int) < (e : Int) := by omega
                  have hN := Lib.hid (HS2.out _ hM.out (fun q => u1 q.1))
                  go_wp2_with fail
                  exact bodyPost_end (v := .tuple #[]) (by simp [results, Tryz.results201, go_sem]) rfl ⟨rfl, ⟨_, HJ.out _ _ hM.out hN.out, hW2.out⟩, hX2.out⟩
            · have r2' : ¬ (m : Int) < (e : Int) := by omega
              have hW1 := Lib.hid (HRN.out (Or.inr (by have := HE.out.me; omega)))
              have hX1 := HX
              go_upto_region 41 with fail
              by_cases s1 : a < i
              · have s1' : (a : Int) < (i : Int) := by omega
                by_cases s2 : i < mid
                · have s2' : (i : Int) < (mid : Int) := by omega
                  have hcall := HI1.out _ hX1.out hW1.out s1 s2
                  go_upto_region 43 with (go_at_call 201; refine hcall.mono ?_; rintro e9 w2 ⟨rfl, ⟨D2, hM0, hW20⟩, hb2⟩)
                  have hX2 := Lib.hid (Below.trans hX1.out hb2)
                  have hM := Lib.hid hM0
                  have hW2 := Lib.hid hW20
                  clear hcall hb2 hX1 hW1 hM0 hW20
                  by_cases u1 : mid < e
                  · have u1' : (mid : Int) < (e : Int) := by omega
                    by_cases u2 : e < b
                    · have u2' : (e : Int) < (b : Int) := by omega
                      have hcall := HI2.out _ _ hM.out hX2.out hW2.out u1 u2
                      go_wp2_with (go_at_call 201; refine hcall.mono ?_; rintro e9 w3 ⟨rfl, ⟨D3, hN, hW3⟩, hb3⟩)
                      exact bodyPost_end (v := .tuple #[]) (by simp [results, Tryz.results201, go_sem]) rfl ⟨rfl, ⟨_, HJ.out _ _ hM.out hN, hW3⟩, Below.trans hX2.out hb3⟩
                    · have u2' : ¬ (e : Int) < (b : Int) := by omega
                      have hN := HS2.out _ hM.out (fun q => u2 q.2)
                      go_wp2_with fail
                      exact bodyPost_end (v := .tuple #[]) (by simp [results, Tryz.results201, go_sem]) rfl ⟨rfl, ⟨_, HJ.out _ _ hM.out hN, hW2.out⟩, hX2.out⟩
                  · have u1' : ¬ (mid : Int) < (e : Int) := by omega
                    have hN := Lib.hid (HS2.out _ hM.out (fun q => u1 q.1))
                    go_wp2_with fail
                    exact bodyPost_end (v := .tuple #[]) (by simp [results, Tryz.results201, go_sem]) rfl ⟨rfl, ⟨_, HJ.out _ _ hM.out hN.out, hW2.out⟩, hX2.out⟩
                · have s2' : ¬ (i : Int) < (mid : Int) := by omega
                  have hM := Lib.hid (HS1.out (fun q => s2 q.2))
                  have hW2 := hW1
                  have hX2 := hX1
                  clear hX1 hW1
                  go_upto_region 43 with fail
                  by_cases u1 : mid < e
                  · have u1' : (mid : Int) < (e : Int) := by omega
                    by_cases u2 : e < b
                    · have u2' : (e : Int) < (b : Int) := by omega
                      have hcall := HI2.out _ _ hM.out hX2.out hW2.out u1 u2
                      go_wp2_with (go_at_call 201; refine hcall.mono ?_; rintro e9 w3 ⟨rfl, ⟨D3, hN, hW3⟩, hb3⟩)
                      exact bodyPost_end (v := .tuple #[]) (by simp [results, Tryz.results201, go_sem]) rfl ⟨rfl, ⟨_, HJ.out _ _ hM.out hN, hW3⟩, Below.trans hX2.out hb3⟩
                    · have u2' : ¬ (e : Int) < (b : Int) := by omega
                      have hN := HS2.out _ hM.out (fun q => u2 q.2)
                      go_wp2_with fail
                      exact bodyPost_end (v := .tuple #[]) (by simp [results, Tryz.results201, go_sem]) rfl ⟨rfl, ⟨_, HJ.out _ _ hM.out hN, hW2.out⟩, hX2.out⟩
                  · have u1' : ¬ (mid : Int) < (e : Int) := by omega
                    have hN := Lib.hid (HS2.out _ hM.out (fun q => u1 q.1))
                    go_wp2_with fail
                    exact bodyPost_end (v := .tuple #[]) (by simp [results, Tryz.results201, go_sem]) rfl ⟨rfl, ⟨_, HJ.out _ _ hM.out hN.out, hW2.out⟩, hX2.out⟩
              · have s1' : ¬ (a : Int) < (i : Int) := by omega
                have hM := Lib.hid (HS1.out (fun q => s1 q.1))
                have hW2 := hW1
                have hX2 := hX1
                clear hX1 hW1
                go_upto_region 43 with fail
                by_cases u1 : mid < e
                · have u1' : (mid : Int) < (e : Int) := by omega
                  by_cases u2 : e < b
                  · have u2' : (e : Int) < (b : Int) := by omega
                    have hcall := HI2.out _ _ hM.out hX2.out hW2.out u1 u2
                    go_wp2_with (go_at_call 201; refine hcall.mono ?_; rintro e9 w3 ⟨rfl, ⟨D3, hN, hW3⟩, hb3⟩)
                    exact bodyPost_end (v := .tuple #[]) (by simp [results, Tryz.results201, go_sem]) rfl ⟨rfl, ⟨_, HJ.out _ _ hM.out hN, hW3⟩, Below.trans hX2.out hb3⟩
                  · have u2' : ¬ (e : Int) < (b : Int) := by omega
                    have hN := HS2.out _ hM.out (fun q => u2 q.2)
                    go_wp2_with fail
                    exact bodyPost_end (v := .tuple #[]) (by simp [results, Tryz.results201, go_sem]) rfl ⟨rfl, ⟨_, HJ.out _ _ hM.out hN, hW2.out⟩, hX2.out⟩
                · have u1' : ¬ (mid : Int) < (e : Int) := by omega
                  have hN := Lib.hid (HS2.out _ hM.out (fun q => u1 q.1))
                  go_wp2_with fail
                  exact bodyPost_end (v := .tuple #[]) (by simp [results, Tryz.results201, go_sem]) rfl ⟨rfl, ⟨_, HJ.out _ _ hM.out hN.out, hW2.out⟩, hX2.out⟩
          · have r1' : ¬ (i : Int) < (m : Int) := by omega
            have hW1 := Lib.hid (HRN.out (Or.inl (by have := HE.out.im; omega)))
            have hX1 := HX
            go_upto_region 41 with fail
            by_cases s1 : a < i
            · have s1' : (a : Int) < (i : Int) := by omega
              by_cases s2 : i < mid
              · have s2' : (i : Int) < (mid : Int) := by omega
                have hcall := HI1.out _ hX1.out hW1.out s1 s2
                go_upto_region 43 with (go_at_call 201; refine hcall.mono ?_; rintro e9 w2 ⟨rfl, ⟨D2, hM0, hW20⟩, hb2⟩)
                have hX2 := Lib.hid (Below.trans hX1.out hb2)
                have hM := Lib.hid hM0
                have hW2 := Lib.hid hW20
                clear hcall hb2 hX1 hW1 hM0 hW20
                by_cases u1 : mid < e
                · have u1' : (mid : Int) < (e : Int) := by omega
                  by_cases u2 : e < b
                  · have u2' : (e : Int) < (b : Int) := by omega
                    have hcall := HI2.out _ _ hM.out hX2.out hW2.out u1 u2
                    go_wp2_with (go_at_call 201; refine hcall.mono ?_; rintro e9 w3 ⟨rfl, ⟨D3, hN, hW3⟩, hb3⟩)
                    exact bodyPost_end (v := .tuple #[]) (by simp [results, Tryz.results201, go_sem]) rfl ⟨rfl, ⟨_, HJ.out _ _ hM.out hN, hW3⟩, Below.trans hX2.out hb3⟩
                  · have u2' : ¬ (e : Int) < (b : Int) := by omega
                    have hN := HS2.out _ hM.out (fun q => u2 q.2)
                    go_wp2_with fail
                    exact bodyPost_end (v := .tuple #[]) (by simp [results, Tryz.results201, go_sem]) rfl ⟨rfl, ⟨_, HJ.out _ _ hM.out hN, hW2.out⟩, hX2.out⟩
                · have u1' : ¬ (mid : Int) < (e : Int) := by omega
                  have hN := Lib.hid (HS2.out _ hM.out (fun q => u1 q.1))
                  go_wp2_with fail
                  exact bodyPost_end (v := .tuple #[]) (by simp [results, Tryz.results201, go_sem]) rfl ⟨rfl, ⟨_, HJ.out _ _ hM.out hN.out, hW2.out⟩, hX2.out⟩
              · have s2' : ¬ (i : Int) < (mid : Int) := by omega
                have hM := Lib.hid (HS1.out (fun q => s2 q.2))
                have hW2 := hW1
                have hX2 := hX1
                clear hX1 hW1
                go_upto_region 43 with fail
                by_cases u1 : mid < e
                · have u1' : (mid : Int) < (e : Int) := by omega
                  by_cases u2 : e < b
                  · have u2' : (e : Int) < (b : Int) := by omega
                    have hcall := HI2.out _ _ hM.out hX2.out hW2.out u1 u2
                    go_wp2_with (go_at_call 201; refine hcall.mono ?_; rintro e9 w3 ⟨rfl, ⟨D3, hN, hW3⟩, hb3⟩)
                    exact bodyPost_end (v := .tuple #[]) (by simp [results, Tryz.results201, go_sem]) rfl ⟨rfl, ⟨_, HJ.out _ _ hM.out hN, hW3⟩, Below.trans hX2.out hb3⟩
                  · have u2' : ¬ (e : Int) < (b : Int) := by omega
                    have hN := HS2.out _ hM.out (fun q => u2 q.2)
                    go_wp2_with fail
                    exact bodyPost_end (v := .tuple #[]) (by simp [results, Tryz.results201, go_sem]) rfl ⟨rfl, ⟨_, HJ.out _ _ hM.out hN, hW2.out⟩, hX2.out⟩
                · have u1' : ¬ (mid : Int) < (e : Int) := by omega
                  have hN := Lib.hid (HS2.out _ hM.out (fun q => u1 q.1))
                  go_wp2_with fail
                  exact bodyPost_end (v := .tuple #[]) (by simp [results, Tryz.results201, go_sem]) rfl ⟨rfl, ⟨_, HJ.out _ _ hM.out hN.out, hW2.out⟩, hX2.out⟩
            · have s1' : ¬ (a : Int) < (i : Int) := by omega
              have hM := Lib.hid (HS1.out (fun q => s1 q.1))
              have hW2 := hW1
              have hX2 := hX1
              clear hX1 hW1
              go_upto_region 43 with fail
              by_cases u1 : mid < e
              · have u1' : (mid : Int) < (e : Int) := by omega
                by_cases u2 : e < b
                · have u2' : (e : Int) < (b : Int) := by omega
                  have hcall := HI2.out _ _ hM.out hX2.out hW2.out u1 u2
                  go_wp2_with (go_at_call 201; refine hcall.mono ?_; rintro e9 w3 ⟨rfl, ⟨D3, hN, hW3⟩, hb3⟩)
                  exact bodyPost_end (v := .tuple #[]) (by simp [results, Tryz.results201, go_sem]) rfl ⟨rfl, ⟨_, HJ.out _ _ hM.out hN, hW3⟩, Below.trans hX2.out hb3⟩
                · have u2' : ¬ (e : Int) < (b : Int) := by omega
                  have hN := HS2.out _ hM.out (fun q => u2 q.2)
                  go_wp2_with fail
                  exact bodyPost_end (v := .tuple #[]) (by simp [results, Tryz.results201, go_sem]) rfl ⟨rfl, ⟨_, HJ.out _ _ hM.out hN, hW2.out⟩, hX2.out⟩
              · have u1' : ¬ (mid : Int) < (e : Int) := by omega
                have hN := Lib.hid (HS2.out _ hM.out (fun q => u1 q.1))
                go_wp2_with fail
                exact bodyPost_end (v := .tuple #[]) (by simp [results, Tryz.results201, go_sem]) rfl ⟨rfl, ⟨_, HJ.out _ _ hM.out hN.out, hW2.out⟩, hX2.out⟩
    · have hmm' : ¬ (mid : Int) < (m : Int) := by omega
      have HS := Lib.hid (HS0.out a m (Or.inr ⟨Nat.le_of_not_lt hmm, rfl, rfl⟩))
      have hm0 : m < b := hmb
      have hm1 : m < N := by omega
      go_wp2_with fail
      clear e0 e1 e2 e3 e4 e5 w1 w2 w3 w4 w5 hmm hmm' hbN hamm hmb hs hnn
      go_loopw [20, 21] (fun s t wr => ∃ i j : Nat, a ≤ i ∧ i ≤ j ∧ j ≤ m ∧ s = .int .i64 (i : Int) ∧ t = .int .i64 (j : Int) ∧ Hid (i = a ∨ ∃ u v, D[nn - i]? = some u ∧ D[i - 1]? = some v ∧ lt u v = false) ∧ Hid (j = m ∨ ∃ u v, D[nn - 1 - j]? = some u ∧ D[j]? = some v ∧ lt u v = true) ∧ Hid (Wr base wr (some ⟨bl, off, none⟩) cap D) ∧ Below base w wr) (fun s t _ => (intOf t - intOf s).toNat)
      case atStart => exact ⟨a, m, Nat.le_refl _, HS.out.lohi, Nat.le_refl _, rfl, rfl, Or.inl rfl, Or.inl rfl, HIN.out.wr, Below.refl _ _⟩
      case round =>
        obtain ⟨i, j, h1, h2, h3, rfl, rfl, H1, H2, hW, hX⟩ := hrel
        by_cases hij : i < j
        · obtain ⟨hh, q, ⟨w1, w2, w3, w4, w5⟩, ep, hw5, ⟨g1, g2, g3, g4, g5, g6⟩, hN1, hN2, g7, g8⟩ := srch_round HS.out h1 hij h3
          rw [HPP.out] at ep
          have hij' : (i : Int) < (j : Int) := by omega
          rename_i K0 hK0
          have HK0 := Lib.hid hK0
          clear hK0
          obtain ⟨u, hu⟩ : ∃ u, D[q]? = some u := ⟨_, List.getElem?_eq_getElem (by rw [HIN.out.len]; exact hN2)⟩
          obtain ⟨v, hv⟩ : ∃ u, D[hh]? = some u := ⟨_, List.getElem?_eq_getElem (by rw [HIN.out.len]; exact hN1)⟩
          have huM : u < M := HIN.out.lim u (seg_mem hu g5 g6)
          have hvM : v < M := HIN.out.lim v (seg_mem hv g3 g4)
          obtain ⟨bl', off', e, _, cu, fu⟩ := Dg.at hW.out hu
          simp only [Option.some.injEq, Addr.mk.injEq, and_true] at e
          obtain ⟨rfl, rfl⟩ := e
          obtain ⟨bl', off', e, _, cv, fv⟩ := Dg.at hW.out hv
          simp only [Option.some.injEq, Addr.mk.injEq, and_true] at e
          obtain ⟨rfl, rfl⟩ := e
          have hcall := fun (W : World) (hW : Ext wr W) => HC.out.run u v W huM hvM (below_ext hX HBW.out hW)
          have hb2 : bl < wr.heap.size := lt_of_cell cu
          have HX := Lib.hid hX
          have HU := Lib.hid (And.intro hu (And.intro hv (And.intro g7 (And.intro g8 (And.intro h1 (And.intro h3 (And.intro g1 g2)))))))
          clear hu hv g1 g2 g3 g4 g5 g6 g7 g8 huM hvM hX h1 h2 h3 hij
          go_upto_region 35 with fail
          cases hlx : lt u v with
          | false =>
            rw [hlx] at hcall
            have H1' : Hid (hh + 1 = a ∨ ∃ u v, D[nn - (hh + 1)]? = some u ∧ D[hh + 1 - 1]? = some v ∧ lt u v = false) := Or.inr ⟨u, v, by rw [HU.out.2.2.1]; exact HU.out.1, HU.out.2.1, hlx⟩
            clear hlx H1
            refine wp_plan (S := Ext _) [(0, 0), (1, 0), (2, 0), (3, 0), (4, 0), (5, 0), (6, 0), (7, 0), (8, 0), (9, 0), (10, 0), (11, 1), (12, 0), (13, 0)] [] (by kernel_rfl) (by kernel_rfl) (by kernel_rfl) (fun _ _ d _ _ h => by cases d <;> exact h) (Ext.drew (Ext.refl _)) ?_
            iterate 11 ((refine wpPl_read (v := ?_) rfl ?_ (fun _ h => ?_) ?_; rotate_left 1; rfl; (obtain ⟨_, _, rfl⟩ := h.more; go_simp; try rfl)); try simp only [Act.put, zqA, zqB, zqC])
            (refine wpPl_eff rfl ?_ (fun K hK => ?_); rfl; go_simp; refine (hcall _ (by with_reducible repeat (first | exact Ext.refl _ | apply Ext.drew | apply Ext.alloc | apply Ext.more_))).mono ?_; rintro e w' ⟨c, rfl, hlc, hb⟩; obtain ⟨os1, d1, rfl⟩ := hb.more; clear hb; refine hK _ _ ?_ ?_; (repeat (first | (with_reducible (first | exact Ext.refl _ | exact ext_d _ _ _ _ | exact ext_app _ _ _ _ _ | exact ext_app2 _ _ _ _ _ _ | exact ext_app3 _ _ _ _ _ _ _ | exact ext_app4 _ _ _ _ _ _ _ _ | exact ext_app5 _ _ _ _ _ _ _ _ _)) | ((with_reducible refine ext_suffix ⟨_, ?_⟩); (try simp only [Array.append_assoc]); rfl) | (with_reducible (first | apply Ext.drew | apply Ext.alloc | apply Ext.more_)) | apply Ext.drew | apply Ext.alloc | apply Ext.more_)))
            try simp only [Act.put, zqA, zqB, zqC]
            iterate 2 ((refine wpPl_read (v := ?_) rfl ?_ (fun _ h => ?_) ?_; rotate_left 1; rfl; (obtain ⟨_, _, rfl⟩ := h.more; go_simp; try rfl)); try simp only [Act.put, zqA, zqB, zqC])
            refine wpPl_nil ?_
            go_wp2_with fail
            obtain ⟨_, _, _, _, h1, h3, g1, g2⟩ := HU.out
            exact ⟨⟨hh + 1, j, by omega, by omega, h3, by go_num, rfl, H1', H2, hW.out.of_ext (by with_reducible repeat (first | exact Ext.refl _ | apply Ext.drew | apply Ext.alloc | apply Ext.more_)), below_ext HX.out HBW.out (by with_reducible repeat (first | exact Ext.refl _ | apply Ext.drew | apply Ext.alloc | apply Ext.more_))⟩, by simp [intOf]; omega⟩
          | true =>
            rw [hlx] at hcall
            have H2' : Hid (hh = m ∨ ∃ u v, D[nn - 1 - hh]? = some u ∧ D[hh]? = some v ∧ lt u v = true) := Or.inr ⟨u, v, by rw [HU.out.2.2.2.1]; exact HU.out.1, HU.out.2.1, hlx⟩
            clear hlx H2
            refine wp_plan (S := Ext _) [(0, 0), (1, 0), (2, 0), (3, 0), (4, 0), (5, 0), (6, 0), (7, 0), (8, 0), (9, 0), (10, 0), (11, 1), (12, 0), (13, 0)] [] (by kernel_rfl) (by kernel_rfl) (by kernel_rfl) (fun _ _ d _ _ h => by cases d <;> exact h) (Ext.drew (Ext.refl _)) ?_
            iterate 11 ((refine wpPl_read (v := ?_) rfl ?_ (fun _ h => ?_) ?_; rotate_left 1; rfl; (obtain ⟨_, _, rfl⟩ := h.more; go_simp; try rfl)); try simp only [Act.put, zqA, zqB, zqC])
            (refine wpPl_eff rfl ?_ (fun K hK => ?_); rfl; go_simp; refine (hcall _ (by with_reducible repeat (first | exact Ext.refl _ | apply Ext.drew | apply Ext.alloc | apply Ext.more_))).mono ?_; rintro e w' ⟨c, rfl, hlc, hb⟩; obtain ⟨os1, d1, rfl⟩ := hb.more; clear hb; refine hK _ _ ?_ ?_; (repeat (first | (with_reducible (first | exact Ext.refl _ | exact ext_d _ _ _ _ | exact ext_app _ _ _ _ _ | exact ext_app2 _ _ _ _ _ _ | exact ext_app3 _ _ _ _ _ _ _ | exact ext_app4 _ _ _ _ _ _ _ _ | exact ext_app5 _ _ _ _ _ _ _ _ _)) | ((with_reducible refine ext_suffix ⟨_, ?_⟩); (try simp only [Array.append_assoc]); rfl) | (with_reducible (first | apply Ext.drew | apply Ext.alloc | apply Ext.more_)) | apply Ext.drew | apply Ext.alloc | apply Ext.more_)))
            try simp only [Act.put, zqA, zqB, zqC]
            iterate 2 ((refine wpPl_read (v := ?_) rfl ?_ (fun _ h => ?_) ?_; rotate_left 1; rfl; (obtain ⟨_, _, rfl⟩ := h.more; go_simp; try rfl)); try simp only [Act.put, zqA, zqB, zqC])
            refine wpPl_nil ?_
            go_wp2_with fail
            obtain ⟨_, _, _, _, h1, h3, g1, g2⟩ := HU.out
            exact ⟨⟨i, hh, h1, g1, by omega, rfl, rfl, H1, H2', hW.out.of_ext (by with_reducible repeat (first | exact Ext.refl _ | apply Ext.drew | apply Ext.alloc | apply Ext.more_)), below_ext HX.out HBW.out (by with_reducible repeat (first | exact Ext.refl _ | apply Ext.drew | apply Ext.alloc | apply Ext.more_))⟩, by simp [intOf]; omega⟩
        · obtain rfl : i = j := by omega
          have hij' : ¬ (i : Int) < (i : Int) := Int.lt_irrefl _
          have hE := srch_ends HS.out h1 h3
          have HT := Lib.hid (srch_turned HSW.out HIN.out HS.out h1 h3 H1.out H2.out)
          obtain ⟨e, he⟩ : ∃ e, nn - i = e := ⟨_, rfl⟩
          rw [he] at hE HT
          obtain ⟨D1, hD1⟩ : ∃ D1, D.take i ++ (seg D m e ++ (seg D i m ++ D.drop e)) = D1 := ⟨_, rfl⟩
          rw [hD1] at HT
          have ee := hE.ei
          have HE := Lib.hid hE
          have HR1 : Hid (i < m → m < e → Calls Tryz.prog 214 #[.slice (some ⟨bl, off, none⟩) N cap, .int .i64 (i : Int), .int .i64 (m : Int), .int .i64 (e : Int), .func (.func cl) #[] capt] wr fun e9 w' => e9 = .returned (.tuple #[]) ∧ Wr base w' (some ⟨bl, off, none⟩) cap D1 ∧ Below base wr w') := fun q1 q2 => rot_of _ HE.out HIN.out.len hD1 hW.out q1 q2
          have HRN : Hid ((i = m ∨ m = e) → Wr base wr (some ⟨bl, off, none⟩) cap D1) := fun q => by rw [← hD1, turn_none HE.out.im HE.out.me q]; exact hW.out
          have HX := Lib.hid hX
          have HI1 : Hid (∀ W, Below base w W → Wr base W (some ⟨bl, off, none⟩) cap D1 → a < i → i < mid → Calls Tryz.prog 201 #[.slice (some ⟨bl, off, none⟩) N cap, .int .i64 (a : Int), .int .i64 (i : Int), .int .i64 (mid : Int), .func (.func cl) #[] capt] W fun e9 w' => e9 = .returned (.tuple #[]) ∧ (∃ D', Mrg lt a mid D1 D' ∧ Wr base w' (some ⟨bl, off, none⟩) cap D') ∧ Below base W w') := fun W hx hw q1 q2 => HIH.out a i mid D1 W (by have := HK.out; have := HE.out.midb; omega) (MrgIn.part1 HIN.out HT.out hx hw q1 q2 (Nat.le_of_lt HE.out.midb))
          have HI2 : Hid (∀ D2 W, Mrg lt a mid D1 D2 → Below base w W → Wr base W (some ⟨bl, off, none⟩) cap D2 → mid < e → e < b → Calls Tryz.prog 201 #[.slice (some ⟨bl, off, none⟩) N cap, .int .i64 (mid : Int), .int .i64 (e : Int), .int .i64 (b : Int), .func (.func cl) #[] capt] W fun e9 w' => e9 = .returned (.tuple #[]) ∧ (∃ D', Mrg lt mid b D2 D' ∧ Wr base w' (some ⟨bl, off, none⟩) cap D') ∧ Below base W w') := fun D2 W hm hx hw q1 q2 => HIH.out mid e b D2 W (by have := HK.out; have := HE.out.amid; omega) (MrgIn.part2 HIN.out HT.out hm hx hw q1 q2 (Nat.le_of_lt HE.out.amid))
          have HS1 : Hid (¬ (a < i ∧ i < mid) → Mrg lt a mid D1 D1) := fun q => by
            refine Mrg.of_sorted ?_
            have k1 := HE.out.ai
            have k5 := HE.out.imid
            by_cases q1 : i = a
            · have := HT.out.p2; rw [q1] at this; exact this
            · have q2 : i = mid := by omega
              have := HT.out.p1; rw [q2] at this; exact this
          have HS2 : Hid (∀ D2, Mrg lt a mid D1 D2 → ¬ (mid < e ∧ e < b) → Mrg lt mid b D2 D2) := fun D2 hm q => by
            refine Mrg.of_sorted ?_
            have k1 := HE.out.mide
            have k5 := HE.out.eb
            rw [hm.part.seg_hi (Nat.le_refl _)]
            by_cases q1 : e = mid
            · have := HT.out.p4; rw [q1] at this; exact this
            · have q2 : e = b := by omega
              have := HT.out.p3; rw [q2] at this; exact this
          have HJ : Hid (∀ D2 D3, Mrg lt a mid D1 D2 → Mrg lt mid b D2 D3 → Mrg lt a b D D3) := fun D2 D3 m1 m2 => merge_join (Nat.le_of_lt HE.out.amid) (Nat.le_of_lt HE.out.midb) HT.out.part HT.out.perm HT.out.cross m1 m2
          clear H1 H2 hX HT hD1 HIH HIN he HC hE h1 h2 h3 hij HS HS0 HPP HN0 HBW HSW HK HLN hcap hblk hm0 hm1
          clear hW
          by_cases r1 : i < m
          · have r1' : (i : Int) < (m : Int) := by omega
            by_cases r2 : m < e
            · have r2' : (m : Int) < (e : Int) := by omega
              have hcall := HR1.out r1 r2
              go_upto_region 41 with (go_at_call 214; refine hcall.mono ?_; rintro e9 w1 ⟨rfl, hW10, hb1⟩)
              have hX1 := Lib.hid (Below.trans HX.out hb1)
              have hW1 := Lib.hid hW10
              clear hcall hb1 hW10
              by_cases s1 : a < i
              · have s1' : (a : Int) < (i : Int) := by omega
                by_cases s2 : i < mid
                · have s2' : (i : Int) < (mid : Int) := by omega
                  have hcall := HI1.out _ hX1.out hW1.out s1 s2
                  go_upto_region 43 with (go_at_call 201; refine hcall.mono ?_; rintro e9 w2 ⟨rfl, ⟨D2, hM0, hW20⟩, hb2⟩)
                  have hX2 := Lib.hid (Below.trans hX1.out hb2)
                  have hM := Lib.hid hM0
                  have hW2 := Lib.hid hW20
                  clear hcall hb2 hX1 hW1 hM0 hW20
                  by_cases u1 : mid < e
                  · have u1' : (mid : Int) < (e : Int) := by omega
                    by_cases u2 : e < b
                    · have u2' : (e : Int) < (b : Int) := by omega
                      have hcall := HI2.out _ _ hM.out hX2.out hW2.out u1 u2
                      go_wp2_with (go_at_call 201; refine hcall.mono ?_; rintro e9 w3 ⟨rfl, ⟨D3, hN, hW3⟩, hb3⟩)
                      exact bodyPost_end (v := .tuple #[]) (by simp [results, Tryz.results201, go_sem]) rfl ⟨rfl, ⟨_, HJ.out _ _ hM.out hN, hW3⟩, Below.trans hX2.out hb3⟩
                    · have u2' : ¬ (e : Int) < (b : Int) := by omega
                      have hN := HS2.out _ hM.out (fun q => u2 q.2)
                      go_wp2_with fail
                      exact bodyPost_end (v := .tuple #[]) (by simp [results, Tryz.results201, go_sem]) rfl ⟨rfl, ⟨_, HJ.out _ _ hM.out hN, hW2.out⟩, hX2.out⟩
                  · have u1' : ¬ (mid : Int) < (e : Int) := by omega
                    have hN := Lib.hid (HS2.out _ hM.out (fun q => u1 q.1))
                    go_wp2_with fail
                    exact bodyPost_end (v := .tuple #[]) (by simp [results, Tryz.results201, go_sem]) rfl ⟨rfl, ⟨_, HJ.out _ _ hM.out hN.out, hW2.out⟩, hX2.out⟩
                · have s2' : ¬ (i : Int) < (mid : Int) := by omega
                  have hM := Lib.hid (HS1.out (fun q => s2 q.2))
                  have hW2 := hW1
                  have hX2 := hX1
                  clear hX1 hW1
                  go_upto_region 43 with fail
                  by_cases u1 : mid < e
                  · have u1' : (mid : Int) < (e : Int) := by omega
                    by_cases u2 : e < b
                    · have u2' : (e : Int) < (b : Int) := by omega
                      have hcall := HI2.out _ _ hM.out hX2.out hW2.out u1 u2
                      go_wp2_with (go_at_call 201; refine hcall.mono ?_; rintro e9 w3 ⟨rfl, ⟨D3, hN, hW3⟩, hb3⟩)
                      exact bodyPost_end (v := .tuple #[]) (by simp [results, Tryz.results201, go_sem]) rfl ⟨rfl, ⟨_, HJ.out _ _ hM.out hN, hW3⟩, Below.trans hX2.out hb3⟩
                    · have u2' : ¬ (e : Int) < (b : Int) := by omega
                      have hN := HS2.out _ hM.out (fun q => u2 q.2)
                      go_wp2_with fail
                      exact bodyPost_end (v := .tuple #[]) (by simp [results, Tryz.results201, go_sem]) rfl ⟨rfl, ⟨_, HJ.out _ _ hM.out hN, hW2.out⟩, hX2.out⟩
                  · have u1' : ¬ (mid : Int) < (e : Int) := by omega
                    have hN := Lib.hid (HS2.out _ hM.out (fun q => u1 q.1))
                    go_wp2_with fail
                    exact bodyPost_end (v := .tuple #[]) (by simp [results, Tryz.results201, go_sem]) rfl ⟨rfl, ⟨_, HJ.out _ _ hM.out hN.out, hW2.out⟩, hX2.out⟩
              · have s1' : ¬ (a : Int) < (i : Int) := by omega
                have hM := Lib.hid (HS1.out (fun q => s1 q.1))
                have hW2 := hW1
                have hX2 := hX1
                clear hX1 hW1
                go_upto_region 43 with fail
                by_cases u1 : mid < e
                · have u1' : (mid : Int) < (e : Int) := by omega
                  by_cases u2 : e < b
                  · have u2' : (e : Int) < (b : Int) := by omega
                    have hcall := HI2.out _ _ hM.out hX2.out hW2.out u1 u2
                    go_wp2_with (go_at_call 201; refine hcall.mono ?_; rintro e9 w3 ⟨rfl, ⟨D3, hN, hW3⟩, hb3⟩)
                    exact bodyPost_end (v := .tuple #[]) (by simp [results, Tryz.results201, go_sem]) rfl ⟨rfl, ⟨_, HJ.out _ _ hM.out hN, hW3⟩, Below.trans hX2.out hb3⟩
                  · have u2' : ¬ (e : Int) < (b : Int) := by omega
                    have hN := HS2.out _ hM.out (fun q => u2 q.2)
                    go_wp2_with fail
                    exact bodyPost_end (v := .tuple #[]) (by simp [results, Tryz.results201, go_sem]) rfl ⟨rfl, ⟨_, HJ.out _ _ hM.out hN, hW2.out⟩, hX2.out⟩
                · have u1' : ¬ (mid : Int) < (e : Int) := by omega
                  have hN := Lib.hid (HS2.out _ hM.out (fun q => u1 q.1))
                  go_wp2_with fail
                  exact bodyPost_end (v := .tuple #[]) (by simp [results, Tryz.results201, go_sem]) rfl ⟨rfl, ⟨_, HJ.out _ _ hM.out hN.out, hW2.out⟩, hX2.out⟩
            · have r2' : ¬ (m : Int) < (e : Int) := by omega
              have hW1 := Lib.hid (HRN.out (Or.inr (by have := HE.out.me; omega)))
              have hX1 := HX
              go_upto_region 41 with fail
              by_cases s1 : a < i
              · have s1' : (a : Int) < (i : Int) := by omega
                by_cases s2 : i < mid
                · have s2' : (i : Int) < (mid : Int) := by omega
                  have hcall := HI1.out _ hX1.out hW1.out s1 s2
                  go_upto_region 43 with (go_at_call 201; refine hcall.mono ?_; rintro e9 w2 ⟨rfl, ⟨D2, hM0, hW20⟩, hb2⟩)
                  have hX2 := Lib.hid (Below.trans hX1.out hb2)
                  have hM := Lib.hid hM0
                  have hW2 := Lib.hid hW20
                  clear hcall hb2 hX1 hW1 hM0 hW20
                  by_cases u1 : mid < e
                  · have u1' : (mid : Int) < (e : Int) := by omega
                    by_cases u2 : e < b
                    · have u2' : (e : Int) < (b : Int) := by omega
                      have hcall := HI2.out _ _ hM.out hX2.out hW2.out u1 u2
                      go_wp2_with (go_at_call 201; refine hcall.mono ?_; rintro e9 w3 ⟨rfl, ⟨D3, hN, hW3⟩, hb3⟩)
                      exact bodyPost_end (v := .tuple #[]) (by simp [results, Tryz.results201, go_sem]) rfl ⟨rfl, ⟨_, HJ.out _ _ hM.out hN, hW3⟩, Below.trans hX2.out hb3⟩
                    · have u2' : ¬ (e : Int) < (b : Int) := by omega
                      have hN := HS2.out _ hM.out (fun q => u2 q.2)
                      go_wp2_with fail
                      exact bodyPost_end (v := .tuple #[]) (by simp [results, Tryz.results201, go_sem]) rfl ⟨rfl, ⟨_, HJ.out _ _ hM.out hN, hW2.out⟩, hX2.out⟩
                  · have u1' : ¬ (mid : Int) < (e : Int) := by omega
                    have hN := Lib.hid (HS2.out _ hM.out (fun q => u1 q.1))
                    go_wp2_with fail
                    exact bodyPost_end (v := .tuple #[]) (by simp [results, Tryz.results201, go_sem]) rfl ⟨rfl, ⟨_, HJ.out _ _ hM.out hN.out, hW2.out⟩, hX2.out⟩
                · have s2' : ¬ (i : Int) < (mid : Int) := by omega
                  have hM := Lib.hid (HS1.out (fun q => s2 q.2))
                  have hW2 := hW1
                  have hX2 := hX1
                  clear hX1 hW1
                  go_upto_region 43 with fail
                  by_cases u1 : mid < e
                  · have u1' : (mid : Int) < (e : Int) := by omega
                    by_cases u2 : e < b
                    · have u2' : (e : Int) < (b : Int) := by omega
                      have hcall := HI2.out _ _ hM.out hX2.out hW2.out u1 u2
                      go_wp2_with (go_at_call 201; refine hcall.mono ?_; rintro e9 w3 ⟨rfl, ⟨D3, hN, hW3⟩, hb3⟩)
                      exact bodyPost_end (v := .tuple #[]) (by simp [results, Tryz.results201, go_sem]) rfl ⟨rfl, ⟨_, HJ.out _ _ hM.out hN, hW3⟩, Below.trans hX2.out hb3⟩
                    · have u2' : ¬ (e : Int) < (b : Int) := by omega
                      have hN := HS2.out _ hM.out (fun q => u2 q.2)
                      go_wp2_with fail
                      exact bodyPost_end (v := .tuple #[]) (by simp [results, Tryz.results201, go_sem]) rfl ⟨rfl, ⟨_, HJ.out _ _ hM.out hN, hW2.out⟩, hX2.out⟩
                  · have u1' : ¬ (mid : Int) < (e : Int) := by omega
                    have hN := Lib.hid (HS2.out _ hM.out (fun q => u1 q.1))
                    go_wp2_with fail
                    exact bodyPost_end (v := .tuple #[]) (by simp [results, Tryz.results201, go_sem]) rfl ⟨rfl, ⟨_, HJ.out _ _ hM.out hN.out, hW2.out⟩, hX2.out⟩
              · have s1' : ¬ (a : Int) < (i : Int) := by omega
                have hM := Lib.hid (HS1.out (fun q => s1 q.1))
                have hW2 := hW1
                have hX2 := hX1
                clear hX1 hW1
                go_upto_region 43 with fail
                by_cases u1 : mid < e
                · have u1' : (mid : Int) < (e : Int) := by omega
                  by_cases u2 : e < b
                  · have u2' : (e : Int) < (b : Int) := by omega
                    have hcall := HI2.out _ _ hM.out hX2.out hW2.out u1 u2
                    go_wp2_with (go_at_call 201; refine hcall.mono ?_; rintro e9 w3 ⟨rfl, ⟨D3, hN, hW3⟩, hb3⟩)
                    exact bodyPost_end (v := .tuple #[]) (by simp [results, Tryz.results201, go_sem]) rfl ⟨rfl, ⟨_, HJ.out _ _ hM.out hN, hW3⟩, Below.trans hX2.out hb3⟩
                  · have u2' : ¬ (e : Int) < (b : Int) := by omega
                    have hN := HS2.out _ hM.out (fun q => u2 q.2)
                    go_wp2_with fail
                    exact bodyPost_end (v := .tuple #[]) (by simp [results, Tryz.results201, go_sem]) rfl ⟨rfl, ⟨_, HJ.out _ _ hM.out hN, hW2.out⟩, hX2.out⟩
                · have u1' : ¬ (mid : Int) < (e : Int) := by omega
                  have hN := Lib.hid (HS2.out _ hM.out (fun q => u1 q.1))
                  go_wp2_with fail
                  exact bodyPost_end (v := .tuple #[]) (by simp [results, Tryz.results201, go_sem]) rfl ⟨rfl, ⟨_, HJ.out _ _ hM.out hN.out, hW2.out⟩, hX2.out⟩
          · have r1' : ¬ (i : Int) < (m : Int) := by omega
            have hW1 := Lib.hid (HRN.out (Or.inl (by have := HE.out.im; omega)))
            have hX1 := HX
            go_upto_region 41 with fail
            by_cases s1 : a < i
            · have s1' : (a : Int) < (i : Int) := by omega
              by_cases s2 : i < mid
              · have s2' : (i : Int) < (mid : Int) := by omega
                have hcall := HI1.out _ hX1.out hW1.out s1 s2
                go_upto_region 43 with (go_at_call 201; refine hcall.mono ?_; rintro e9 w2 ⟨rfl, ⟨D2, hM0, hW20⟩, hb2⟩)
                have hX2 := Lib.hid (Below.trans hX1.out hb2)
                have hM := Lib.hid hM0
                have hW2 := Lib.hid hW20
                clear hcall hb2 hX1 hW1 hM0 hW20
                by_cases u1 : mid < e
                · have u1' : (mid : Int) < (e : Int) := by omega
                  by_cases u2 : e < b
                  · have u2' : (e : Int) < (b : Int) := by omega
                    have hcall := HI2.out _ _ hM.out hX2.out hW2.out u1 u2
                    go_wp2_with (go_at_call 201; refine hcall.mono ?_; rintro e9 w3 ⟨rfl, ⟨D3, hN, hW3⟩, hb3⟩)
                    exact bodyPost_end (v := .tuple #[]) (by simp [results, Tryz.results201, go_sem]) rfl ⟨rfl, ⟨_, HJ.out _ _ hM.out hN, hW3⟩, Below.trans hX2.out hb3⟩
                  · have u2' : ¬ (e : Int) < (b : Int) := by omega
                    have hN := HS2.out _ hM.out (fun q => u2 q.2)
                    go_wp2_with fail
                    exact bodyPost_end (v := .tuple #[]) (by simp [results, Tryz.results201, go_sem]) rfl ⟨rfl, ⟨_, HJ.out _ _ hM.out hN, hW2.out⟩, hX2.out⟩
                · have u1' : ¬ (mid : Int) < (e : Int) := by omega
                  have hN := Lib.hid (HS2.out _ hM.out (fun q => u1 q.1))
                  go_wp2_with fail
                  exact bodyPost_end (v := .tuple #[]) (by simp [results, Tryz.results201, go_sem]) rfl ⟨rfl, ⟨_, HJ.out _ _ hM.out hN.out, hW2.out⟩, hX2.out⟩
              · have s2' : ¬ (i : Int) < (mid : Int) := by omega
                have hM := Lib.hid (HS1.out (fun q => s2 q.2))
                have hW2 := hW1
                have hX2 := hX1
                clear hX1 hW1
                go_upto_region 43 with fail
                by_cases u1 : mid < e
                · have u1' : (mid : Int) < (e : Int) := by omega
                  by_cases u2 : e < b
                  · have u2' : (e : Int) < (b : Int) := by omega
                    have hcall := HI2.out _ _ hM.out hX2.out hW2.out u1 u2
                    go_wp2_with (go_at_call 201; refine hcall.mono ?_; rintro e9 w3 ⟨rfl, ⟨D3, hN, hW3⟩, hb3⟩)
                    exact bodyPost_end (v := .tuple #[]) (by simp [results, Tryz.results201, go_sem]) rfl ⟨rfl, ⟨_, HJ.out _ _ hM.out hN, hW3⟩, Below.trans hX2.out hb3⟩
                  · have u2' : ¬ (e : Int) < (b : Int) := by omega
                    have hN := HS2.out _ hM.out (fun q => u2 q.2)
                    go_wp2_with fail
                    exact bodyPost_end (v := .tuple #[]) (by simp [results, Tryz.results201, go_sem]) rfl ⟨rfl, ⟨_, HJ.out _ _ hM.out hN, hW2.out⟩, hX2.out⟩
                · have u1' : ¬ (mid : Int) < (e : Int) := by omega
                  have hN := Lib.hid (HS2.out _ hM.out (fun q => u1 q.1))
                  go_wp2_with fail
                  exact bodyPost_end (v := .tuple #[]) (by simp [results, Tryz.results201, go_sem]) rfl ⟨rfl, ⟨_, HJ.out _ _ hM.out hN.out, hW2.out⟩, hX2.out⟩
            · have s1' : ¬ (a : Int) < (i : Int) := by omega
              have hM := Lib.hid (HS1.out (fun q => s1 q.1))
              have hW2 := hW1
              have hX2 := hX1
              clear hX1 hW1
              go_upto_region 43 with fail
              by_cases u1 : mid < e
              · have u1' : (mid : Int) < (e : Int) := by omega
                by_cases u2 : e < b
                · have u2' : (e : Int) < (b : Int) := by omega
                  have hcall := HI2.out _ _ hM.out hX2.out hW2.out u1 u2
                  go_wp2_with (go_at_call 201; refine hcall.mono ?_; rintro e9 w3 ⟨rfl, ⟨D3, hN, hW3⟩, hb3⟩)
                  exact bodyPost_end (v := .tuple #[]) (by simp [results, Tryz.results201, go_sem]) rfl ⟨rfl, ⟨_, HJ.out _ _ hM.out hN, hW3⟩, Below.trans hX2.out hb3⟩
                · have u2' : ¬ (e : Int) < (b : Int) := by omega
                  have hN := HS2.out _ hM.out (fun q => u2 q.2)
                  go_wp2_with fail
                  exact bodyPost_end (v := .tuple #[]) (by simp [results, Tryz.results201, go_sem]) rfl ⟨rfl, ⟨_, HJ.out _ _ hM.out hN, hW2.out⟩, hX2.out⟩
              · have u1' : ¬ (mid : Int) < (e : Int) := by omega
                have hN := Lib.hid (HS2.out _ hM.out (fun q => u1 q.1))
                go_wp2_with fail
                exact bodyPost_end (v := .tuple #[]) (by simp [results, Tryz.results201, go_sem]) rfl ⟨rfl, ⟨_, HJ.out _ _ hM.out hN.out, hW2.out⟩, hX2.out⟩
theorem symMerge_any {lt : Nat → Nat → Bool} (hlt : Swo lt) (cl : FuncId) (capt : Array Value) (M base : Nat) (A : Option Addr) (cap N : Nat) : ∀ (k a m b : Nat) (D : List Nat) (w : World), b - a ≤ k → MrgIn lt cl capt M base A cap N a m b D w →
    Calls Tryz.prog 201 #[.slice A N cap, .int .i64 (a : Int), .int .i64 (m : Int), .int .i64 (b : Int), .func (.func cl) #[] capt] w fun e w' => e = .returned (.tuple #[]) ∧ (∃ D', Mrg lt a b D D' ∧ Wr base w' A cap D') ∧ Below base w w'
  | 0, a, m, b, D, w, hk, h => by have := h.am; have := h.mb; omega
  | k + 1, a, m, b, D, w, hk, h => symMerge_step hlt cl capt M base A cap N k (symMerge_any hlt cl capt M base A cap N k) a m b D w hk h
end Go.Proofs.YtmjmijjbijlhfaaGreatDoor
namespace Go.Proofs.YtmjmijjbijlhfaaGreatDoor
open Go.RowKit NM
theorem ins_parts {lt : Nat → Nat → Bool} {D X : List Nat} {a b : Nat} (hab : a ≤ b) (hbl : b ≤ D.length) (hX : X.Perm (List.range' a (b - a))) (hs : X.Pairwise (Lx lt)) : Part a b D (D.take a ++ (X ++ D.drop b)) ∧ Srt lt (D.take a ++ (X ++ D.drop b)) a b := by
  have hl : X.length = b - a := by simpa using hX.length_eq
  have ha : a = (D.take a).length := by rw [List.length_take]; omega
  constructor
  · have := Part.of_mid (a := a) (b := b) (pre := D.take a) (Z := seg D a b) (Z' := X) (post := D.drop b) ha (by rw [hl, seg_length hbl]) (by rw [seg_length hbl]; omega)
    rwa [← seg_split hab] at this
  · unfold Srt; rw [seg_of ha (by omega)]; exact ⟨hX, hs⟩
theorem insSortD_any {lt : Nat → Nat → Bool} (hlt : Swo lt) (cl : FuncId) (capt : Array Value) (M base : Nat) (A : Option Addr) (cap N a b : Nat) (D : List Nat) (w : World) (hc : CmpS cl capt lt M base w) (hbw : base ≤ w.heap.size)
    (h : Wr base w A cap D) (hl : D.length = N) (hs : N ≤ 100000) (hab : a ≤ b) (hb : b ≤ N) (hM : b ≤ M) (hD : seg D a b = List.range' a (b - a)) :
    Calls Tryz.prog 200 #[.slice A N cap, .int .i64 (a : Int), .int .i64 (b : Int), .func (.func cl) #[] capt] w fun e w' => e = .returned (.tuple #[]) ∧ (∃ D', Part a b D D' ∧ Srt lt D' a b ∧ Wr base w' A cap D') ∧ Below base w w' := by
  have e := seg_split (D := D) hab
  rw [hD] at e
  have h2 : Wr base w A cap (D.take a ++ (List.range' a (b - a) ++ D.drop b)) := by rw [← e]; exact h
  refine (insSort_any hlt cl capt M base A cap N a (b - a) (b : Int) (D.take a) (D.drop b) w hc hbw h2 (by rw [List.length_take]; omega) (by rw [List.length_take, List.length_drop]; omega) hs (by omega) (by omega)).mono ?_
  rintro e w' ⟨rfl, ⟨X, h1, h2, h3⟩, hb'⟩
  obtain ⟨p1, p2⟩ := ins_parts (D := D) hab (by omega) h1 h2
  exact ⟨rfl, ⟨_, p1, p2, h3⟩, hb'⟩
theorem symMergeS_any {lt : Nat → Nat → Bool} (hlt : Swo lt) (cl : FuncId) (capt : Array Value) (M base : Nat) (A : Option Addr) (cap N a m b : Nat) (D : List Nat) (w : World) (hc : CmpS cl capt lt M base w) (hbw : base ≤ w.heap.size)
    (h : Wr base w A cap D) (hl : D.length = N) (hs : N ≤ 100000) (ham : a < m) (hmb : m < b) (hb : b ≤ N) (hM : b ≤ M) (hX : Srt lt D a m) (hY : Srt lt D m b) :
    Calls Tryz.prog 201 #[.slice A N cap, .int .i64 (a : Int), .int .i64 (m : Int), .int .i64 (b : Int), .func (.func cl) #[] capt] w fun e w' => e = .returned (.tuple #[]) ∧ (∃ D', Part a b D D' ∧ Srt lt D' a b ∧ Wr base w' A cap D') ∧ Below base w w' := by
  refine (symMerge_any hlt cl capt M base A cap N (b - a) a m b D w (Nat.le_refl _) ⟨hc, hbw, h, hl, hs, ham, hmb, hb, fun x hx => ?_, hX.2, hY.2, Srt.cross hX hY⟩).mono ?_
  · rw [seg_seg (Nat.le_of_lt ham) (Nat.le_of_lt hmb)] at hx
    rcases List.mem_append.1 hx with h | h
    · have := hX.mem h; omega
    · have := hY.mem h; omega
  · rintro e w' ⟨rfl, ⟨D', hm, hw⟩, hb'⟩
    exact ⟨rfl, ⟨D', hm.part, Srt.merged (Nat.le_of_lt ham) (Nat.le_of_lt hmb) hX hY hm, hw⟩, hb'⟩
set_option maxHeartbeats 8000000 in
theorem stable_any {lt : Nat → Nat → Bool} (hlt : Swo lt) (cl : FuncId) (capt : Array Value) (base : Nat) (A : Option Addr) (cap N : Nat) (w : World) (hc : CmpS cl capt lt N base w) (hbw : base ≤ w.heap.size) (h : Wr base w A cap (List.range N)) (hs : N ≤ 100000) :
    Calls Tryz.prog 177 #[.slice A N cap, .int .i64 (N : Int), .func (.func cl) #[] capt] w fun e w' => e = .returned (.tuple #[]) ∧ Wr base w' A cap (sortN lt N) ∧ Below base w w' := by
  have HC := Lib.hid hc
  have H0 : Hid (∃ D, Ins lt N 0 D ∧ Wr base w A cap D) := ⟨_, Ins.start lt N, h⟩
  have HLT := Lib.hid hlt
  clear h hc hlt
  go_enter Tryz.func177, Tryz.ntmps177
  go_wp2_with fail
  go_loopw [7, 8] (fun s7 s8 wr => ∃ q a b : Nat, Hid (a = q * 20) ∧ Hid (b = a + 20) ∧ a ≤ N ∧ s7 = .int .i64 (a : Int) ∧ s8 = .int .i64 (b : Int) ∧ Hid (∃ D, Ins lt N q D ∧ Wr base wr A cap D) ∧ Below base w wr) (fun s7 _ _ => N - (intOf s7).toNat)
  case atStart => exact ⟨0, 0, 20, rfl, rfl, Nat.zero_le _, rfl, rfl, H0, Below.refl _ _⟩
  case round =>
    clear H0
    obtain ⟨q, a, b, HA, HB, haN, rfl, rfl, HW, hX⟩ := hrel
    have hbw2 := Nat.le_trans hbw hX.size
    obtain ⟨D, hI, hW⟩ := HW.out
    have HI := Lib.hid hI
    by_cases hbn : b ≤ N
    · have hbn' : (b : Int) ≤ (N : Int) := by omega
      have eb : IntKind.i64.wrap ((b : Int) + 20) = ((b + 20 : Nat) : Int) := by rw [IntKind.wrap_i64]; omega
      have hcall := insSortD_any HLT.out cl capt N base A cap N a b D wr (HC.out.keep hX) hbw2 hW hI.len hs (by have := HB.out; omega) hbn hbn (by rw [HA.out]; exact hI.seg hbn)
      clear hI hW HW
      go_wp2_with (go_at_call 200; refine hcall.mono ?_; rintro e w' ⟨rfl, ⟨D', hp, hq, hw⟩, hb'⟩; have HN : Hid (∃ D, Ins lt N (q + 1) D ∧ Wr base w' A cap D) := ⟨D', HI.out.step (by rw [HB.out, HA.out] at hp; exact hp) (by rw [HB.out, HA.out] at hq; exact hq), hw⟩; clear hp hq hw)
      exact ⟨⟨q + 1, b, b + 20, (by show b = (q + 1) * 20; rw [HB.out, HA.out]; omega), rfl, hbn, rfl, by go_num, HN, hX.trans hb'⟩, by have := HB.out; simp [intOf]; omega⟩
    · have hbn' : ¬ (b : Int) ≤ (N : Int) := by omega
      have hcall := insSortD_any HLT.out cl capt N base A cap N a N D wr (HC.out.keep hX) hbw2 hW hI.len hs haN (Nat.le_refl _) (Nat.le_refl _) (by rw [HA.out]; exact hI.seg (Nat.le_refl _))
      clear hI hW HW
      go_wp2_with (go_at_call 200; refine hcall.mono ?_; rintro e w' ⟨rfl, ⟨D', hp, hq, hw⟩, hb'⟩; have HN : Hid (∃ D, D.length = N ∧ AllB lt N 20 D ∧ Wr base w' A cap D) := ⟨D', hp.len.trans HI.out.len, HI.out.all (by have := HA.out; omega) (by have := HA.out; have := HB.out; omega) (by rw [HA.out] at hp; exact hp) (by rw [HA.out] at hq; exact hq), hw⟩; clear hp hq hw)
      have hX1 := hX.trans hb'
      clear hX hb' hcall HB hbn hbn' hbw2
      go_loopw [6, 7, 8] (fun s6 s7 s8 wr => ∃ bs : Nat, 0 < bs ∧ bs ≤ 200000 ∧ s6 = .int .i64 (bs : Int) ∧ (∃ x, s7 = .int .i64 x) ∧ (∃ x, s8 = .int .i64 x) ∧ Hid (∃ D, D.length = N ∧ AllB lt N bs D ∧ Wr base wr A cap D) ∧ Below base w wr) (fun s6 _ _ _ => N - (intOf s6).toNat)
      case atStart => exact ⟨20, by decide, by decide, rfl, ⟨_, rfl⟩, ⟨_, rfl⟩, HN, hX1⟩
      case round =>
        clear HN hX1 HI
        obtain ⟨bs, hs0, hs1, rfl, ⟨x7, rfl⟩, ⟨x8, rfl⟩, HW, hX⟩ := hrel
        by_cases hbn : bs < N
        · have hbn' : (bs : Int) < (N : Int) := by omega
          obtain ⟨b2, hb2⟩ : ∃ b2, 2 * bs = b2 := ⟨_, rfl⟩
          have e2 : IntKind.i64.wrap (2 * (bs : Int)) = (b2 : Int) := by rw [IntKind.wrap_i64]; omega
          have e3 : IntKind.i64.wrap ((bs : Int) * 2) = (b2 : Int) := by rw [IntKind.wrap_i64]; omega
          have H0 : Hid (∃ D, Mrs lt N bs 0 D ∧ Wr base wr A cap D) := by
            obtain ⟨D, h1, h2, h3⟩ := HW.out
            exact ⟨D, Mrs.start h1 h2, h3⟩
          have hX0 := hX
          clear HW hX
          go_wp2_with fail
          obtain ⟨wo, rfl⟩ : ∃ wo : World, wo = wr := ⟨_, rfl⟩
          go_loopw [7, 8] (fun s7 s8 wr => ∃ q a b : Nat, Hid (a = q * (2 * bs)) ∧ Hid (b = a + b2) ∧ a ≤ N ∧ s7 = .int .i64 (a : Int) ∧ s8 = .int .i64 (b : Int) ∧ Hid (∃ D, Mrs lt N bs q D ∧ Wr base wr A cap D) ∧ Below base w wr) (fun s7 _ _ => N - (intOf s7).toNat)
          case atStart => exact ⟨0, 0, b2, (Nat.zero_mul _).symm, (Nat.zero_add _).symm, Nat.zero_le _, rfl, rfl, H0, hX0⟩
          case round =>
            clear H0 hX0
            obtain ⟨q, a, b, HA, HB, haN, rfl, rfl, HW, hX⟩ := hrel
            have hbw2 := Nat.le_trans hbw hX.size
            obtain ⟨D, hI, hW⟩ := HW.out
            have HI := Lib.hid hI
            obtain ⟨mm, hmm⟩ : ∃ mm, a + bs = mm := ⟨_, rfl⟩
            have em : IntKind.i64.wrap ((a : Int) + (bs : Int)) = (mm : Int) := by rw [IntKind.wrap_i64]; omega
            by_cases hbn2 : b ≤ N
            · have hbn2' : (b : Int) ≤ (N : Int) := by omega
              obtain ⟨c, hc⟩ : ∃ c, b + b2 = c := ⟨_, rfl⟩
              have eb : IntKind.i64.wrap ((b : Int) + (b2 : Int)) = (c : Int) := by rw [IntKind.wrap_i64]; omega
              obtain ⟨hY1, hY2⟩ := hI.two (b := b) (by rw [← HA.out]; have := HB.out; omega) (by rw [← HA.out]; have := HB.out; omega) hs0
              rw [← HA.out, hmm] at hY1 hY2
              have hcall := symMergeS_any HLT.out cl capt N base A cap N a mm b D wr (HC.out.keep hX) hbw2 hW hI.len hs (by omega) (by have := HB.out; omega) hbn2 hbn2 hY1 hY2
              clear hI hW HW hY1 hY2
              go_wp2_with (go_at_call 201; refine hcall.mono ?_; rintro e w' ⟨rfl, ⟨D', hp, hq, hw⟩, hb'⟩; have HN : Hid (∃ D, Mrs lt N bs (q + 1) D ∧ Wr base w' A cap D) := ⟨D', HI.out.step (by rw [HB.out, HA.out, ← hb2] at hp; exact hp) (by rw [HB.out, HA.out, ← hb2] at hq; exact hq), hw⟩; clear hp hq hw)
              have HA' : Hid (b = (q + 1) * (2 * bs)) := by show b = _; rw [HB.out, HA.out, ← hb2, Nat.add_mul, Nat.one_mul]
              exact ⟨⟨q + 1, b, c, HA', hc.symm, hbn2, rfl, rfl, HN, hX.trans hb'⟩, by have := HB.out; simp [intOf]; omega⟩
            · have hbn2' : ¬ (b : Int) ≤ (N : Int) := by omega
              by_cases hmn : mm < N
              · have hmn' : (mm : Int) < (N : Int) := by omega
                obtain ⟨hY1, hY2⟩ := hI.two (b := N) (by rw [← HA.out]; omega) (by rw [← HA.out]; have := HB.out; omega) hs0
                rw [← HA.out, hmm] at hY1 hY2
                have hcall := symMergeS_any HLT.out cl capt N base A cap N a mm N D wr (HC.out.keep hX) hbw2 hW hI.len hs (by omega) hmn (Nat.le_refl _) (Nat.le_refl _) hY1 hY2
                clear hI hW HW hY1 hY2
                go_wp2_with (go_at_call 201; refine hcall.mono ?_; rintro e w' ⟨rfl, ⟨D', hp, hq, hw⟩, hb'⟩; have HN : Hid (∃ D, D.length = N ∧ AllB lt N b2 D ∧ Wr base w' A cap D) := ⟨D', hp.len.trans HI.out.len, by rw [← hb2]; exact HI.out.last (by rw [← HA.out]; exact haN) (by rw [← HA.out]; have := HB.out; omega) (by rw [HA.out] at hp; exact hp) (fun _ => by rw [HA.out] at hq; exact hq), hw⟩; clear hp hq hw)
                exact ⟨⟨b2, by omega, by omega, rfl, ⟨_, rfl⟩, ⟨_, rfl⟩, HN, hX.trans hb'⟩, by simp [intOf]; omega⟩
              · have hmn' : ¬ (mm : Int) < (N : Int) := by omega
                have HN : Hid (∃ D, D.length = N ∧ AllB lt N b2 D ∧ Wr base wr A cap D) := ⟨D, hI.len, by rw [← hb2]; exact hI.last (by rw [← HA.out]; exact haN) (by rw [← HA.out]; have := HB.out; omega) (Part.refl _ _ _) (fun h => hI.none (by rw [← HA.out]; omega) h), hW⟩
                clear hI hW HW
                go_wp2_with fail
                exact ⟨⟨b2, by omega, by omega, rfl, ⟨_, rfl⟩, ⟨_, rfl⟩, HN, hX⟩, by simp [intOf]; omega⟩
        · have hbn' : ¬ (bs : Int) < (N : Int) := by omega
          have HR : Hid (Wr base wr A cap (sortN lt N)) := by
            obtain ⟨D, h1, h2, h3⟩ := HW.out
            show Wr base wr A cap (sortN lt N)
            rw [← AllB.whole HLT.out h1 (by omega) h2]
            exact h3
          clear HW
          go_wp2_with fail
          exact bodyPost_end (v := .tuple #[]) (by simp [results, Tryz.results177, go_sem]) rfl ⟨rfl, HR.out, hX⟩
theorem sortStable_any {lt : Nat → Nat → Bool} (hlt : Swo lt) (cl : FuncId) (capt : Array Value) (base : Nat) (A : Option Addr) (cap N : Nat) (w : World) (hc : CmpS cl capt lt N base w) (hbw : base ≤ w.heap.size) (h : Wr base w A cap (List.range N)) (hs : N ≤ 100000) :
    Calls Tryz.prog 151 #[.slice A N cap, .func (.func cl) #[] capt] w fun e w' => e = .returned (.tuple #[]) ∧ Wr base w' A cap (sortN lt N) ∧ Below base w w' := by
  have hcall := stable_any hlt cl capt base A cap N w hc hbw h hs
  clear h hc
  go_enter Tryz.func151, Tryz.ntmps151
  go_wp2_with (go_at_call 177; refine hcall.mono ?_; rintro e w' ⟨rfl, hw, hb'⟩)
  exact bodyPost_end (v := .tuple #[]) (by simp [results, Tryz.results151, go_sem]) rfl ⟨rfl, hw, hb'⟩
end Go.Proofs.YtmjmijjbijlhfaaGreatDoor
namespace Go.Proofs.YtmjmijjbijlhfaaGreatDoor
open Go.RowKit NM
theorem rng_zero (n : Nat) : rng 0 n = List.range n := by unfold rng; rw [List.range_eq_range', Nat.sub_zero]
set_option maxHeartbeats 2000000 in
theorem inOrder_any {lt : Nat → Nat → Bool} (hlt : Swo lt) (cl : FuncId) (capt : Array Value) (R : Nat) (w : World) (hR : R ≤ 4096)
    (ent : ∀ (args : Array Value) (W : World), (callFunc cl args).run Tryz.prog W = .ok (.enter cl args) W)
    (run : ∀ (i j : Nat) (W : World), i < R → j < R → Ext w W → Calls Tryz.prog cl (#[.int .i64 (i : Int), .int .i64 (j : Int)] ++ capt) W fun e W' => ∃ c : Int, e = .returned (.int .i64 c) ∧ decide (c < 0) = lt i j ∧ Ext W W') :
    Calls Tryz.prog 96 #[.int .i64 (R : Int), .func (.func cl) #[] capt] w fun e w' => (∃ A c, e = .returned (.slice A R c) ∧ Wr w.heap.size w' A c (sortN lt R)) ∧ Ext w w' := by
  have HC : Hid (∀ w1, Ext w w1 → CmpS cl capt lt R w.heap.size w1) := fun w1 hx => ⟨ent, fun i j W hi hj hW => run i j W hi hj (Below.trans hx hW)⟩
  have hrun := grun_any 0 R (by omega) (by omega) w
  rw [rng_zero] at hrun
  clear run ent
  go_enter Tryz.func96, Tryz.ntmps96
  go_wp2_with (first | (go_at_call 143; refine hrun.mono ?_; rintro e w1 ⟨v, rfl, hp, hx⟩; obtain ⟨A, c, rfl, hd, _⟩ := Dg.of_own (l := List.range R) (k := .i64) hp; have hl : (List.range R).length = R := List.length_range; rw [hl]; clear hp) | (go_at_call 151; refine (sortStable_any hlt cl capt w.heap.size A c R w1 (HC.out w1 hx) hx.size hd (by omega)).mono ?_; rintro e w2 ⟨rfl, hw, hb2⟩))
  exact bodyPost_ret (v := .slice A R c) (by simp [results, Tryz.results96, go_sem]) rfl ⟨⟨A, c, rfl, hw⟩, Below.trans hx hb2⟩
end Go.Proofs.YtmjmijjbijlhfaaGreatDoor
namespace Go.Proofs.YtmjmijjbijlhfaaGreatDoor
open Go.RowKit NM
set_option maxHeartbeats 8000000 in
theorem gsort_any (A : Option Addr) (n cap : Nat) (xs : List Ar) (w : World) (h : ArgsIn w A n cap xs) (h1 : 1 ≤ n) :
    Calls Tryz.prog 45 #[.slice A n cap] w fun e w' => ResA w (sortO xs) e w' := by
  obtain ⟨R, C, l, b1, off1, n1, cap1, b, off, x0, ha, rfl, ⟨v0, v1, v2⟩, _, hc1, _, _, _, hbl, _, _, _, harr, _⟩ := h.first h1
  have hxr : NA.right ⟨R, C, l⟩ := (h.all _ (List.mem_of_getElem? ha)).right
  have hcap := h.cap
  have hsm := h.small
  simp only [Nat.zero_mul, Nat.add_zero] at v0 v1 v2
  have hx0 : argN xs 0 = ⟨R, C, l⟩ := by unfold argN; rw [ha]
  obtain ⟨r1, r2, r3, r4, r5⟩ := rightA_nat.1 hxr
  simp only at r1 r2 r3 r4
  have hR4 : R ≤ 4096 := Nat.le_trans (Nat.le_mul_of_pos_right R r2) r3
  have hC4 : C ≤ 4096 := Nat.le_trans (Nat.le_mul_of_pos_left C r1) r3
  have n0 := fun W (hW : ArgsIn W (some ⟨b, off, none⟩) n cap xs) => gnumber_any _ n cap xs 1 1 W hW _ rfl
  have n2 := fun W (hW : ArgsIn W (some ⟨b, off, none⟩) n cap xs) => gnumber_any _ n cap xs 2 1 W hW _ rfl
  have i1 : I64 (numO xs 1 1).1 := numO_i64 h (by unfold I64; omega)
  have i2 : I64 (numO xs 2 1).1 := numO_i64 h (by unfold I64; omega)
  unfold sortO
  rw [hx0]
  generalize numO xs 1 1 = mm at *
  generalize numO xs 2 1 = kk at *
  obtain ⟨mi, mf⟩ := mm
  obtain ⟨ki, kf⟩ := kk
  simp only [show ((1 : Nat) : Int) = 1 from rfl, show ((2 : Nat) : Int) = 2 from rfl] at n0 n2
  have H := Lib.hid h
  have HA := Lib.hid harr
  clear h harr i1 i2 ha hx0 r4 r5
  obtain ⟨X, hX⟩ : ∃ X, sortT ⟨R, C, l⟩ (mi, mf) (ki, kf) = X := ⟨_, rfl⟩
  rw [hX]
  by_cases hmf : mf = 0
  · subst hmf
    by_cases hkf : kf = 0
    · subst hkf
      obtain ⟨bad, hbad⟩ : ∃ bad, decide (mi < 1 ∨ (C : Int) < mi ∨ (ki ≠ 1 ∧ ki ≠ -1)) = bad := ⟨_, rfl⟩
      have HX := Lib.hid hX
      have HB := Lib.hid hbad
      clear hX
      go_enter Tryz.func45, Tryz.ntmps45
      go_upto_region 8 with (first | (go_at_call 81; (with_reducible refine (n0 _ (H.out.ext (by with_reducible repeat (first | exact Ext.refl _ | apply Ext.drew | apply Ext.alloc | apply Ext.more_)))).mono ?_); rintro e w' ⟨rfl, hb⟩; obtain ⟨osa, da, rfl⟩ := hb.more; clear hb) | (go_at_call 81; (with_reducible refine (n2 _ (H.out.ext (by with_reducible repeat (first | exact Ext.refl _ | apply Ext.drew | apply Ext.alloc | apply Ext.more_)))).mono ?_); rintro e w' ⟨rfl, hb⟩; obtain ⟨osb, db, rfl⟩ := hb.more; clear hb))
      go_cut [3, 4, 6, 43] (fun s3 s4 s6 s43 wx => ∃ pa pb pw : Nat, s3 = .pointer (some ⟨pa, 0, none⟩) ∧ s4 = .pointer (some ⟨pb, 0, none⟩) ∧ s6 = .pointer (some ⟨pw, 0, none⟩) ∧ s43 = .bool bad ∧ Ext w wx ∧ w.heap.size + 1 ≤ wx.heap.size ∧ wx.cell? ⟨pa, 0, none⟩ = some (.int .i64 (R : Int)) ∧ wx.cell? ⟨pa, 1, none⟩ = some (.int .i64 (C : Int)) ∧ wx.cell? ⟨pa, 2, none⟩ = some (.slice (some ⟨b1, off1, none⟩) n1 cap1) ∧ wx.cell? ⟨pb, 0, none⟩ = some (.int .i64 mi) ∧ wx.cell? ⟨pw, 0, none⟩ = some (.int .i64 ki) ∧ Hid (∃ os d, wx = more (w.alloc (Obj.cells #[.int .i64 0, .int .i64 0, .slice none 0 0] 31)) os d))
      case first =>
        by_cases q1 : mi < 1
        · obtain rfl : true = bad := by rw [← hbad]; simp [q1]
          clear hbad
          (go_wp2_with fail; go_meet; refine ⟨_, _, _, rfl, rfl, rfl, rfl, by with_reducible repeat (first | exact Ext.refl _ | apply Ext.drew | apply Ext.alloc | apply Ext.more_), by simp; omega, ?_, ?_, ?_, ?_, ?_, (show Ext (w.alloc (Obj.cells #[.int .i64 0, .int .i64 0, .slice none 0 0] 31)) _ from (by with_reducible repeat (first | exact Ext.refl _ | apply Ext.drew | apply Ext.alloc | apply Ext.more_))).more⟩; all_goals (simp [go_sem]; done))
        · by_cases q2 : (C : Int) < mi
          · obtain rfl : true = bad := by rw [← hbad]; simp [q2]
            clear hbad
            (go_wp2_with fail; go_meet; refine ⟨_, _, _, rfl, rfl, rfl, rfl, by with_reducible repeat (first | exact Ext.refl _ | apply Ext.drew | apply Ext.alloc | apply Ext.more_), by simp; omega, ?_, ?_, ?_, ?_, ?_, (show Ext (w.alloc (Obj.cells #[.int .i64 0, .int .i64 0, .slice none 0 0] 31)) _ from (by with_reducible repeat (first | exact Ext.refl _ | apply Ext.drew | apply Ext.alloc | apply Ext.more_))).more⟩; all_goals (simp [go_sem]; done))
          · by_cases q3 : ki = 1
            · have q3' : (ki != 1) = false := by simpa using q3
              obtain rfl : false = bad := by rw [← hbad]; simp [q1, q2, q3]
              clear hbad q3
              (go_wp2_with fail; go_meet; refine ⟨_, _, _, rfl, rfl, rfl, rfl, by with_reducible repeat (first | exact Ext.refl _ | apply Ext.drew | apply Ext.alloc | apply Ext.more_), by simp; omega, ?_, ?_, ?_, ?_, ?_, (show Ext (w.alloc (Obj.cells #[.int .i64 0, .int .i64 0, .slice none 0 0] 31)) _ from (by with_reducible repeat (first | exact Ext.refl _ | apply Ext.drew | apply Ext.alloc | apply Ext.more_))).more⟩; all_goals (simp [go_sem]; done))
            · have q3' : (ki != 1) = true := by simpa using q3
              by_cases q4 : ki = -1
              · have q4' : (ki != -1) = false := by simpa using q4
                obtain rfl : false = bad := by rw [← hbad]; simp [q1, q2, q3, q4]
                clear hbad q3 q4
                (go_wp2_with fail; go_meet; refine ⟨_, _, _, rfl, rfl, rfl, rfl, by with_reducible repeat (first | exact Ext.refl _ | apply Ext.drew | apply Ext.alloc | apply Ext.more_), by simp; omega, ?_, ?_, ?_, ?_, ?_, (show Ext (w.alloc (Obj.cells #[.int .i64 0, .int .i64 0, .slice none 0 0] 31)) _ from (by with_reducible repeat (first | exact Ext.refl _ | apply Ext.drew | apply Ext.alloc | apply Ext.more_))).more⟩; all_goals (simp [go_sem]; done))
              · have q4' : (ki != -1) = true := by simpa using q4
                obtain rfl : true = bad := by rw [← hbad]; simp [q1, q2, q3, q4]
                clear hbad q3 q4
                (go_wp2_with fail; go_meet; refine ⟨_, _, _, rfl, rfl, rfl, rfl, by with_reducible repeat (first | exact Ext.refl _ | apply Ext.drew | apply Ext.alloc | apply Ext.more_), by simp; omega, ?_, ?_, ?_, ?_, ?_, (show Ext (w.alloc (Obj.cells #[.int .i64 0, .int .i64 0, .slice none 0 0] 31)) _ from (by with_reducible repeat (first | exact Ext.refl _ | apply Ext.drew | apply Ext.alloc | apply Ext.more_))).more⟩; all_goals (simp [go_sem]; done))
      case rest =>
      clear hbad v0 v1 v2 n0 n2
      obtain ⟨pa, pb, pw, rfl, rfl, rfl, rfl, hx, hsz, c0, c1, c2, c3, c4, HU⟩ := hcut
      have la := lt_of_cell c0
      have lb := lt_of_cell c3
      have lw := lt_of_cell c4
      cases bad with
      | true =>
        obtain rfl : aloneO 2 = X := by
          rw [← HX.out]; unfold sortT
          rw [if_neg (by simp), if_neg (by simp), if_pos]
          have := HB.out
          exact of_decide_eq_true this
        go_wp2_with ((go_at_call 29; (with_reducible refine (galone_any _ _).mono ?_); rintro e w' ⟨D, m, cc, rfl, hD, hb⟩; obtain ⟨os5, d5, rfl⟩ := hb.more; clear hb; have hDr := hD.rd); obtain ⟨osu, du, rfl⟩ := HU.out)
        exact bodyPost_ret (v := AV (aloneO 2).R (aloneO 2).C (.slice D m cc)) (by simp [results, Tryz.results45, go_sem]) rfl ⟨D, m, cc, rfl, ⟨(by (try simp only [more_alloc, more_more] at hDr); (try simp only [more_alloc, more_more]); (try simp only [drew_more] at hDr); (try simp only [more_drew] at hDr); (try simp only [Array.append_assoc] at hDr); (try simp only [Array.append_assoc]); exact Rd.swap hDr (by first | (simp; done) | (simp; omega) | omega) (by first | (simp; done) | (simp; omega) | omega) (by first | (simp; done) | (simp; omega) | omega)), hD.len, hD.cap, hD.small, hD.ok⟩, by with_reducible repeat (first | exact Ext.refl _ | apply Ext.drew | apply Ext.alloc | apply Ext.more_)⟩
      | false =>
        have hgood := of_decide_eq_false HB.out
        obtain ⟨bb, rfl⟩ : ∃ bb : Nat, mi = bb := ⟨mi.toNat, by omega⟩
        have hb1 : 1 ≤ bb := by omega
        have hb2 : bb ≤ C := by omega
        have hway : ki = 1 ∨ ki = -1 := by omega
        have hXe : rowsN ⟨R, C, l⟩ (sortN (ltS ⟨R, C, l⟩ (bb - 1) (decide (ki = -1))) R) = X := by
          rw [← HX.out]; unfold sortT
          rw [if_neg (by simp), if_neg (by simp), if_neg hgood]
          rfl
        have hsw : Swo (ltS ⟨R, C, l⟩ (bb - 1) (decide (ki = -1))) := ltS_swo (rightA_nat.1 hxr).2.2.2.2 _ _
        have hl : (sortN (ltS ⟨R, C, l⟩ (bb - 1) (decide (ki = -1))) R).length = R := sortN_length _ _
        have hPl : PlOk (sortN (ltS ⟨R, C, l⟩ (bb - 1) (decide (ki = -1))) R) R := ⟨by omega, by omega, sortN_lt hsw⟩
        have hio := fun W (hW : Ext wc W) => inOrder_any hsw 97 #[.pointer (some ⟨pa, 0, none⟩), .pointer (some ⟨pb, 0, none⟩), .pointer (some ⟨pw, 0, none⟩)] R W hR4 (fun args W => by go_simp)
          (fun i j W' hi hj hW' => srt1_any ⟨R, C, l⟩ (some ⟨b1, off1, none⟩) n1 cap1 pa pb pw bb i j ki W' (HA.out.ext (hx.trans (hW.trans hW'))) hxr hi hj ((hW.trans hW').cell_some c1) ((hW.trans hW').cell_some c2) ((hW.trans hW').cell_some c3) ((hW.trans hW').cell_some c4) hb1 hb2 hway)
        have hro := fun W B cb (hW : ArrIn W (some ⟨b1, off1, none⟩) n1 cap1 l) hB hcb => rowsOf_pl ⟨R, C, l⟩ _ n1 cap1 _ B cb W hW hxr hB hcb hPl
        rw [hXe, hl] at hro
        have HIO := Lib.hid hio
        have HRO := Lib.hid hro
        have HL := Lib.hid hl
        clear hio hro hl hPl hsw hXe hgood hway hb1 hb2 HX HB hxr
        go_upto_region 10 with fail
        refine wp_plan (S := Ext _) [(0, 0), (1, 0), (2, 0), (3, 0), (4, 1), (5, 1), (6, 2)] [6] (by kernel_rfl) (by kernel_rfl) (by kernel_rfl) (fun _ _ d _ _ h => by cases d <;> exact h) (Ext.drew (Ext.refl _)) ?_
        iterate 4 ((refine wpPl_read (v := ?_) rfl ?_ (fun _ h => ?_) ?_; rotate_left 1; rfl; (obtain ⟨_, _, rfl⟩ := h.more; go_simp; try rfl)); try simp only [Act.put, zqA, zqB, zqC])
        (refine wpPl_eff rfl ?_ (fun K hK => ?_); rfl; go_simp; refine (HIO.out _ (by with_reducible repeat (first | exact Ext.refl _ | apply Ext.drew | apply Ext.alloc | apply Ext.more_))).mono ?_; rintro e w' ⟨⟨B1, cb1, rfl, hB1⟩, hb⟩; have hB2 := Rd.mono (Dg.rd hB1) (Nat.zero_le _); have hcb1 := hB1.1; rw [HL.out] at hcb1; obtain ⟨os1, d1, rfl⟩ := hb.more; clear hb hB1; (try simp only [more_more, drew_more, more_drew, Array.append_assoc] at hB2); refine hK _ _ ?_ ?_; (repeat (first | (with_reducible (first | exact Ext.refl _ | exact ext_d _ _ _ _ | exact ext_app _ _ _ _ _ | exact ext_app2 _ _ _ _ _ _ | exact ext_app3 _ _ _ _ _ _ _ | exact ext_app4 _ _ _ _ _ _ _ _ | exact ext_app5 _ _ _ _ _ _ _ _ _)) | ((with_reducible refine ext_suffix ⟨_, ?_⟩); (try simp only [Array.append_assoc]); rfl) | (with_reducible (first | apply Ext.drew | apply Ext.alloc | apply Ext.more_)) | apply Ext.drew | apply Ext.alloc | apply Ext.more_)))
        try simp only [Act.put, zqA, zqB, zqC]
        (refine wpPl_eff rfl ?_ (fun K hK => ?_); rfl; go_simp; refine (HRO.out _ B1 cb1 (HA.out.ext (hx.trans (by with_reducible repeat (first | exact Ext.refl _ | apply Ext.drew | apply Ext.alloc | apply Ext.more_)))) hB2 hcb1).mono ?_; rintro e w' ⟨D, m, cc, rfl, hD, hb⟩; obtain ⟨os4, d4, rfl⟩ := hb.more; clear hb hB2; obtain ⟨osu, du, rfl⟩ := HU.out; have hDr := hD.rd; refine hK _ _ ?_ ?_; (repeat (first | (with_reducible (first | exact Ext.refl _ | exact ext_d _ _ _ _ | exact ext_app _ _ _ _ _ | exact ext_app2 _ _ _ _ _ _ | exact ext_app3 _ _ _ _ _ _ _ | exact ext_app4 _ _ _ _ _ _ _ _ | exact ext_app5 _ _ _ _ _ _ _ _ _)) | ((with_reducible refine ext_suffix ⟨_, ?_⟩); (try simp only [Array.append_assoc]); rfl) | (with_reducible (first | apply Ext.drew | apply Ext.alloc | apply Ext.more_)) | apply Ext.drew | apply Ext.alloc | apply Ext.more_)))
        try simp only [Act.put, zqA, zqB, zqC]
        (refine wpPl_tail rfl ?_ (fun K hK => ?_); rfl; go_simp; refine hK _ _ ?_)
        try simp only [Act.put]
        refine wpPl_nil ?_
        go_wp2_with fail
        exact bodyPost_ret (v := AV X.R X.C (.slice D m cc)) (by simp [results, Tryz.results45, go_sem]) rfl ⟨D, m, cc, rfl, ⟨(by (try simp only [more_alloc, more_more] at hDr); (try simp only [more_alloc, more_more]); (try simp only [drew_more] at hDr); (try simp only [more_drew] at hDr); (try simp only [Array.append_assoc] at hDr); (try simp only [Array.append_assoc]); exact Rd.swap hDr (by first | (simp; done) | (simp; omega) | omega) (by first | (simp; done) | (simp; omega) | omega) (by first | (simp; done) | (simp; omega) | omega)), hD.len, hD.cap, hD.small, hD.ok⟩, by with_reducible repeat (first | exact Ext.refl _ | apply Ext.drew | apply Ext.alloc | apply Ext.more_)⟩
    · obtain rfl : aloneO kf = X := by rw [← hX]; unfold sortT; rw [if_neg (by simp), if_pos hkf]
      have hf' : (kf != 0) = true := by simpa using hkf
      clear hX hkf
      go_enter Tryz.func45, Tryz.ntmps45
      go_wp2_with (first | (first | (go_at_call 81; (with_reducible refine (n0 _ (H.out.ext (by with_reducible repeat (first | exact Ext.refl _ | apply Ext.drew | apply Ext.alloc | apply Ext.more_)))).mono ?_); rintro e w' ⟨rfl, hb⟩; obtain ⟨osa, da, rfl⟩ := hb.more; clear hb) | (go_at_call 81; (with_reducible refine (n2 _ (H.out.ext (by with_reducible repeat (first | exact Ext.refl _ | apply Ext.drew | apply Ext.alloc | apply Ext.more_)))).mono ?_); rintro e w' ⟨rfl, hb⟩; obtain ⟨osb, db, rfl⟩ := hb.more; clear hb)) | (go_at_call 29; (with_reducible refine (galone_any _ _).mono ?_); rintro e w' ⟨D, m, cc, rfl, hD, hb⟩; obtain ⟨os5, d5, rfl⟩ := hb.more; clear hb; have hDr := hD.rd))
      exact bodyPost_ret (v := AV (aloneO kf).R (aloneO kf).C (.slice D m cc)) (by simp [results, Tryz.results45, go_sem]) rfl ⟨D, m, cc, rfl, ⟨(by (try simp only [more_alloc, more_more] at hDr); (try simp only [more_alloc, more_more]); (try simp only [drew_more] at hDr); (try simp only [more_drew] at hDr); (try simp only [Array.append_assoc] at hDr); (try simp only [Array.append_assoc]); exact Rd.swap hDr (by first | (simp; done) | (simp; omega) | omega) (by first | (simp; done) | (simp; omega) | omega) (by first | (simp; done) | (simp; omega) | omega)), hD.len, hD.cap, hD.small, hD.ok⟩, by with_reducible repeat (first | exact Ext.refl _ | apply Ext.drew | apply Ext.alloc | apply Ext.more_)⟩
  · obtain rfl : aloneO mf = X := by rw [← hX]; unfold sortT; rw [if_pos hmf]
    have hf' : (mf != 0) = true := by simpa using hmf
    clear hX hmf
    go_enter Tryz.func45, Tryz.ntmps45
    go_wp2_with (first | (go_at_call 81; (with_reducible refine (n0 _ (H.out.ext (by with_reducible repeat (first | exact Ext.refl _ | apply Ext.drew | apply Ext.alloc | apply Ext.more_)))).mono ?_); rintro e w' ⟨rfl, hb⟩; obtain ⟨osa, da, rfl⟩ := hb.more; clear hb) | (go_at_call 29; (with_reducible refine (galone_any _ _).mono ?_); rintro e w' ⟨D, m, cc, rfl, hD, hb⟩; obtain ⟨os5, d5, rfl⟩ := hb.more; clear hb; have hDr := hD.rd))
    exact bodyPost_ret (v := AV (aloneO mf).R (aloneO mf).C (.slice D m cc)) (by simp [results, Tryz.results45, go_sem]) rfl ⟨D, m, cc, rfl, ⟨(by (try simp only [more_alloc, more_more] at hDr); (try simp only [more_alloc, more_more]); (try simp only [drew_more] at hDr); (try simp only [more_drew] at hDr); (try simp only [Array.append_assoc] at hDr); (try simp only [Array.append_assoc]); exact Rd.swap hDr (by first | (simp; done) | (simp; omega) | omega) (by first | (simp; done) | (simp; omega) | omega) (by first | (simp; done) | (simp; omega) | omega)), hD.len, hD.cap, hD.small, hD.ok⟩, by with_reducible repeat (first | exact Ext.refl _ | apply Ext.drew | apply Ext.alloc | apply Ext.more_)⟩
end Go.Proofs.YtmjmijjbijlhfaaGreatDoor
namespace Go.Proofs
open Go.Shelf
def Tryz.laysSlM5_f102_ren : Go.Shelf.Ren := ⟨fun | 5 => 102 | 8 => 77 | 7 => 153 | 19 => 136 | 20 => 137 | 10 => 182 | 11 => 183 | 12 => 184 | 13 => 185 | 14 => 186 | 15 => 187 | 16 => 188 | 17 => 189 | 18 => 190 | 30 => 205 | 31 => 163 | 32 => 164 | 33 => 206 | 34 => 207 | 35 => 208 | 40 => 216 | n => n, fun | 23 => 37 | 25 => 3 | 3 => 3 | 32 => 48 | 22 => 37 | 0 => 0 | 44 => 132 | 46 => 47 | 4 => 4 | 36 => 125 | 35 => 124 | 41 => 101 | 5 => 5 | 9 => 9 | 53 => 149 | 57 => 153 | 63 => 178 | 64 => 75 | n => n, fun | n => n⟩
theorem Tryz.laysSlM5_f102 : Go.Proofs.SlLaysM.n5 Tryz.prog Tryz.laysSlM5_f102_ren := {
  mixed := by kernel_rfl
  f5 := ⟨Tryz.f102.name, by decide, Tryz.func102.trans (congrArg some (by kernel_rfl))⟩
  f7 := ⟨Tryz.f153.name, by decide, Tryz.func153.trans (congrArg some (by kernel_rfl))⟩
  f8 := Tryz.func77.trans (congrArg some (by kernel_rfl))
  f10 := ⟨Tryz.f182.name, by decide, Tryz.func182.trans (congrArg some (by kernel_rfl))⟩
  f11 := ⟨Tryz.f183.name, by decide, Tryz.func183.trans (congrArg some (by kernel_rfl))⟩
  f12 := ⟨Tryz.f184.name, by decide, Tryz.func184.trans (congrArg some (by kernel_rfl))⟩
  f13 := ⟨Tryz.f185.name, by decide, Tryz.func185.trans (congrArg some (by kernel_rfl))⟩
  f14 := ⟨Tryz.f186.name, by decide, Tryz.func186.trans (congrArg some (by kernel_rfl))⟩
  f15 := ⟨Tryz.f187.name, by decide, Tryz.func187.trans (congrArg some (by kernel_rfl))⟩
  f16 := ⟨Tryz.f188.name, by decide, Tryz.func188.trans (congrArg some (by kernel_rfl))⟩
  f17 := ⟨Tryz.f189.name, by decide, Tryz.func189.trans (congrArg some (by kernel_rfl))⟩
  f18 := ⟨Tryz.f190.name, by decide, Tryz.func190.trans (congrArg some (by kernel_rfl))⟩
  f19 := Tryz.func136.trans (congrArg some (by kernel_rfl))
  f20 := Tryz.func137.trans (congrArg some (by kernel_rfl))
  f30 := ⟨Tryz.f205.name, by decide, Tryz.func205.trans (congrArg some (by kernel_rfl))⟩
  f31 := Tryz.func163.trans (congrArg some (by kernel_rfl))
  f32 := Tryz.func164.trans (congrArg some (by kernel_rfl))
  f33 := ⟨Tryz.f206.name, by decide, Tryz.func206.trans (congrArg some (by kernel_rfl))⟩
  f34 := ⟨Tryz.f207.name, by decide, Tryz.func207.trans (congrArg some (by kernel_rfl))⟩
  f35 := ⟨Tryz.f208.name, by decide, Tryz.func208.trans (congrArg some (by kernel_rfl))⟩
  f40 := ⟨Tryz.f216.name, by decide, Tryz.func216.trans (congrArg some (by kernel_rfl))⟩
  t0 := Tryz.underlying0
  a0 := Tryz.isAgg0
  z0 := Tryz.sizeOf0
  v0 := Tryz.zeroValue0
  t3 := Tryz.underlying3
  a3 := Tryz.isAgg3
  z3 := Tryz.sizeOf3
  v3 := Tryz.zeroValue3
  t4 := Tryz.underlying4
  a4 := Tryz.isAgg4
  z4 := Tryz.sizeOf4
  v4 := Tryz.zeroValue4
  t5 := Tryz.underlying5
  a5 := Tryz.isAgg5
  z5 := Tryz.sizeOf5
  v5 := Tryz.zeroValue5
  t9 := Tryz.underlying9
  a9 := Tryz.isAgg9
  z9 := Tryz.sizeOf9
  v9 := Tryz.zeroValue9
  t22 := Tryz.underlying37
  a22 := Tryz.isAgg37
  z22 := Tryz.sizeOf37
  v22 := Tryz.zeroValue37
  t23 := Tryz.underlying37
  a23 := Tryz.isAgg37
  z23 := Tryz.sizeOf37
  v23 := Tryz.zeroValue37
  t25 := Tryz.underlying3
  a25 := Tryz.isAgg3
  z25 := Tryz.sizeOf3
  v25 := Tryz.zeroValue3
  t32 := Tryz.underlying48
  a32 := Tryz.isAgg48
  z32 := Tryz.sizeOf48
  v32 := Tryz.zeroValue48
  t35 := Tryz.underlying124
  a35 := Tryz.isAgg124
  z35 := Tryz.sizeOf124
  v35 := Tryz.zeroValue124
  t36 := Tryz.underlying125
  a36 := Tryz.isAgg125
  z36 := Tryz.sizeOf125
  v36 := Tryz.zeroValue125
  t41 := Tryz.underlying101
  a41 := Tryz.isAgg101
  z41 := Tryz.sizeOf101
  v41 := Tryz.zeroValue101
  t44 := Tryz.underlying132
  a44 := Tryz.isAgg132
  z44 := Tryz.sizeOf132
  v44 := Tryz.zeroValue132
  t46 := Tryz.underlying47
  a46 := Tryz.isAgg47
  z46 := Tryz.sizeOf47
  v46 := Tryz.zeroValue47
  t53 := Tryz.underlying149
  a53 := Tryz.isAgg149
  z53 := Tryz.sizeOf149
  v53 := Tryz.zeroValue149
  t57 := Tryz.underlying153
  a57 := Tryz.isAgg153
  z57 := Tryz.sizeOf153
  v57 := Tryz.zeroValue153
  t63 := Tryz.underlying178
  a63 := Tryz.isAgg178
  z63 := Tryz.sizeOf178
  v63 := Tryz.zeroValue178
  t64 := Tryz.underlying75
  a64 := Tryz.isAgg75
  z64 := Tryz.sizeOf75
  v64 := Tryz.zeroValue75 }
open Go.Sort Go.RowKit in
theorem Tryz.slices_Sort_int (blk off cap : Nat) (zs : List Int) (w : World) (hH : Holds (Value.int .i64) w blk off zs.toArray) (hblk : blk < w.heap.size) (hsz : zs.length < 4611686018427387904) :
    Calls Tryz.prog 102 #[.slice (some ⟨blk, off, none⟩) zs.length cap] w fun e w' =>
      e = .returned (.tuple #[]) ∧ ∃ n os, w' = grow (putRow (Value.int .i64) (Sort.ahead w n) blk off (zs.mergeSort fun x y => decide (x ≤ y)).toArray) os := AnyM.slices_Sort_int Tryz.laysSlM5_f102 blk off cap zs w hH hblk hsz
end Go.Proofs
namespace Go.Proofs.YtmjmijjbijlhfaaGreatDoor
open Go.RowKit NM
theorem cell_putCells {cur : Array Value} {S : List Nat} {off j x : Nat} {y : Value} (h : S[j]? = some x) (hc : cur[off + j]? = some y) : (Go.Sort.putCells (Value.int .i64) off (S.map fun d : Nat => (d : Int)).toArray cur)[off + j]? = some (.int .i64 (x : Int)) := by
  have hj : j < S.length := (List.getElem?_eq_some_iff.1 h).1
  have hx : S[j] = x := (List.getElem?_eq_some_iff.1 h).2
  simp only [Go.Sort.putCells, Array.getElem?_mapIdx, hc, Option.map_some]
  rw [if_pos ⟨by omega, by simp; omega⟩, Nat.add_sub_cancel_left]
  simp [hj, hx]
theorem heap_putRow {w : World} {g off n : Nat} {os : Array Obj} {cur : Array Value} {e : TypeId} (d : Array Int) (hb : w.heap[g]? = some (.cells cur e (0, 0))) :
    (Go.Sort.grow (Go.Sort.putRow (Value.int .i64) (Go.Sort.ahead w n) g off d) os).heap[g]? = some (.cells (Go.Sort.putCells (Value.int .i64) off d cur) e (0, 0)) := by
  have hg : g < w.heap.size := lt_block hb
  rw [Go.Sort.heap_grow_old _ _ (by simpa using hg)]
  simp [Go.Sort.putRow, Go.Sort.mapBlock, Go.Sort.ahead, Array.getElem?_modify, hb, Go.Sort.onCells]
theorem below_putRow {base : Nat} {w : World} {g off n : Nat} {os : Array Obj} (d : Array Int) (hb : base ≤ g) (hw : base ≤ w.heap.size) : Below base w (Go.Sort.grow (Go.Sort.putRow (Value.int .i64) (Go.Sort.ahead w n) g off d) os) := by
  refine ⟨rfl, rfl, rfl, by simp, fun k hk => ?_⟩
  rw [Go.Sort.heap_grow_old _ _ (by simp; omega)]
  simp [Go.Sort.putRow, Go.Sort.mapBlock, Go.Sort.ahead, Array.getElem?_modify, show g ≠ k by omega]
theorem sortInt_any (base : Nat) (A : Option Addr) (cap : Nat) (l : List Nat) (w : World) (h : Wr base w A cap l) (hs : l.length ≤ 100000) (h0 : l ≠ []) :
    Calls Tryz.prog 102 #[.slice A l.length cap] w fun e w' => e = .returned (.tuple #[]) ∧ (∃ S : List Nat, S.Perm l ∧ S.Pairwise (· ≤ ·) ∧ Wr base w' A cap S) ∧ Below base w w' := by
  obtain ⟨hc, h1 | ⟨b, off, cur, rfl, hb, hh, hcells⟩⟩ := h
  · exact absurd h1 h0
  have hH : Go.Sort.Holds (Value.int .i64) w b off (l.map fun d : Nat => (d : Int)).toArray := by
    intro j hj
    have hj' : j < l.length := by simpa using hj
    have hx := hcells j l[j] (List.getElem?_eq_getElem hj')
    refine ⟨?_, by simp [World.frozen?, hh]⟩
    simp [World.cell?, hh, hx, hj']
  have hlb := lt_block hh
  have hcall := Tryz.slices_Sort_int b off cap (l.map fun d : Nat => (d : Int)) w hH hlb (by simp; omega)
  rw [List.length_map] at hcall
  refine hcall.mono ?_
  rintro e w' ⟨rfl, n, os, rfl⟩
  have hm : ((l.map fun d : Nat => (d : Int)).mergeSort fun x y => decide (x ≤ y)) = (l.mergeSort fun x y => decide (x ≤ y)).map fun d : Nat => (d : Int) :=
    (List.map_mergeSort (fun a _ b _ => by rw [decide_eq_decide]; exact Int.ofNat_le.symm)).symm
  rw [hm]
  have hp : (l.mergeSort fun x y => decide (x ≤ y)).Perm l := List.mergeSort_perm _ _
  have hsd : (l.mergeSort fun x y => decide (x ≤ y)).Pairwise (· ≤ ·) := by
    have := List.pairwise_mergeSort (le := fun x y : Nat => decide (x ≤ y)) (by intro a b c; simp; omega) (by intro a b; simp; omega) l
    exact this.imp fun h => by simpa using h
  generalize (l.mergeSort fun x y => decide (x ≤ y)) = S at *
  have hl := hp.length_eq
  refine ⟨rfl, ⟨S, hp, hsd, by rw [hl]; exact hc, Or.inr ⟨b, off, _, rfl, hb, heap_putRow _ hh, fun j d hd => ?_⟩⟩, below_putRow _ hb (Nat.le_trans hb (Nat.le_of_lt hlb))⟩
  have hj : j < l.length := by rw [← hl]; exact (List.getElem?_eq_some_iff.1 hd).1
  exact cell_putCells hd (hcells j l[j] (List.getElem?_eq_getElem hj))
end Go.Proofs.YtmjmijjbijlhfaaGreatDoor
namespace Go.Proofs.YtmjmijjbijlhfaaGreatDoor
open Go.RowKit NM
def neU (a : NA) (i j : Nat) : Bool := decide (lexO (rowV a i) (rowV a j) ≠ 0)
theorem neU_or (a : NA) (i j : Nat) : neU a i j = (ltU a i j || ltU a j i) := by
  unfold neU ltU
  rw [lexO_flip (rowV a i) (rowV a j)]
  rcases Int.lt_trichotomy (lexO (rowV a i) (rowV a j)) 0 with h | h | h <;> simp [h] <;> omega
/-- The first ones, as the program holds them on its way: the head of the list itself, or a list of its own. -/
def Fsts (base : Nat) (w : World) (v : Value) (A : Option Addr) (p : Nat) (F : List Nat) : Prop := (v = .slice A 1 1 ∧ F = [p]) ∨ w.ownsRow base 3 1 v F.length (i6 F)
theorem Fsts.ext {base : Nat} {w w' : World} {v : Value} {A : Option Addr} {p : Nat} {F : List Nat} (h : Fsts base w v A p F) (hx : Ext w w') : Fsts base w' v A p F := h.imp id fun h => own_ext h hx
theorem Fsts.wr {base base' : Nat} {w : World} {v : Value} {A : Option Addr} {c p : Nat} {F l : List Nat} (h : Fsts base w v A p F) (hb : base' ≤ base) (hl : Wr base' w A c l) (hp : l[0]? = some p) : ∃ B cb, v = .slice B F.length cb ∧ Wr base' w B cb F := by
  rcases h with ⟨rfl, rfl⟩ | h
  · refine ⟨A, 1, rfl, ?_⟩
    have h1 := Dg.take hl 1 1 (Nat.le_refl _)
    have e : l.take 1 = [p] := by cases l with
      | nil => simp at hp
      | cons x l => simp at hp; simp [hp]
    rwa [e] at h1
  · obtain ⟨B, cb, rfl, hd, _⟩ := Dg.of_own (l := F) (k := .i64) h
    exact ⟨B, cb, rfl, Dg.mono hd hb⟩
theorem own_low {w : World} {base base' size n : Nat} {ty : TypeId} {v : Value} {xs : List Value} (h : w.ownsRow base ty size v n xs) (hb : base' ≤ base) : w.ownsRow base' ty size v n xs :=
  ⟨h.1, h.2.imp id fun ⟨g, cap, cur, hv, hg, r⟩ => ⟨g, cap, cur, hv, Nat.le_trans hb hg, r⟩⟩
set_option maxHeartbeats 8000000 in
theorem gunique_any (A : Option Addr) (n cap : Nat) (xs : List Ar) (w : World) (h : ArgsIn w A n cap xs) (h1 : 1 ≤ n) :
    Calls Tryz.prog 53 #[.slice A n cap] w fun e w' => ResA w (uniqueO xs) e w' := by
  obtain ⟨R, C, l, b1, off1, n1, cap1, b, off, x0, ha, rfl, ⟨v0, v1, v2⟩, _, hc1, _, _, _, hbl, _, _, _, harr, _⟩ := h.first h1
  have hxr : NA.right ⟨R, C, l⟩ := (h.all _ (List.mem_of_getElem? ha)).right
  have hcap := h.cap
  have hsm := h.small
  simp only [Nat.zero_mul, Nat.add_zero] at v0 v1 v2
  have hx0 : argN xs 0 = ⟨R, C, l⟩ := by unfold argN; rw [ha]
  obtain ⟨r1, r2, r3, r4, r5⟩ := rightA_nat.1 hxr
  simp only at r1 r2 r3 r4
  have hR4 : R ≤ 4096 := Nat.le_trans (Nat.le_mul_of_pos_right R r2) r3
  unfold uniqueO
  rw [hx0]
  have HA := Lib.hid harr
  obtain ⟨X, hX⟩ : ∃ X, uniqueT ⟨R, C, l⟩ = X := ⟨_, rfl⟩
  rw [hX]
  have HX := Lib.hid hX
  obtain ⟨ps, hps⟩ : ∃ ps, sortN (ltU ⟨R, C, l⟩) R = ps := ⟨_, rfl⟩
  have hsw : Swo (ltU ⟨R, C, l⟩) := ltU_swo (rightA_nat.1 hxr).2.2.2.2
  have hpl : ps.length = R := by rw [← hps]; exact sortN_length _ _
  have hplt : ∀ r ∈ ps, r < R := by rw [← hps]; exact sortN_lt hsw
  have HPS := Lib.hid hps
  have HLT := Lib.hid hplt
  have HSW := Lib.hid hsw
  obtain ⟨i0, hi0, hz0, hz1, hz2⟩ := info_parts info_int_
  clear h harr ha hx0 r4 r5 hX hps hplt hsw r3
  go_enter Tryz.func53, Tryz.ntmps53
  go_upto_region 3 with fail
  refine wp_world fun U hU => ?_
  have hx : Ext w U := by rw [hU]; exact (by with_reducible repeat (first | exact Ext.refl _ | apply Ext.drew | apply Ext.alloc | apply Ext.more_))
  have hz : Ext (w.alloc (Obj.cells #[.int .i64 0, .int .i64 0, .slice none 0 0] 31)) U := by rw [hU]; exact (by with_reducible repeat (first | exact Ext.refl _ | apply Ext.drew | apply Ext.alloc | apply Ext.more_))
  have c0 : U.cell? ⟨w.heap.size + 1, 0, none⟩ = some (.int .i64 (R : Int)) := by rw [hU]; go_simp
  have c1 : U.cell? ⟨w.heap.size + 1, 1, none⟩ = some (.int .i64 (C : Int)) := by rw [hU]; go_simp
  have c2 : U.cell? ⟨w.heap.size + 1, 2, none⟩ = some (.slice (some ⟨b1, off1, none⟩) n1 cap1) := by rw [hU]; go_simp
  have la := lt_of_cell c0
  have HZ := Lib.hid hz
  clear hU v0 v1 v2 hz
  have hcl := fun (i j : Nat) (W : World) (hi : i < R) (hj : j < R) (hW : Ext U W) => unq1_any ⟨R, C, l⟩ (some ⟨b1, off1, none⟩) n1 cap1 (w.heap.size + 1) i j W (HA.out.ext (hx.trans hW)) hxr hi hj (hW.cell_some c1) (hW.cell_some c2)
  have hent : ∀ (args : Array Value) (W : World), (callFunc 101 args).run Tryz.prog W = .ok (.enter 101 args) W := fun args W => by go_simp
  have hio := inOrder_any HSW.out 101 #[.pointer (some ⟨w.heap.size + 1, 0, none⟩)] R U hR4 hent (fun i j W hi hj hW => (hcl i j W hi hj hW).mono (fun e W' hh => ⟨_, hh.1, rfl, hh.2⟩))
  rw [HPS.out] at hio
  have HCL := Lib.hid hcl
  have HXR := Lib.hid hxr
  clear hcl hxr
  go_upto_region 4 with (go_at_call 96; refine hio.mono ?_; rintro e w1 ⟨⟨A1, k1, rfl, hW1⟩, hx1⟩)
  clear hio
  obtain ⟨p0, hp0⟩ : ∃ p, ps[0]? = some p := ⟨_, List.getElem?_eq_getElem (by omega)⟩
  obtain ⟨bl, ol, rfl, hbl1, cp0, _⟩ := Dg.at hW1 hp0
  have hk1 : R ≤ k1 := by have := hW1.1; omega
  have hk2 : 1 ≤ k1 := by omega
  have hblw : bl < w1.heap.size := lt_of_cell cp0
  have HW1 := Lib.hid hW1
  have HX1 := Lib.hid hx1
  have HP0 := Lib.hid hp0
  have HPL := Lib.hid hpl
  have HC12 := Lib.hid (And.intro c1 c2)
  have hc0 := hx1.cell_some c0
  have hla := lt_of_cell hc0
  clear hW1 hx1 hp0 hpl cp0 c1 c2 hbl1
  go_wp2_with fail
  go_loopw [6, 7] (fun s6 s7 wr => ∃ (k : Nat) (F : List Nat), 1 ≤ k ∧ k ≤ R ∧ F.length ≤ k ∧ s7 = .int .i64 (k : Int) ∧ Hid (F = fstK (neU ⟨R, C, l⟩) ps (k - 1)) ∧ Hid (Fsts w1.heap.size wr s6 (some ⟨bl, ol, none⟩) p0 F) ∧ Ext w1 wr) (fun _ s7 _ => R - (intOf s7).toNat)
  case atStart =>
    refine ⟨1, [p0], Nat.le_refl _, r1, Nat.le_refl _, rfl, ?_, Or.inl ⟨rfl, rfl⟩, Ext.refl _⟩
    show [p0] = ps.take 1
    have := HP0.out
    cases ps with
    | nil => simp at this
    | cons x ps => simp at this; simp [this]
  case round =>
    obtain ⟨k, F, hk, hkR, hFk, rfl, HF, HV, hxr⟩ := hrel
    by_cases hlt : k < R
    · have hlt' : (k : Int) < (R : Int) := by omega
      obtain ⟨k', hk'⟩ : ∃ k', k - 1 = k' := ⟨_, rfl⟩
      have ek : IntKind.i64.wrap ((k : Int) - 1) = (k' : Int) := by rw [IntKind.wrap_i64]; omega
      have hpl := HPL.out
      obtain ⟨x, hx0⟩ : ∃ x, ps[k']? = some x := ⟨_, List.getElem?_eq_getElem (by omega)⟩
      obtain ⟨y, hy0⟩ : ∃ x, ps[k]? = some x := ⟨_, List.getElem?_eq_getElem (by omega)⟩
      have hxR : x < R := HLT.out x (List.mem_of_getElem? hx0)
      have hyR : y < R := HLT.out y (List.mem_of_getElem? hy0)
      have hWr := HW1.out.of_ext hxr
      obtain ⟨bl', ol', e, _, cx, _⟩ := Dg.at hWr hx0
      simp only [Option.some.injEq, Addr.mk.injEq, and_true] at e
      obtain ⟨rfl, rfl⟩ := e
      obtain ⟨bl', ol', e, _, cy, _⟩ := Dg.at hWr hy0
      simp only [Option.some.injEq, Addr.mk.injEq, and_true] at e
      obtain ⟨rfl, rfl⟩ := e
      have hb2 : bl < wr.heap.size := lt_of_cell cx
      have hkk : k' < R := by omega
      have hcall := fun (W : World) (hW : Ext wr W) => HCL.out x y W hxR hyR (HX1.out.trans (hxr.trans hW))
      have hstep : fstK (neU ⟨R, C, l⟩) ps k = fstK (neU ⟨R, C, l⟩) ps k' ++ if neU ⟨R, C, l⟩ x y then [y] else [] := by
        have e : k = k' + 1 := by omega
        rw [e] at hy0 ⊢
        show fstK _ _ _ ++ (if neU _ (ps.getD k' 0) (ps.getD (k' + 1) 0) then [ps.getD (k' + 1) 0] else []) = _
        simp [List.getD, hx0, hy0]
      have hFe : F = fstK (neU ⟨R, C, l⟩) ps k' := by rw [← hk']; exact HF.out
      by_cases hzz : lexO (rowV ⟨R, C, l⟩ x) (rowV ⟨R, C, l⟩ y) = 0
      · have HF2 : Hid (F = fstK (neU ⟨R, C, l⟩) ps (k + 1 - 1)) := by
          show F = _
          rw [Nat.add_sub_cancel, hstep, hFe]
          simp [neU, hzz]
        rw [hzz] at hcall
        clear hzz hstep hFe hx0 hy0 hk' hpl hxR hyR hWr
        go_upto_region 8 with fail
        refine wp_plan (S := Ext _) [(0, 0), (1, 0), (2, 0), (3, 0), (4, 0), (5, 0), (6, 0), (7, 0), (8, 0), (9, 0), (10, 1), (11, 0)] [] (by kernel_rfl) (by kernel_rfl) (by kernel_rfl) (fun _ _ d _ _ h => by cases d <;> exact h) (Ext.drew (Ext.refl _)) ?_
        iterate 10 ((refine wpPl_read (v := ?_) rfl ?_ (fun _ h => ?_) ?_; rotate_left 1; rfl; (obtain ⟨_, _, rfl⟩ := h.more; go_simp; try rfl)); try simp only [Act.put, zqA, zqB, zqC])
        (refine wpPl_eff rfl ?_ (fun K hK => ?_); rfl; go_simp; refine (hcall _ (by with_reducible repeat (first | exact Ext.refl _ | apply Ext.drew | apply Ext.alloc | apply Ext.more_))).mono ?_; rintro e w' ⟨rfl, hb⟩; obtain ⟨os1, d1, rfl⟩ := hb.more; clear hb; refine hK _ _ ?_ ?_; (repeat (first | (with_reducible (first | exact Ext.refl _ | exact ext_d _ _ _ _ | exact ext_app _ _ _ _ _ | exact ext_app2 _ _ _ _ _ _ | exact ext_app3 _ _ _ _ _ _ _ | exact ext_app4 _ _ _ _ _ _ _ _ | exact ext_app5 _ _ _ _ _ _ _ _ _)) | ((with_reducible refine ext_suffix ⟨_, ?_⟩); (try simp only [Array.append_assoc]); rfl) | (with_reducible (first | apply Ext.drew | apply Ext.alloc | apply Ext.more_)) | apply Ext.drew | apply Ext.alloc | apply Ext.more_)))
        try simp only [Act.put, zqA, zqB, zqC]
        (refine wpPl_read (v := ?_) rfl ?_ (fun _ h => ?_) ?_; rotate_left 1; rfl; (obtain ⟨_, _, rfl⟩ := h.more; go_simp; try rfl))
        try simp only [Act.put, zqA, zqB, zqC]
        refine wpPl_nil ?_
        go_wp2_with fail
        exact ⟨⟨k + 1, F, by omega, by omega, by omega, by go_num, HF2, HV.out.ext (by with_reducible repeat (first | exact Ext.refl _ | apply Ext.drew | apply Ext.alloc | apply Ext.more_)), hxr.trans (by with_reducible repeat (first | exact Ext.refl _ | apply Ext.drew | apply Ext.alloc | apply Ext.more_))⟩, by simp [intOf]; omega⟩
      · have HF2 : Hid (F ++ [y] = fstK (neU ⟨R, C, l⟩) ps (k + 1 - 1)) := by
          show _ = _
          rw [Nat.add_sub_cancel, hstep, hFe]
          simp [neU, hzz]
        have hzz' : (lexO (rowV ⟨R, C, l⟩ x) (rowV ⟨R, C, l⟩ y) != 0) = true := by simpa using hzz
        generalize lexO (rowV ⟨R, C, l⟩ x) (rowV ⟨R, C, l⟩ y) = z at *
        clear hzz hstep hFe hx0 hy0 hk' hpl hxR hyR hWr
        have hsz := hxr.size
        rcases HV.out with ⟨rfl, rfl⟩ | ho
        · have hcp : w1.cell? ⟨bl, ol, none⟩ = some (.int .i64 (p0 : Int)) := by
            obtain ⟨bl', ol', e, _, cq, _⟩ := Dg.at HW1.out HP0.out
            simp only [Option.some.injEq, Addr.mk.injEq, and_true] at e
            obtain ⟨rfl, rfl⟩ := e
            simpa using cq
          have hrd : Hid (Rd 0 wr (some ⟨bl, ol, none⟩) [.int .i64 (p0 : Int)]) := fun j u hu => by
            cases j with
            | zero => obtain rfl : Value.int .i64 (p0 : Int) = u := by simpa using hu
                      exact ⟨bl, ol, rfl, Nat.zero_le _, hxr.cell_some hcp⟩
            | succ j => simp at hu
          clear hcp
          go_upto_region 8 with fail
          refine wp_plan (S := Ext _) [(0, 0), (1, 0), (2, 0), (3, 0), (4, 0), (5, 0), (6, 0), (7, 0), (8, 0), (9, 0), (10, 1), (11, 0)] [] (by kernel_rfl) (by kernel_rfl) (by kernel_rfl) (fun _ _ d _ _ h => by cases d <;> exact h) (Ext.drew (Ext.refl _)) ?_
          iterate 10 ((refine wpPl_read (v := ?_) rfl ?_ (fun _ h => ?_) ?_; rotate_left 1; rfl; (obtain ⟨_, _, rfl⟩ := h.more; go_simp; try rfl)); try simp only [Act.put, zqA, zqB, zqC])
          (refine wpPl_eff rfl ?_ (fun K hK => ?_); rfl; go_simp; refine (hcall _ (by with_reducible repeat (first | exact Ext.refl _ | apply Ext.drew | apply Ext.alloc | apply Ext.more_))).mono ?_; rintro e w' ⟨rfl, hb⟩; obtain ⟨os1, d1, rfl⟩ := hb.more; clear hb; refine hK _ _ ?_ ?_; (repeat (first | (with_reducible (first | exact Ext.refl _ | exact ext_d _ _ _ _ | exact ext_app _ _ _ _ _ | exact ext_app2 _ _ _ _ _ _ | exact ext_app3 _ _ _ _ _ _ _ | exact ext_app4 _ _ _ _ _ _ _ _ | exact ext_app5 _ _ _ _ _ _ _ _ _)) | ((with_reducible refine ext_suffix ⟨_, ?_⟩); (try simp only [Array.append_assoc]); rfl) | (with_reducible (first | apply Ext.drew | apply Ext.alloc | apply Ext.more_)) | apply Ext.drew | apply Ext.alloc | apply Ext.more_)))
          try simp only [Act.put, zqA, zqB, zqC]
          (refine wpPl_read (v := ?_) rfl ?_ (fun _ h => ?_) ?_; rotate_left 1; rfl; (obtain ⟨_, _, rfl⟩ := h.more; go_simp; try rfl))
          try simp only [Act.put, zqA, zqB, zqC]
          refine wpPl_nil ?_
          go_wp2_with (at_builtin; refine wpList_append_grow _ rfl _ _ _ rfl 3 i0 (.int .i64 0) 1 8 Tryz.underlying37 hi0 hz0 hz1 hz2 rfl (by decide) ⟨bl, ol, none⟩ 1 1 [.int .i64 (p0 : Int)] rfl rfl (Rd.ext hrd.out (by with_reducible repeat (first | exact Ext.refl _ | apply Ext.drew | apply Ext.alloc | apply Ext.more_))) _ 1 1 [.int .i64 (y : Int)] rfl rfl (Rd.one_ _ _ (by first | rfl | (simp; done))) (by omega) (Nat.le_refl _) (by simp [maxLen]) (by omega) ?_; intro v4 os4 d4 ho4)
          have ho5 := own_low (base' := w1.heap.size) ho4 (by simp; omega)
          exact ⟨⟨k + 1, [p0] ++ [y], by omega, by omega, by simp; omega, by go_num, HF2, Or.inr ho5, hxr.trans (by with_reducible repeat (first | exact Ext.refl _ | apply Ext.drew | apply Ext.alloc | apply Ext.more_))⟩, by simp [intOf]; omega⟩
        · have HO := Lib.hid ho
          clear ho
          go_upto_region 8 with fail
          refine wp_plan (S := Ext _) [(0, 0), (1, 0), (2, 0), (3, 0), (4, 0), (5, 0), (6, 0), (7, 0), (8, 0), (9, 0), (10, 1), (11, 0)] [] (by kernel_rfl) (by kernel_rfl) (by kernel_rfl) (fun _ _ d _ _ h => by cases d <;> exact h) (Ext.drew (Ext.refl _)) ?_
          iterate 10 ((refine wpPl_read (v := ?_) rfl ?_ (fun _ h => ?_) ?_; rotate_left 1; rfl; (obtain ⟨_, _, rfl⟩ := h.more; go_simp; try rfl)); try simp only [Act.put, zqA, zqB, zqC])
          (refine wpPl_eff rfl ?_ (fun K hK => ?_); rfl; go_simp; refine (hcall _ (by with_reducible repeat (first | exact Ext.refl _ | apply Ext.drew | apply Ext.alloc | apply Ext.more_))).mono ?_; rintro e w' ⟨rfl, hb⟩; obtain ⟨os1, d1, rfl⟩ := hb.more; clear hb; refine hK _ _ ?_ ?_; (repeat (first | (with_reducible (first | exact Ext.refl _ | exact ext_d _ _ _ _ | exact ext_app _ _ _ _ _ | exact ext_app2 _ _ _ _ _ _ | exact ext_app3 _ _ _ _ _ _ _ | exact ext_app4 _ _ _ _ _ _ _ _ | exact ext_app5 _ _ _ _ _ _ _ _ _)) | ((with_reducible refine ext_suffix ⟨_, ?_⟩); (try simp only [Array.append_assoc]); rfl) | (with_reducible (first | apply Ext.drew | apply Ext.alloc | apply Ext.more_)) | apply Ext.drew | apply Ext.alloc | apply Ext.more_)))
          try simp only [Act.put, zqA, zqB, zqC]
          (refine wpPl_read (v := ?_) rfl ?_ (fun _ h => ?_) ?_; rotate_left 1; rfl; (obtain ⟨_, _, rfl⟩ := h.more; go_simp; try rfl))
          try simp only [Act.put, zqA, zqB, zqC]
          refine wpPl_nil ?_
          go_wp2_with (at_builtin; refine wpList_append_own _ rfl _ _ _ rfl w1.heap.size 3 i0 (.int .i64 0) 1 8 Tryz.underlying37 hi0 hz0 hz1 hz2 rfl (by decide) _ F.length (i6 F) rfl (own_ext HO.out (by with_reducible repeat (first | exact Ext.refl _ | apply Ext.drew | apply Ext.alloc | apply Ext.more_))) _ 1 1 [.int .i64 (y : Int)] rfl rfl (Rd.one_ _ _ (by first | rfl | (simp; done))).add (one_i6 [y]) (by simp [maxLen]; omega) (by omega) (by simp; omega) ?_; intro v4 w4 ho4 hg4 _)
          have hx4 : Ext w1 w4 := ext_grownN (n := F.length) (ty := 3) (size := 1) (xs := i6 F) (hxr.trans (by with_reducible repeat (first | exact Ext.refl _ | apply Ext.drew | apply Ext.alloc | apply Ext.more_))) (own_ext HO.out (by with_reducible repeat (first | exact Ext.refl _ | apply Ext.drew | apply Ext.alloc | apply Ext.more_))) hg4
          refine ⟨⟨k + 1, F ++ [y], by omega, by omega, by simp; omega, by go_num, HF2, Or.inr ?_, hx4⟩, by simp [intOf]; omega⟩
          unfold i6; rw [List.map_append, List.length_append]
          exact ho4
    · obtain rfl : k = R := by omega
      have hlt' : ¬ (k : Int) < (k : Int) := Int.lt_irrefl _
      obtain ⟨B, cb, rfl, hB⟩ := HV.out.wr HX1.out.size (HW1.out.of_ext hxr) HP0.out
      have hFe := HF.out
      have hpos : 0 < k := r1
      have hmemL := fstK_length (neU ⟨k, C, l⟩) (l := ps) (k := k - 1) (by rw [HPL.out]; omega)
      rw [← hFe] at hmemL
      have hne : F ≠ [] := fun e => by rw [e] at hmemL; simp at hmemL
      have hso := sortInt_any U.heap.size B cb F wr hB (by omega) hne
      have HU : Hid (∀ S : List Nat, S.Perm F → S.Pairwise (· ≤ ·) → rowsN ⟨k, C, l⟩ S = X ∧ PlOk S k ∧ S.length = F.length) := fun S hp hs => by
        have e1 : S = uniqL (ltU ⟨k, C, l⟩) k := uniq_one HSW.out (neU_or ⟨k, C, l⟩) hpos hs (by rw [HPS.out, ← hFe]; exact hp)
        exact ⟨by rw [← HX.out, e1]; rfl, ⟨by rw [e1]; exact uniq_pos hpos, by rw [e1]; exact uniq_le _ _, by rw [e1]; exact uniq_lt⟩, hp.length_eq⟩
      have HRO := Lib.hid (fun W S B cb (hW : ArrIn W (some ⟨b1, off1, none⟩) n1 cap1 l) hB hcb hPl => rowsOf_pl ⟨k, C, l⟩ _ n1 cap1 S B cb W hW HXR.out hB hcb hPl)
      have hc1' := hxr.cell_some hc0
      have HXRR := Lib.hid hxr
      clear HF HV hFe hmemL hne hB HCL HW1 HLT HPS HP0 HPL HX
      go_upto_region 11 with (go_at_call 102; refine hso.mono ?_; rintro e w5 ⟨rfl, ⟨S, hS1, hS2, hW5⟩, hb5⟩)
      obtain ⟨g1, g2, g3⟩ := HU.out S hS1 hS2
      have hx5 : Ext U w5 := Below.trans (Below.mono (HX1.out.trans HXRR.out) (Nat.le_refl _)) hb5
      have hrd := Rd.mono (Dg.rd hW5) (Nat.zero_le _)
      have hcb := hW5.1
      have hro := fun W (hW : Ext w5 W) => HRO.out W S B cb (HA.out.ext (hx.trans (hx5.trans hW))) (hrd.ext hW) hcb g2
      simp only [g1, g3] at hro
      have ca0 := hx5.cell_some c0
      have ca1 := hx5.cell_some HC12.out.1
      have ca2 := hx5.cell_some HC12.out.2
      have lca := lt_of_cell ca0
      have hz5 := Ext.trans HZ.out hx5
      clear hb5 hW5 hrd hcb hx5 hso HU HRO
      obtain ⟨os8, d8, rfl⟩ := hz5.more
      clear hz5
      go_wp2_with ((go_at_call 84; (with_reducible refine (hro _ (by with_reducible repeat (first | exact Ext.refl _ | apply Ext.drew | apply Ext.alloc | apply Ext.more_))).mono ?_); rintro e w' ⟨D, m, cc, rfl, hD, hb⟩; obtain ⟨os5, d5, rfl⟩ := hb.more; clear hb; have hDr := hD.rd))
      exact bodyPost_ret (v := AV X.R X.C (.slice D m cc)) (by simp [results, Tryz.results53, go_sem]) rfl ⟨D, m, cc, rfl, ⟨(by (try simp only [more_alloc, more_more] at hDr); (try simp only [more_alloc, more_more]); (try simp only [drew_more] at hDr); (try simp only [more_drew] at hDr); (try simp only [Array.append_assoc] at hDr); (try simp only [Array.append_assoc]); exact Rd.swap hDr (by first | (simp; done) | (simp; omega) | omega) (by first | (simp; done) | (simp; omega) | omega) (by first | (simp; done) | (simp; omega) | omega)), hD.len, hD.cap, hD.small, hD.ok⟩, by with_reducible repeat (first | exact Ext.refl _ | apply Ext.drew | apply Ext.alloc | apply Ext.more_)⟩
end Go.Proofs.YtmjmijjbijlhfaaGreatDoor
namespace Go.Proofs.YtmjmijjbijlhfaaGreatDoor
open Go.RowKit NM
theorem own_empty {w : World} {n : Nat} {ty : TypeId} {cs : Array Value} (hn : n = w.heap.size) (hc : cs = #[]) : (w.alloc (.cells cs ty)).ownsRow w.heap.size ty 1 (.slice (some ⟨n, 0, none⟩) 0 0) 0 [] := by
  subst hn hc
  exact ⟨rfl, Or.inr ⟨w.heap.size, 0, _, rfl, Nat.le_refl _, Array.getElem?_push_size, Nat.le_refl _, by decide, by simp, by simp⟩⟩
end Go.Proofs.YtmjmijjbijlhfaaGreatDoor
namespace Go.Proofs.YtmjmijjbijlhfaaGreatDoor
open Go.RowKit NM
/-- Is one of the first j rows like row k? -/
def oldK (a : NA) (k j : Nat) : Bool := (List.range j).any fun t => decide (lexO (rowV a k) (rowV a t) = 0)
theorem oldK_succ (a : NA) (k j : Nat) : oldK a k (j + 1) = (oldK a k j || decide (lexO (rowV a k) (rowV a j) = 0)) := by unfold oldK; rw [List.range_succ, List.any_append]; simp
theorem oldK_first (a : NA) (k : Nat) : firstB (ltU a) k = !oldK a k k := by
  cases hb : firstB (ltU a) k with
  | false =>
    obtain ⟨j, hj, h1, h2⟩ := firstB_not.1 hb
    have : oldK a k k = true := List.any_eq_true.2 ⟨j, List.mem_range.2 hj, decide_eq_true ((likeU a k j).2 ⟨h1, h2⟩)⟩
    rw [this]; rfl
  | true =>
    cases ho : oldK a k k with
    | false => rfl
    | true =>
      obtain ⟨j, hj, h1⟩ := List.any_eq_true.1 ho
      obtain ⟨h2, h3⟩ := (likeU a k j).1 (of_decide_eq_true h1)
      rw [firstB_not.2 ⟨j, List.mem_range.1 hj, h2, h3⟩] at hb
      cases hb
set_option maxHeartbeats 4000000 in
theorem runiq_any (R C : Nat) (l : List Val) (b off n cap : Nat) (w : World) (h : ArrIn w (some ⟨b, off, none⟩) n cap l) (hr : NA.right ⟨R, C, l⟩) :
    Calls Tryz.prog 64 #[AV R C (.slice (some ⟨b, off, none⟩) n cap)] w fun e w' => ResA w (uniqueT ⟨R, C, l⟩) e w' := by
  obtain ⟨r1, r2, r3, r4, r5⟩ := rightA_nat.1 hr
  simp only at r1 r2 r3 r4 r5
  have hln := h.len
  have hcap := h.cap
  have hR4 : R ≤ 4096 := Nat.le_trans (Nat.le_mul_of_pos_right R r2) r3
  obtain ⟨X, hX⟩ : ∃ X, uniqueT ⟨R, C, l⟩ = X := ⟨_, rfl⟩
  rw [hX]
  have HX := Lib.hid hX
  have HA := Lib.hid h
  have HR := Lib.hid hr
  have HLC := Lib.hid (show R * C ≤ cap by omega)
  obtain ⟨i0, hi0, hz0, hz1, hz2⟩ := info_parts info_int_
  clear h hr hX r3 r4 r5 hln hcap
  go_enter Tryz.func64, Tryz.ntmps64
  go_upto_region 1 with fail
  refine wp_world fun wc hU => ?_
  have hx : Ext w wc := by rw [hU]; exact (by with_reducible repeat (first | exact Ext.refl _ | apply Ext.drew | apply Ext.alloc | apply Ext.more_))
  have c0 : wc.cell? ⟨w.heap.size, 0, none⟩ = some (.int .i64 (R : Int)) := by rw [hU]; go_simp
  have c1 : wc.cell? ⟨w.heap.size, 1, none⟩ = some (.int .i64 (C : Int)) := by rw [hU]; go_simp
  have c2 : wc.cell? ⟨w.heap.size, 2, none⟩ = some (.slice (some ⟨b, off, none⟩) n cap) := by rw [hU]; go_simp
  have HU : Hid (∃ os d, wc = more ((w.alloc (Obj.cells #[.int .i64 (R : Int), .int .i64 (C : Int), .slice (some ⟨b, off, none⟩) n cap] 31)).alloc (Obj.cells #[.int .i64 0, .int .i64 0, .slice none 0 0] 31)) os d) := Lib.hid ((show Ext ((w.alloc (Obj.cells #[.int .i64 (R : Int), .int .i64 (C : Int), .slice (some ⟨b, off, none⟩) n cap] 31)).alloc (Obj.cells #[.int .i64 0, .int .i64 0, .slice none 0 0] 31)) wc by rw [hU]; exact (by with_reducible repeat (first | exact Ext.refl _ | apply Ext.drew | apply Ext.alloc | apply Ext.more_))).more)
  clear hU
  have la := lt_of_cell c0
  go_wp2_with fail
  go_loopw [3, 4] (fun v i wr => ∃ (k : Nat) (ps : List Nat), k ≤ R ∧ i = .int .i64 (k : Int) ∧ ps.length ≤ k ∧ Hid (ps = uniqL (ltU ⟨R, C, l⟩) k) ∧ Hid (wr.ownsRow wc.heap.size 3 1 v ps.length (i6 ps)) ∧ Ext wc wr) (fun _ i _ => R - (intOf i).toNat)
  case atStart => exact ⟨0, [], Nat.zero_le _, rfl, Nat.le_refl _, rfl, own_empty rfl rfl, (Ext.refl _).alloc _⟩
  case round =>
    obtain ⟨k, ps, hk, rfl, hpk, HP, HO, hxr⟩ := hrel
    obtain ⟨os, d, rfl⟩ := hxr.more
    clear hxr
    by_cases hlt : k < R
    · have hlt' : (k : Int) < (R : Int) := by omega
      go_wp2_with fail
      go_loopw [5, 6] (fun s i wr => ∃ (j : Nat) (ob : Bool), j ≤ k ∧ i = .int .i64 (j : Int) ∧ s = .bool ob ∧ Hid (oldK ⟨R, C, l⟩ k j = ob) ∧ Ext (more wc os d) wr) (fun _ i _ => k - (intOf i).toNat)
      case atStart => exact ⟨0, false, Nat.zero_le _, rfl, rfl, rfl, by with_reducible repeat (first | exact Ext.refl _ | apply Ext.drew | apply Ext.alloc | apply Ext.more_)⟩
      case round =>
        obtain ⟨j, ob, hj, rfl, rfl, HB, hxr⟩ := hrel
        obtain ⟨os2, d2, rfl⟩ := hxr.more
        clear hxr
        by_cases hlj : j < k
        · have hlj' : (j : Int) < (k : Int) := by omega
          have hs := oldK_succ ⟨R, C, l⟩ k j
          rw [HB.out] at hs
          have hkc : k * C + C ≤ cap := by have := HLC.out; have := Nat.mul_le_mul_right C (show k + 1 ≤ R by omega); rw [Nat.add_mul, Nat.one_mul] at this; omega
          have hjc : j * C + C ≤ cap := by have := Nat.mul_le_mul_right C (show j ≤ k by omega); omega
          have hw1 := fun W (hW : Ext wc W) => rrow_any R C l b off n cap k W ((HA.out.ext hx).ext hW) HR.out hlt
          have hw2 := fun W (hW : Ext wc W) => rrow_any R C l b off n cap j W ((HA.out.ext hx).ext hW) HR.out (by omega)
          have hw3 := fun W (hW : Ext wc W) => rlike_any ⟨R, C, l⟩ b off n cap k j (cap - k * C) (cap - j * C) W ((HA.out.ext hx).ext hW) HR.out hlt (show j < R by omega) (show C ≤ cap - k * C by omega) (show C ≤ cap - j * C by omega)
          simp only at hw3
          generalize decide (lexO (rowV ⟨R, C, l⟩ k) (rowV ⟨R, C, l⟩ j) = 0) = q at *
          generalize off + k * C * 6 = ok at *
          generalize off + j * C * 6 = oj at *
          generalize cap - k * C = ck at *
          generalize cap - j * C = cj at *
          have HS := Lib.hid hs
          clear hs hkc hjc HB
          cases ob with
          | true =>
            go_upto_region 9 with fail
            refine wp_plan (S := Ext _) [(0, 0), (1, 0), (2, 0), (3, 0), (5, 0), (6, 0), (4, 1), (7, 1), (8, 1), (9, 0), (10, 0)] [] (by kernel_rfl) (by kernel_rfl) (by kernel_rfl) (fun _ _ d _ _ h => by cases d <;> exact h) (Ext.drew (Ext.refl _)) ?_
            iterate 2 ((refine wpPl_read (v := ?_) rfl ?_ (fun _ h => ?_) ?_; rotate_left 1; rfl; (obtain ⟨_, _, rfl⟩ := h.more; go_simp; try rfl)); try simp only [Act.put, zqA, zqB, zqC])
            iterate 4 ((first | (refine wpPl_skip rfl rfl ?_) | (refine wpPl_read (v := ?_) rfl ?_ (fun w1 h1 => ?_) ?_; rotate_left 1; rfl; (obtain ⟨os1, d1, rfl⟩ := h1.more; go_simp; first | done | rfl)) | (refine wpPl_gread (v := ?_) (c := ?_) rfl rfl rfl rfl ?_ (fun hc w1 h1 => ?_) ?_; rotate_left 2; (first | exact gc_t _ | exact gc_f _ | exact gc_gt _ _ | exact gc_gf _ _); (obtain ⟨os1, d1, rfl⟩ := h1.more; (try simp only [gv_of hc]); (try (have hc1 := and_l hc; (try simp only [gv_of hc1]); (try (have hc2 := and_l hc1; (try simp only [gv_of hc2]))))); go_simp; first | done | rfl))); try simp only [Act.put, zqA, zqB, zqC])
            (refine wpPl_effskip rfl ?_ ?_ ?_; (first | with_reducible rfl | rfl | (go_simp; done)); (repeat (first | (with_reducible (first | exact Ext.refl _ | exact ext_d _ _ _ _ | exact ext_app _ _ _ _ _ | exact ext_app2 _ _ _ _ _ _ | exact ext_app3 _ _ _ _ _ _ _ | exact ext_app4 _ _ _ _ _ _ _ _ | exact ext_app5 _ _ _ _ _ _ _ _ _)) | ((with_reducible refine ext_suffix ⟨_, ?_⟩); (try simp only [Array.append_assoc]); rfl) | (with_reducible (first | apply Ext.drew | apply Ext.alloc | apply Ext.more_)) | apply Ext.drew | apply Ext.alloc | apply Ext.more_)))
            try simp only [Act.put, zqA, zqB, zqC]
            (refine wpPl_effskip rfl ?_ ?_ ?_; (first | with_reducible rfl | rfl | (go_simp; done)); (repeat (first | (with_reducible (first | exact Ext.refl _ | exact ext_d _ _ _ _ | exact ext_app _ _ _ _ _ | exact ext_app2 _ _ _ _ _ _ | exact ext_app3 _ _ _ _ _ _ _ | exact ext_app4 _ _ _ _ _ _ _ _ | exact ext_app5 _ _ _ _ _ _ _ _ _)) | ((with_reducible refine ext_suffix ⟨_, ?_⟩); (try simp only [Array.append_assoc]); rfl) | (with_reducible (first | apply Ext.drew | apply Ext.alloc | apply Ext.more_)) | apply Ext.drew | apply Ext.alloc | apply Ext.more_)))
            try simp only [Act.put, zqA, zqB, zqC]
            (refine wpPl_effskip rfl ?_ ?_ ?_; (first | with_reducible rfl | rfl | (go_simp; done)); (repeat (first | (with_reducible (first | exact Ext.refl _ | exact ext_d _ _ _ _ | exact ext_app _ _ _ _ _ | exact ext_app2 _ _ _ _ _ _ | exact ext_app3 _ _ _ _ _ _ _ | exact ext_app4 _ _ _ _ _ _ _ _ | exact ext_app5 _ _ _ _ _ _ _ _ _)) | ((with_reducible refine ext_suffix ⟨_, ?_⟩); (try simp only [Array.append_assoc]); rfl) | (with_reducible (first | apply Ext.drew | apply Ext.alloc | apply Ext.more_)) | apply Ext.drew | apply Ext.alloc | apply Ext.more_)))
            try simp only [Act.put, zqA, zqB, zqC]
            first | (refine wpPl_pick_and rfl rfl rfl rfl rfl rfl ?_) | (refine wpPl_pick_or rfl rfl rfl rfl rfl rfl ?_) | (refine wpPl_read (v := ?_) rfl ?_ (fun w1 h1 => ?_) ?_; rotate_left 1; rfl; (obtain ⟨os1, d1, rfl⟩ := h1.more; go_simp; first | done | rfl))
            try simp only [Act.put, zqA, zqB, zqC]
            (refine wpPl_read (v := ?_) rfl ?_ (fun _ h => ?_) ?_; rotate_left 1; rfl; (obtain ⟨_, _, rfl⟩ := h.more; go_simp; try rfl))
            try simp only [Act.put, zqA, zqB, zqC]
            refine wpPl_nil ?_
            go_wp2_with fail
            exact ⟨⟨j + 1, true, by omega, by go_num, rfl, HS, by with_reducible repeat (first | exact Ext.refl _ | exact ext_d _ _ _ _ | exact ext_app _ _ _ _ _ | exact ext_app2 _ _ _ _ _ _ | exact ext_app3 _ _ _ _ _ _ _ | apply Ext.drew | apply Ext.alloc | apply Ext.more_)⟩, by simp [intOf]; omega⟩
          | false =>
            go_upto_region 9 with fail
            refine wp_plan (S := Ext _) [(0, 0), (1, 0), (2, 0), (3, 0), (5, 0), (6, 0), (4, 1), (7, 1), (8, 1), (9, 0), (10, 0)] [] (by kernel_rfl) (by kernel_rfl) (by kernel_rfl) (fun _ _ d _ _ h => by cases d <;> exact h) (Ext.drew (Ext.refl _)) ?_
            iterate 2 ((refine wpPl_read (v := ?_) rfl ?_ (fun _ h => ?_) ?_; rotate_left 1; rfl; (obtain ⟨_, _, rfl⟩ := h.more; go_simp; try rfl)); try simp only [Act.put, zqA, zqB, zqC])
            iterate 4 ((first | (refine wpPl_skip rfl rfl ?_) | (refine wpPl_read (v := ?_) rfl ?_ (fun w1 h1 => ?_) ?_; rotate_left 1; rfl; (obtain ⟨os1, d1, rfl⟩ := h1.more; go_simp; first | done | rfl)) | (refine wpPl_gread (v := ?_) (c := ?_) rfl rfl rfl rfl ?_ (fun hc w1 h1 => ?_) ?_; rotate_left 2; (first | exact gc_t _ | exact gc_f _ | exact gc_gt _ _ | exact gc_gf _ _); (obtain ⟨os1, d1, rfl⟩ := h1.more; (try simp only [gv_of hc]); (try (have hc1 := and_l hc; (try simp only [gv_of hc1]); (try (have hc2 := and_l hc1; (try simp only [gv_of hc2]))))); go_simp; first | done | rfl))); try simp only [Act.put, zqA, zqB, zqC])
            (refine wpPl_eff rfl ?_ (fun K hK => ?_); (first | with_reducible rfl | rfl | (go_simp; done)); go_simp; refine (hw1 _ (by with_reducible repeat (first | exact Ext.refl _ | apply Ext.drew | apply Ext.alloc | apply Ext.more_))).mono ?_; rintro e w' ⟨rfl, hb⟩; obtain ⟨os3, d3, rfl⟩ := hb.more; clear hb; refine hK _ _ ?_ ?_; (repeat (first | (with_reducible (first | exact Ext.refl _ | exact ext_d _ _ _ _ | exact ext_app _ _ _ _ _ | exact ext_app2 _ _ _ _ _ _ | exact ext_app3 _ _ _ _ _ _ _ | exact ext_app4 _ _ _ _ _ _ _ _ | exact ext_app5 _ _ _ _ _ _ _ _ _)) | ((with_reducible refine ext_suffix ⟨_, ?_⟩); (try simp only [Array.append_assoc]); rfl) | (with_reducible (first | apply Ext.drew | apply Ext.alloc | apply Ext.more_)) | apply Ext.drew | apply Ext.alloc | apply Ext.more_)))
            try simp only [Act.put, zqA, zqB, zqC]
            (refine wpPl_eff rfl ?_ (fun K hK => ?_); (first | with_reducible rfl | rfl | (go_simp; done)); go_simp; refine (hw2 _ (by with_reducible repeat (first | exact Ext.refl _ | apply Ext.drew | apply Ext.alloc | apply Ext.more_))).mono ?_; rintro e w' ⟨rfl, hb⟩; obtain ⟨os4, d4, rfl⟩ := hb.more; clear hb; refine hK _ _ ?_ ?_; (repeat (first | (with_reducible (first | exact Ext.refl _ | exact ext_d _ _ _ _ | exact ext_app _ _ _ _ _ | exact ext_app2 _ _ _ _ _ _ | exact ext_app3 _ _ _ _ _ _ _ | exact ext_app4 _ _ _ _ _ _ _ _ | exact ext_app5 _ _ _ _ _ _ _ _ _)) | ((with_reducible refine ext_suffix ⟨_, ?_⟩); (try simp only [Array.append_assoc]); rfl) | (with_reducible (first | apply Ext.drew | apply Ext.alloc | apply Ext.more_)) | apply Ext.drew | apply Ext.alloc | apply Ext.more_)))
            try simp only [Act.put, zqA, zqB, zqC]
            (refine wpPl_eff rfl ?_ (fun K hK => ?_); (first | with_reducible rfl | rfl | (go_simp; done)); go_simp; refine (hw3 _ (by with_reducible repeat (first | exact Ext.refl _ | apply Ext.drew | apply Ext.alloc | apply Ext.more_))).mono ?_; rintro e w' ⟨rfl, hb⟩; obtain ⟨os5, d5, rfl⟩ := hb.more; clear hb; refine hK _ _ ?_ ?_; (repeat (first | (with_reducible (first | exact Ext.refl _ | exact ext_d _ _ _ _ | exact ext_app _ _ _ _ _ | exact ext_app2 _ _ _ _ _ _ | exact ext_app3 _ _ _ _ _ _ _ | exact ext_app4 _ _ _ _ _ _ _ _ | exact ext_app5 _ _ _ _ _ _ _ _ _)) | ((with_reducible refine ext_suffix ⟨_, ?_⟩); (try simp only [Array.append_assoc]); rfl) | (with_reducible (first | apply Ext.drew | apply Ext.alloc | apply Ext.more_)) | apply Ext.drew | apply Ext.alloc | apply Ext.more_)))
            try simp only [Act.put, zqA, zqB, zqC]
            first | (refine wpPl_pick_and rfl rfl rfl rfl rfl rfl ?_) | (refine wpPl_pick_or rfl rfl rfl rfl rfl rfl ?_) | (refine wpPl_read (v := ?_) rfl ?_ (fun w1 h1 => ?_) ?_; rotate_left 1; rfl; (obtain ⟨os1, d1, rfl⟩ := h1.more; go_simp; first | done | rfl))
            try simp only [Act.put, zqA, zqB, zqC]
            (refine wpPl_read (v := ?_) rfl ?_ (fun _ h => ?_) ?_; rotate_left 1; rfl; (obtain ⟨_, _, rfl⟩ := h.more; go_simp; try rfl))
            try simp only [Act.put, zqA, zqB, zqC]
            refine wpPl_nil ?_
            go_wp2_with fail
            exact ⟨⟨j + 1, q, by omega, by go_num, rfl, HS, by with_reducible repeat (first | exact Ext.refl _ | exact ext_d _ _ _ _ | exact ext_app _ _ _ _ _ | exact ext_app2 _ _ _ _ _ _ | exact ext_app3 _ _ _ _ _ _ _ | apply Ext.drew | apply Ext.alloc | apply Ext.more_)⟩, by simp [intOf]; omega⟩
        · obtain rfl : j = k := by omega
          have hu := uniqL_succ (ltU ⟨R, C, l⟩) j
          rw [oldK_first, HB.out, ← HP.out] at hu
          clear HB HP
          cases ob with
          | true =>
            have HU2 : Hid (ps = uniqL (ltU ⟨R, C, l⟩) (j + 1)) := by show _ = _; rw [hu]; simp
            clear hu
            go_wp2_with fail
            exact ⟨⟨j + 1, ps, by omega, by go_num, by omega, HU2, own_ext HO.out (by with_reducible repeat (first | exact Ext.refl _ | exact ext_d _ _ _ _ | exact ext_app _ _ _ _ _ | exact ext_app2 _ _ _ _ _ _ | exact ext_app3 _ _ _ _ _ _ _ | apply Ext.drew | apply Ext.alloc | apply Ext.more_)), by with_reducible repeat (first | exact Ext.refl _ | apply Ext.drew | apply Ext.alloc | apply Ext.more_)⟩, by simp [intOf]; omega⟩
          | false =>
            have HU2 : Hid (ps ++ [j] = uniqL (ltU ⟨R, C, l⟩) (j + 1)) := by show _ = _; rw [hu]; simp
            clear hu
            go_wp2_with (at_builtin; refine wpList_append_own _ rfl _ _ _ rfl wc.heap.size 3 i0 (.int .i64 0) 1 8 Tryz.underlying37 hi0 hz0 hz1 hz2 rfl (by decide) _ ps.length (i6 ps) rfl (own_ext HO.out (by with_reducible repeat (first | exact Ext.refl _ | exact ext_d _ _ _ _ | exact ext_app _ _ _ _ _ | exact ext_app2 _ _ _ _ _ _ | exact ext_app3 _ _ _ _ _ _ _ | apply Ext.drew | apply Ext.alloc | apply Ext.more_))) _ 1 1 [.int .i64 j] rfl rfl (Rd.one_ _ _ (by first | rfl | (simp; done))).add (one_i6 [j]) (by simp [maxLen]; omega) (by omega) (by simp; omega) ?_; intro v4 w4 ho4 hg4 _)
            have hx4 := ext_grown (X := wc) (by with_reducible repeat (first | exact Ext.refl _ | apply Ext.drew | apply Ext.alloc | apply Ext.more_)) (own_ext HO.out (by with_reducible repeat (first | exact Ext.refl _ | exact ext_d _ _ _ _ | exact ext_app _ _ _ _ _ | exact ext_app2 _ _ _ _ _ _ | exact ext_app3 _ _ _ _ _ _ _ | apply Ext.drew | apply Ext.alloc | apply Ext.more_))) hg4
            refine ⟨⟨j + 1, ps ++ [j], by omega, by go_num, by simp; omega, HU2, ?_, hx4⟩, by simp [intOf]; omega⟩
            show World.ownsRow _ _ _ _ _ _ _
            unfold i6; rw [List.map_append, List.length_append]
            exact ho4
    · obtain rfl : k = R := by omega
      have hlt' : ¬ (k : Int) < (k : Int) := Int.lt_irrefl _
      obtain ⟨B1, cb1, rfl, hB1, hcb1⟩ := Rd.of_own HO.out
      have hB2 := Rd.mono hB1 (Nat.zero_le _)
      have hXe : rowsN ⟨k, C, l⟩ ps = X := by rw [HP.out]; exact HX.out
      have hPl : PlOk ps k := ⟨by rw [HP.out]; exact uniq_pos r1, by omega, fun i hi => by rw [HP.out] at hi; exact uniq_lt i hi⟩
      have hr1 := fun W (hW : ArrIn W (some ⟨b, off, none⟩) n cap l) hB => rrows_any k C l _ n cap ps B1 cb1 W hW HR.out hB hcb1 hPl
      rw [hXe] at hr1
      have HR1 := Lib.hid hr1
      have HB1 := Lib.hid hB2
      clear hXe hr1 hB1 hB2 HO HP hPl HX
      go_wp2_with (first | ((go_at_call 114; (with_reducible refine (HR1.out _ ((HA.out.ext hx).ext (by with_reducible repeat (first | exact Ext.refl _ | exact ext_d _ _ _ _ | exact ext_app _ _ _ _ _ | exact ext_app2 _ _ _ _ _ _ | exact ext_app3 _ _ _ _ _ _ _ | apply Ext.drew | apply Ext.alloc | apply Ext.more_))) (HB1.out.ext (by with_reducible repeat (first | exact Ext.refl _ | exact ext_d _ _ _ _ | exact ext_app _ _ _ _ _ | exact ext_app2 _ _ _ _ _ _ | exact ext_app3 _ _ _ _ _ _ _ | apply Ext.drew | apply Ext.alloc | apply Ext.more_)))).mono ?_); rintro e w' ⟨D, m, cc, rfl, hD, hb⟩; obtain ⟨os5, d5, rfl⟩ := hb.more; clear hb; have hDr := hD.rd); obtain ⟨osu, du, rfl⟩ := HU.out))
      exact bodyPost_ret (v := AV X.R X.C (.slice D m cc)) (by simp [results, Tryz.results64, go_sem]) rfl ⟨D, m, cc, rfl, ⟨(by (try simp only [more_alloc, more_more] at hDr); (try simp only [more_alloc, more_more]); (try simp only [drew_more] at hDr); (try simp only [more_drew] at hDr); (try simp only [Array.append_assoc] at hDr); (try simp only [Array.append_assoc]); exact Rd.swap hDr (by first | (simp; done) | (simp; omega) | omega) (by first | (simp; done) | (simp; omega) | omega) (by first | (simp; done) | (simp; omega) | omega)), hD.len, hD.cap, hD.small, hD.ok⟩, by with_reducible repeat (first | exact Ext.refl _ | apply Ext.drew | apply Ext.alloc | apply Ext.more_)⟩
end Go.Proofs.YtmjmijjbijlhfaaGreatDoor
namespace Go.Proofs.YtmjmijjbijlhfaaGreatDoor
open Go.RowKit NM
/-- append onto a new, empty slice: what lies stays as it is. -/
theorem wp_append_new {P : Program} (w : World) {o : Oper} {a : Act} {K : Act → World → Prop} {Q : Exit → Act → World → Prop} (s x : Operand) (t : TypeId)
    (ho : o.op = .call { callee := .builtin .append, args := #[s, x], argTypes := #[t, t] })
    (base : Nat) (e : TypeId) (i : TypeInfo) (z : Value) (bytes : Nat) (ht : P.underlying t = some (.slice e)) (hi : P.info? e = some i) (hz : i.zero = some z)
    (hsize : i.size = 1) (hby : i.bytes = bytes) (hzs : z.cells.size = 1)
    (q : Nat) (hs : a.eval s = .slice (some ⟨q, 0, none⟩) 0 0) (hq : w.heap[q]? = some (.cells #[] e (0, 0))) (hbq : base ≤ q)
    (B : Option Addr) (m c : Nat) (news : List Value) (hx : a.eval x = .slice B m c) (hln : news.length = m) (hB : Rd 0 w B news)
    (b1 : m ≤ maxLen) (b2 : m * bytes ≤ 140737488355328)
    (h : ∀ v' os d, (more w os d).ownsRow base e 1 v' m news → K (a.put o.dst v') (more w os d)) : o.wp P a w K Q := by
  have hlt : q < w.heap.size := lt_block hq
  by_cases hm : m = 0
  · subst hm
    obtain rfl : news = [] := List.eq_nil_of_length_eq_zero hln
    have hr := append_none (P := P) w t o.type e i ht hi (some ⟨q, 0, none⟩) 0 0 B c (Nat.le_refl _)
    unfold Oper.wp execOp
    simp only [ho, resolve, invoke, builtin, Sem.run_bind, Sem.run_pure, Result.andThen_ok, List.map_toArray, List.map_cons, List.map_nil, hs, hx, hr]
    have hw : more w #[] w.drawn = w := by simp [more]
    have h' := h (.slice (some ⟨q, 0, none⟩) 0 0) #[] w.drawn (by rw [hw]; exact ⟨rfl, Or.inr ⟨q, 0, #[], rfl, hbq, hq, Nat.le_refl _, by decide, rfl, rfl⟩⟩)
    rw [hw] at h'
    exact h'
  · refine wp_append_grow w s x t ho e i z 1 bytes ht hi hz hsize hby hzs (by decide) ⟨q, 0, none⟩ 0 0 [] hs rfl (fun j u hu => by simp at hu) B m c news hx (by omega) hB (by omega) (Nat.le_refl _) (by rw [Nat.zero_add]; exact b1) (by rw [Nat.zero_add]; exact b2) fun v' os d ho' => ?_
    rw [Nat.zero_add, List.nil_append] at ho'
    exact h v' os d ⟨ho'.1, ho'.2.imp id fun ⟨g, cap, cur, h1, h2, h3⟩ => ⟨g, cap, cur, h1, by omega, h3⟩⟩
theorem own_at {w : World} {base n : Nat} {ty : TypeId} {v : Value} {xs : List Value} (h : w.ownsRow base ty 1 v n xs) (hn : 0 < n) : ∃ g c, v = .slice (some ⟨g, 0, none⟩) n c := by
  rcases h.2 with ⟨_, h0⟩ | ⟨g, c, _, h0, _⟩
  · omega
  · exact ⟨g, c, h0⟩
theorem read_one {w : World} {q : Nat} {u : Value} (h : w.cell? ⟨q, 0, none⟩ = some u) : ∀ t v, [u][t]? = some v → w.cell? ((⟨q, 0, none⟩ : Addr).add t) = some v := by
  intro t v hv
  cases t with
  | zero => obtain rfl : u = v := by simpa using hv
            rw [Addr.add_mid]; exact h
  | succ t => simp at hv
theorem i6_mid (a b : List Nat) (k : Nat) : i6 a ++ [.int .i64 (k : Int)] ++ i6 b = i6 (a ++ k :: b) := by simp [i6]
theorem own_rd {w : World} {base g k c : Nat} {ty : TypeId} {S : List Nat} (h : w.ownsRow base ty 1 (.slice (some ⟨g, 0, none⟩) k c) k (i6 S)) {t : Nat} {u : Value} (hu : (i6 S)[t]? = some u) : w.cell? ⟨g, t, none⟩ = some u := by
  have := h.cells (g := g) rfl t u hu
  rw [Addr.add_mid] at this
  simpa using this
theorem head_rd {w : World} {base g k c : Nat} {ty : TypeId} {S : List Nat} (h : w.ownsRow base ty 1 (.slice (some ⟨g, 0, none⟩) k c) k (i6 S)) (j : Nat) : Rd 0 w (some ⟨g, 0, none⟩) (i6 (S.take j)) := fun t u hu => by
  refine ⟨g, 0, rfl, Nat.zero_le _, ?_⟩
  rw [Nat.zero_add]
  refine own_rd h ?_
  unfold i6 at *
  rw [List.getElem?_map] at *
  rw [List.getElem?_take] at hu
  split at hu
  · exact hu
  · cases hu
theorem tail_rd {w : World} {base g k c j o : Nat} {ty : TypeId} {S : List Nat} (h : w.ownsRow base ty 1 (.slice (some ⟨g, 0, none⟩) k c) k (i6 S)) (hk : k ≤ c) (hl : S.length = k) (ho : (if c = j then (some ⟨g, 0, none⟩ : Option Addr) else some ⟨g, j, none⟩) = some ⟨g, o, none⟩) : Rd 0 w (some ⟨g, o, none⟩) (i6 (S.drop j)) := fun t u hu => by
  unfold i6 at hu
  rw [List.getElem?_map, List.getElem?_drop] at hu
  split at ho
  · rw [List.getElem?_eq_none (by omega)] at hu; cases hu
  · simp only [Option.some.injEq, Addr.mk.injEq, and_true, true_and] at ho
    subst ho
    refine ⟨g, j, rfl, Nat.zero_le _, own_rd h ?_⟩
    unfold i6; rw [List.getElem?_map]; exact hu
set_option maxHeartbeats 8000000 in
theorem rsort15_any (A : Option Addr) (n cap : Nat) (xs : List Ar) (w : World) (h : ArgsIn w A n cap xs) (h1 : 1 ≤ n) :
    Calls Tryz.prog 63 #[.slice A n cap] w fun e w' => ResA w (sortO xs) e w' := by
  obtain ⟨R, C, l, b1, off1, n1, cap1, b, off, x0, ha, rfl, ⟨v0, v1, v2⟩, _, hc1, _, _, _, hbl, _, _, _, harr, _⟩ := h.first h1
  have hxr : NA.right ⟨R, C, l⟩ := (h.all _ (List.mem_of_getElem? ha)).right
  have hcap := h.cap
  have hsm := h.small
  simp only [Nat.zero_mul, Nat.add_zero] at v0 v1 v2
  have hx0 : argN xs 0 = ⟨R, C, l⟩ := by unfold argN; rw [ha]
  obtain ⟨r1, r2, r3, r4, r5⟩ := rightA_nat.1 hxr
  simp only at r1 r2 r3 r4
  have hR4 : R ≤ 4096 := Nat.le_trans (Nat.le_mul_of_pos_right R r2) r3
  have hC4 : C ≤ 4096 := Nat.le_trans (Nat.le_mul_of_pos_left C r1) r3
  have n0 := fun W (hW : ArgsIn W (some ⟨b, off, none⟩) n cap xs) => rnumber15_any _ n cap xs 1 1 W hW _ rfl
  have n2 := fun W (hW : ArgsIn W (some ⟨b, off, none⟩) n cap xs) => rnumber15_any _ n cap xs 2 1 W hW _ rfl
  have f1 := numO_bd (k := 1) (l := 1) h
  have f2 := numO_bd (k := 2) (l := 1) h
  unfold sortO
  rw [hx0]
  generalize numO xs 1 1 = mm at *
  generalize numO xs 2 1 = kk at *
  obtain ⟨mi, mf⟩ := mm
  obtain ⟨ki, kf⟩ := kk
  simp only [show ((1 : Nat) : Int) = 1 from rfl, show ((2 : Nat) : Int) = 2 from rfl] at n0 n2 f1 f2
  have H := Lib.hid h
  have HA := Lib.hid harr
  have HXR := Lib.hid hxr
  clear h harr ha hx0 r4 r5
  obtain ⟨X, hX⟩ : ∃ X, sortT ⟨R, C, l⟩ (mi, mf) (ki, kf) = X := ⟨_, rfl⟩
  rw [hX]
  by_cases hmf : mf = 0
  · subst hmf
    by_cases hkf : kf = 0
    · subst hkf
      obtain ⟨bad, hbad⟩ : ∃ bad, decide (mi < 1 ∨ (C : Int) < mi ∨ (ki ≠ 1 ∧ ki ≠ -1)) = bad := ⟨_, rfl⟩
      have HX := Lib.hid hX
      have HB := Lib.hid hbad
      clear hX f1 f2 hxr
      go_enter Tryz.func63, Tryz.ntmps63
      go_upto_region 8 with (first | (go_at_call 107; (with_reducible refine (n0 _ (H.out.ext (by with_reducible repeat (first | exact Ext.refl _ | apply Ext.drew | apply Ext.alloc | apply Ext.more_)))).mono ?_); rintro e w' ⟨rfl, hb⟩; obtain ⟨osa, da, rfl⟩ := hb.more; clear hb) | (go_at_call 107; (with_reducible refine (n2 _ (H.out.ext (by with_reducible repeat (first | exact Ext.refl _ | apply Ext.drew | apply Ext.alloc | apply Ext.more_)))).mono ?_); rintro e w' ⟨rfl, hb⟩; obtain ⟨osb, db, rfl⟩ := hb.more; clear hb))
      refine wp_world fun wc hU => ?_
      have hx : Ext w wc := by rw [hU]; exact (by with_reducible repeat (first | exact Ext.refl _ | apply Ext.drew | apply Ext.alloc | apply Ext.more_))
      have c0 : wc.cell? ⟨w.heap.size + 1, 0, none⟩ = some (.int .i64 (R : Int)) := by rw [hU]; go_simp
      have c1 : wc.cell? ⟨w.heap.size + 1, 1, none⟩ = some (.int .i64 (C : Int)) := by rw [hU]; go_simp
      have c2 : wc.cell? ⟨w.heap.size + 1, 2, none⟩ = some (.slice (some ⟨b1, off1, none⟩) n1 cap1) := by rw [hU]; go_simp
      have HU : Hid (∃ os d, wc = more (w.alloc (Obj.cells #[.int .i64 0, .int .i64 0, .slice none 0 0] 31)) os d) := Lib.hid ((show Ext (w.alloc (Obj.cells #[.int .i64 0, .int .i64 0, .slice none 0 0] 31)) wc by rw [hU]; exact (by with_reducible repeat (first | exact Ext.refl _ | apply Ext.drew | apply Ext.alloc | apply Ext.more_))).more)
      clear hU
      generalize w.heap.size + 1 = pa at *
      have la := lt_of_cell c0
      clear v0 v1 v2
      go_cut [47] (fun s wx => s = .bool bad ∧ wx = wc)
      case first =>
        by_cases q1 : mi < 1
        · obtain rfl : true = bad := by rw [← hbad]; simp [q1]
          clear hbad
          (go_wp2_with fail; go_meet; exact ⟨rfl, rfl⟩)
        · by_cases q2 : (C : Int) < mi
          · obtain rfl : true = bad := by rw [← hbad]; simp [q2]
            clear hbad
            (go_wp2_with fail; go_meet; exact ⟨rfl, rfl⟩)
          · by_cases q3 : ki = 1
            · have q3' : (ki != 1) = false := by simpa using q3
              obtain rfl : false = bad := by rw [← hbad]; simp [q1, q2, q3]
              clear hbad q3
              (go_wp2_with fail; go_meet; exact ⟨rfl, rfl⟩)
            · have q3' : (ki != 1) = true := by simpa using q3
              by_cases q4 : ki = -1
              · have q4' : (ki != -1) = false := by simpa using q4
                obtain rfl : false = bad := by rw [← hbad]; simp [q1, q2, q3, q4]
                clear hbad q3 q4
                (go_wp2_with fail; go_meet; exact ⟨rfl, rfl⟩)
              · have q4' : (ki != -1) = true := by simpa using q4
                obtain rfl : true = bad := by rw [← hbad]; simp [q1, q2, q3, q4]
                clear hbad q3 q4
                (go_wp2_with fail; go_meet; exact ⟨rfl, rfl⟩)
      case rest =>
      obtain ⟨rfl, rfl⟩ := hcut
      clear hbad
      cases bad with
      | true =>
        obtain rfl : aloneO 2 = X := by
          rw [← HX.out]; unfold sortT
          rw [if_neg (by simp), if_neg (by simp), if_pos]
          have := HB.out
          exact of_decide_eq_true this
        go_wp2_with ((go_at_call 21; (with_reducible refine (rbad_res 2 (by omega) _).mono ?_); rintro e w' ⟨D, m, cc, rfl, hD, hb⟩; obtain ⟨os5, d5, rfl⟩ := hb.more; clear hb; have hDr := hD.rd); obtain ⟨osu, du, rfl⟩ := HU.out)
        exact bodyPost_ret (v := AV (aloneO 2).R (aloneO 2).C (.slice D m cc)) (by simp [results, Tryz.results63, go_sem]) rfl ⟨D, m, cc, rfl, ⟨(by (try simp only [more_alloc, more_more] at hDr); (try simp only [more_alloc, more_more]); (try simp only [drew_more] at hDr); (try simp only [more_drew] at hDr); (try simp only [Array.append_assoc] at hDr); (try simp only [Array.append_assoc]); exact Rd.swap hDr (by first | (simp; done) | (simp; omega) | omega) (by first | (simp; done) | (simp; omega) | omega) (by first | (simp; done) | (simp; omega) | omega)), hD.len, hD.cap, hD.small, hD.ok⟩, by with_reducible repeat (first | exact Ext.refl _ | apply Ext.drew | apply Ext.alloc | apply Ext.more_)⟩
      | false =>
        have hgood := of_decide_eq_false HB.out
        obtain ⟨bb, rfl⟩ : ∃ bb : Nat, mi = bb := ⟨mi.toNat, by omega⟩
        obtain ⟨cc, hcc⟩ : ∃ cc, bb - 1 = cc := ⟨_, rfl⟩
        have hcC : cc < C := by omega
        have ebb : IntKind.i64.wrap ((bb : Int) - 1) = (cc : Int) := by rw [IntKind.wrap_i64]; omega
        obtain ⟨dn, hdn⟩ : ∃ dn, decide (ki = -1) = dn := ⟨_, rfl⟩
        have hk1 : (ki == -1) = dn := by rw [← hdn]; rfl
        have hXe : rowsN ⟨R, C, l⟩ (sortN (ltS ⟨R, C, l⟩ cc dn) R) = X := by
          rw [← HX.out]; unfold sortT
          rw [if_neg (by simp), if_neg (by simp), if_neg hgood, ← hcc, ← hdn]
          rfl
        have HXE := Lib.hid hXe
        have HS0 : Hid (sortN (ltS ⟨R, C, l⟩ cc dn) 0 = []) := rfl
        obtain ⟨i0, hi0, hz0, hz1, hz2⟩ := info_parts info_int_
        have hcp1 := HA.out.cap
        have hln1 := HA.out.len
        have HSZ := Lib.hid (show R * C ≤ cap1 by have := (rightA_nat.1 HXR.out).2.2.2.1; simp only at this; omega)
        clear hgood hXe hcc hdn HX HB n0 n2 hln1
        go_wp2_with fail
        go_loopw [8, 9] (fun v i wr => ∃ (k g cg : Nat), k ≤ R ∧ i = .int .i64 (k : Int) ∧ v = .slice (some ⟨g, 0, none⟩) k cg ∧ Hid (wr.ownsRow wc.heap.size 3 1 (.slice (some ⟨g, 0, none⟩) k cg) k (i6 (sortN (ltS ⟨R, C, l⟩ cc dn) k))) ∧ Ext wc wr) (fun _ i _ => R - (intOf i).toNat)
        case atStart => exact ⟨0, wc.heap.size, 0, Nat.zero_le _, rfl, rfl, own_empty rfl rfl, (Ext.refl _).alloc _⟩
        case round =>
          obtain ⟨k, g, cg, hk, rfl, rfl, HO, hxr⟩ := hrel
          obtain ⟨os, d, rfl⟩ := hxr.more
          clear hxr
          by_cases hlt : k < R
          · have hlt' : (k : Int) < (R : Int) := by omega
            obtain ⟨S, hS⟩ : ∃ S, sortN (ltS ⟨R, C, l⟩ cc dn) k = S := ⟨_, rfl⟩
            have HSk := Lib.hid hS
            rw [hS] at HO
            have hkc : k ≤ cg := by
              rcases HO.out.2 with ⟨h0, _⟩ | ⟨_, _, _, h0, _, _, h1, _⟩
              · cases h0
              · simp only [Value.slice.injEq, Option.some.injEq] at h0; omega
            have hlS : S.length = k := by rw [← hS]; exact sortN_length _ _
            have HLS := Lib.hid hlS
            clear hS hlS HS0
            go_wp2_with fail
            go_loopw [10] (fun s wr => ∃ j : Nat, j ≤ k ∧ s = .int .i64 (j : Int) ∧ Hid (j = k ∨ ∃ f, S[j]? = some f ∧ ltS ⟨R, C, l⟩ cc dn k f = true) ∧ Ext (more wc os d) wr) (fun s _ => (intOf s).toNat)
            case atStart => exact ⟨k, Nat.le_refl _, rfl, Or.inl rfl, Ext.refl _⟩
            case round =>
              obtain ⟨j, hj, rfl, HD, hxr⟩ := hrel
              have hxw : Ext wc wr := (ext_more _ _ _).trans hxr
              replace c0 := hxw.cell_some c0
              replace c1 := hxw.cell_some c1
              replace c2 := hxw.cell_some c2
              replace la := lt_of_cell c0
              by_cases hj0 : j = 0
              · have hjn : ¬ 0 < j := by omega
                have HT : Hid (S.take j ++ k :: S.drop j = sortN (ltS ⟨R, C, l⟩ cc dn) (k + 1)) := by
                  show _ = _
                  rw [← HSk.out]
                  exact doc_step (ltS_swo (rightA_nat.1 HXR.out).2.2.2.2 _ _) hj (by rw [HSk.out]; exact HD.out) (Or.inl hj0)
                clear hj0
                go_upto_region 15 with fail
                refine wp_plan (S := Ext _) [(0, 0), (1, 0), (2, 0), (3, 0), (4, 0), (6, 0), (7, 0), (10, 0), (11, 0), (12, 0), (13, 0), (14, 0), (15, 0), (17, 0), (18, 0), (21, 0), (22, 0), (5, 1), (8, 0), (9, 0), (16, 1), (19, 0), (20, 0), (23, 1), (24, 0)] [] (by kernel_rfl) (by kernel_rfl) (by kernel_rfl) (fun _ _ d _ _ h => by cases d <;> exact h) (Ext.drew (Ext.refl _)) ?_
                iterate 3 ((refine wpPl_read (v := ?_) rfl ?_ (fun _ h => ?_) ?_; rotate_left 1; rfl; (obtain ⟨_, _, rfl⟩ := h.more; go_simp; try rfl)); try simp only [Act.put, zqA, zqB, zqC])
                iterate 14 ((first | (refine wpPl_skip rfl rfl ?_) | (refine wpPl_read (v := ?_) rfl ?_ (fun w1 h1 => ?_) ?_; rotate_left 1; rfl; (obtain ⟨os1, d1, rfl⟩ := h1.more; go_simp; first | done | rfl)) | (refine wpPl_gread (v := ?_) (c := ?_) rfl rfl rfl rfl ?_ (fun hc w1 h1 => ?_) ?_; rotate_left 2; (first | exact gc_t _ | exact gc_f _ | exact gc_gt _ _ | exact gc_gf _ _); (obtain ⟨os1, d1, rfl⟩ := h1.more; (try simp only [gv_of hc]); (try (have hc1 := and_l hc; (try simp only [gv_of hc1]); (try (have hc2 := and_l hc1; (try simp only [gv_of hc2]))))); go_simp; first | done | rfl))); try simp only [Act.put, zqA, zqB, zqC])
                (refine wpPl_effskip rfl ?_ ?_ ?_; (first | with_reducible rfl | rfl | (go_simp; done)); (repeat (first | (with_reducible (first | exact Ext.refl _ | exact ext_d _ _ _ _ | exact ext_app _ _ _ _ _ | exact ext_app2 _ _ _ _ _ _ | exact ext_app3 _ _ _ _ _ _ _ | exact ext_app4 _ _ _ _ _ _ _ _ | exact ext_app5 _ _ _ _ _ _ _ _ _)) | ((with_reducible refine ext_suffix ⟨_, ?_⟩); (try simp only [Array.append_assoc]); rfl) | (with_reducible (first | apply Ext.drew | apply Ext.alloc | apply Ext.more_)) | apply Ext.drew | apply Ext.alloc | apply Ext.more_)))
                try simp only [Act.put, zqA, zqB, zqC]
                iterate 2 ((first | (refine wpPl_skip rfl rfl ?_) | (refine wpPl_read (v := ?_) rfl ?_ (fun w1 h1 => ?_) ?_; rotate_left 1; rfl; (obtain ⟨os1, d1, rfl⟩ := h1.more; go_simp; first | done | rfl)) | (refine wpPl_gread (v := ?_) (c := ?_) rfl rfl rfl rfl ?_ (fun hc w1 h1 => ?_) ?_; rotate_left 2; (first | exact gc_t _ | exact gc_f _ | exact gc_gt _ _ | exact gc_gf _ _); (obtain ⟨os1, d1, rfl⟩ := h1.more; (try simp only [gv_of hc]); (try (have hc1 := and_l hc; (try simp only [gv_of hc1]); (try (have hc2 := and_l hc1; (try simp only [gv_of hc2]))))); go_simp; first | done | rfl))); try simp only [Act.put, zqA, zqB, zqC])
                (refine wpPl_effskip rfl ?_ ?_ ?_; (first | with_reducible rfl | rfl | (go_simp; done)); (repeat (first | (with_reducible (first | exact Ext.refl _ | exact ext_d _ _ _ _ | exact ext_app _ _ _ _ _ | exact ext_app2 _ _ _ _ _ _ | exact ext_app3 _ _ _ _ _ _ _ | exact ext_app4 _ _ _ _ _ _ _ _ | exact ext_app5 _ _ _ _ _ _ _ _ _)) | ((with_reducible refine ext_suffix ⟨_, ?_⟩); (try simp only [Array.append_assoc]); rfl) | (with_reducible (first | apply Ext.drew | apply Ext.alloc | apply Ext.more_)) | apply Ext.drew | apply Ext.alloc | apply Ext.more_)))
                try simp only [Act.put, zqA, zqB, zqC]
                iterate 2 ((first | (refine wpPl_skip rfl rfl ?_) | (refine wpPl_read (v := ?_) rfl ?_ (fun w1 h1 => ?_) ?_; rotate_left 1; rfl; (obtain ⟨os1, d1, rfl⟩ := h1.more; go_simp; first | done | rfl)) | (refine wpPl_gread (v := ?_) (c := ?_) rfl rfl rfl rfl ?_ (fun hc w1 h1 => ?_) ?_; rotate_left 2; (first | exact gc_t _ | exact gc_f _ | exact gc_gt _ _ | exact gc_gf _ _); (obtain ⟨os1, d1, rfl⟩ := h1.more; (try simp only [gv_of hc]); (try (have hc1 := and_l hc; (try simp only [gv_of hc1]); (try (have hc2 := and_l hc1; (try simp only [gv_of hc2]))))); go_simp; first | done | rfl))); try simp only [Act.put, zqA, zqB, zqC])
                (refine wpPl_effskip rfl ?_ ?_ ?_; (first | with_reducible rfl | rfl | (go_simp; done)); (repeat (first | (with_reducible (first | exact Ext.refl _ | exact ext_d _ _ _ _ | exact ext_app _ _ _ _ _ | exact ext_app2 _ _ _ _ _ _ | exact ext_app3 _ _ _ _ _ _ _ | exact ext_app4 _ _ _ _ _ _ _ _ | exact ext_app5 _ _ _ _ _ _ _ _ _)) | ((with_reducible refine ext_suffix ⟨_, ?_⟩); (try simp only [Array.append_assoc]); rfl) | (with_reducible (first | apply Ext.drew | apply Ext.alloc | apply Ext.more_)) | apply Ext.drew | apply Ext.alloc | apply Ext.more_)))
                try simp only [Act.put, zqA, zqB, zqC]
                first | (refine wpPl_pick_and rfl rfl rfl rfl rfl rfl ?_) | (refine wpPl_pick_or rfl rfl rfl rfl rfl rfl ?_) | (refine wpPl_read (v := ?_) rfl ?_ (fun w1 h1 => ?_) ?_; rotate_left 1; rfl; (obtain ⟨os1, d1, rfl⟩ := h1.more; go_simp; first | done | rfl))
                try simp only [Act.put, zqA, zqB, zqC]
                refine wpPl_nil ?_
                go_upto_region 17 with fail; refine wp_world fun U hU => ?_; (have hxU : Ext wr U := by rw [hU]; exact (by with_reducible repeat (first | exact Ext.refl _ | exact ext_d _ _ _ _ | exact ext_app _ _ _ _ _ | exact ext_app2 _ _ _ _ _ _ | exact ext_app3 _ _ _ _ _ _ _ | apply Ext.drew | apply Ext.alloc | apply Ext.more_))); clear hU; (have HOU := Lib.hid (own_ext HO.out (hxr.trans hxU))); (have hwU : Ext wc U := hxw.trans hxU); (have hjc : j ≤ cg := by omega); obtain ⟨go, hgo⟩ : ∃ o, (if cg = j then (some ⟨g, 0, none⟩ : Option Addr) else some ⟨g, j, none⟩) = some ⟨g, o, none⟩ := (by split <;> exact ⟨_, rfl⟩); (have HRd := Lib.hid (tail_rd HOU.out hkc HLS.out hgo)); (have hlt4 : (S.take j).length = j := by rw [List.length_take, HLS.out]; omega); (have hld4 : (S.drop j).length = k - j := by rw [List.length_drop, HLS.out]); (have HL4 := Lib.hid (And.intro hlt4 hld4)); (have hn6 : j + 1 + (k - j) = k + 1 := by omega); (have HN6 := Lib.hid hn6); clear hlt4 hld4 hn6; refine wp_floatG [(1, 0), (2, 0), (3, 0), (5, 0), (8, 0), (9, 0), (10, 0), (6, 4), (0, 4), (0, 3), (4, 1), (6, 3), (7, 5), (11, 5), (12, 0)] [] [] [] (by kernel_rfl) (by kernel_rfl) (by kernel_rfl) (fun _ _ d _ _ h => by cases d <;> exact h) (fun _ _ d _ _ h => by cases d <;> exact h) ?_; (refine wpFg_read (v := ?_) rfl ?_ (fun w1 h1 => ?_) ?_; rotate_left 1; rfl; (obtain ⟨os1, d1, rfl⟩ := h1.more; go_simp; first | done | rfl)); (try simp only [Act.put, zqA, zqB, zqC]); (refine wpFg_read (v := ?_) rfl ?_ (fun w1 h1 => ?_) ?_; rotate_left 1; rfl; (obtain ⟨os1, d1, rfl⟩ := h1.more; go_simp; first | done | rfl)); (try simp only [Act.put, zqA, zqB, zqC]); (refine wpFg_read (v := ?_) rfl ?_ (fun w1 h1 => ?_) ?_; rotate_left 1; rfl; (obtain ⟨os1, d1, rfl⟩ := h1.more; go_simp; first | done | rfl)); (try simp only [Act.put, zqA, zqB, zqC]); (refine wpFg_read (v := ?_) rfl ?_ (fun w1 h1 => ?_) ?_; rotate_left 1; rfl; (obtain ⟨os1, d1, rfl⟩ := h1.more; go_simp; first | done | rfl)); (try simp only [Act.put, zqA, zqB, zqC]); (refine wpFg_read (v := ?_) rfl ?_ (fun w1 h1 => ?_) ?_; rotate_left 1; rfl; (obtain ⟨os1, d1, rfl⟩ := h1.more; go_simp; first | done | rfl)); (try simp only [Act.put, zqA, zqB, zqC]); (refine wpFg_read (v := ?_) rfl ?_ (fun w1 h1 => ?_) ?_; rotate_left 1; rfl; (obtain ⟨os1, d1, rfl⟩ := h1.more; go_simp; first | done | rfl)); (try simp only [Act.put, zqA, zqB, zqC]); (refine wpFg_read (v := ?_) rfl ?_ (fun w1 h1 => ?_) ?_; rotate_left 1; rfl; (obtain ⟨os1, d1, rfl⟩ := h1.more; go_simp; first | done | rfl)); (try simp only [Act.put, zqA, zqB, zqC]); (refine wpFg_launch (t := 91) ?_ (fun b => .slice (some ⟨b, 0, none⟩) 1 1) rfl rfl rfl (fun w1 => ?_) ?_; rotate_left 1; (go_simp; first | done | rfl)); (refine wpFg_launch (t := 85) ?_ (fun b => .slice (some ⟨b, 0, none⟩) 0 0) rfl rfl rfl (fun w1 => ?_) ?_; rotate_left 1; (go_simp; first | done | rfl)); refine wpFg_wait fun q1 g1 n1 _ => ?_; refine ⟨fun W => W.heap[q1]? = some (.cells #[] 3), fun w1 w2 hx h => (hx.block (lt_of_block h)).trans h, fun W _ hE h1 => h1, ?_⟩; (try simp only [Act.put, zqA, zqB, zqC]); (refine wpFg_eff rfl ?_ (fun wf hXf hE K hK => ?_); rfl); refine wp_append_new _ _ _ _ rfl U.heap.size 3 i0 (.int .i64 0) 8 Tryz.underlying37 hi0 hz0 hz1 hz2 rfl q1 rfl hE g1 _ j _ (i6 (S.take j)) rfl (by unfold i6; rw [List.length_map]; exact HL4.out.1) (Rd.ext (head_rd HOU.out j) (((Ext.refl _).drew).trans hXf)) (by simp only [maxLen]; omega) (by omega) ?_; intro v4 os4 d4 ho4; obtain ⟨G4, c4, rfl⟩ := own_slice ho4; refine hK _ _ (fun W => W.ownsRow U.heap.size 3 1 (.slice G4 j c4) j (i6 (S.take j))) (ext_more _ _ _) (fun _ _ hx h => own_ext h hx) ho4 ?_; (try simp only [Act.put, zqA, zqB, zqC]); refine wpFg_wait fun q2 g2 n2 _ => ?_; refine ⟨fun W => W.ownsRow U.heap.size 3 1 (.slice G4 j c4) j (i6 (S.take j)) ∧ W.cell? ⟨q2, 0, none⟩ = some (.int .i64 (k : Int)), fun w1 w2 hx h => ⟨own_ext h.1 hx, hx.cell_some h.2⟩, fun W _ hE h1 => ⟨hE, cell_of_row _ _ 0 _ _ _ h1⟩, ?_⟩; (try simp only [Act.put, zqA, zqB, zqC]); (refine wpFg_store rfl ?_ (fun wf hXf hE K hK => ?_); rfl); refine wp_append_own1 _ _ _ _ rfl U.heap.size 3 i0 (.int .i64 0) 1 8 Tryz.underlying37 hi0 hz0 hz1 hz2 rfl (by decide) _ j _ rfl hE.1 _ 1 1 [.int .i64 (k : Int)] rfl rfl (read_one hE.2) (one_i64 _) (by simp only [maxLen]; omega) (by omega) hXf.size ?_; intro v5 w5 ho5 hg5; obtain ⟨G5, c5, rfl⟩ := own_slice ho5; refine hK _ _ (fun W => W.ownsRow U.heap.size 3 1 (.slice G5 (j + 1) c5) (j + 1) (i6 (S.take j) ++ [.int .i64 (k : Int)])) (ext_grown (X := U.drew) hXf hE.1 hg5) hg5.size (fun _ _ hx h => own_ext h hx) ho5 ?_; (try simp only [Act.put, zqA, zqB, zqC]); (refine wpFg_store rfl ?_ (fun wf hXf hE K hK => ?_); rfl); refine wp_append_own1 _ _ _ _ rfl U.heap.size 3 i0 (.int .i64 0) 1 8 Tryz.underlying37 hi0 hz0 hz1 hz2 rfl (by decide) _ (j + 1) _ rfl hE ⟨g, go, none⟩ (k - j) (cg - j) (i6 (S.drop j)) rfl (by unfold i6; rw [List.length_map, Nat.mul_one]; exact HL4.out.2) (Rd.add (Rd.ext HRd.out (((Ext.refl _).drew).trans hXf))) (one_i6 _) (by simp only [maxLen]; omega) (by omega) hXf.size ?_; intro v6 w6 ho6 hg6; rw [HN6.out] at ho6; obtain ⟨g6, c6, rfl⟩ := own_at ho6 (Nat.succ_pos _); refine hK _ _ (fun W => W.ownsRow U.heap.size 3 1 (.slice (some ⟨g6, 0, none⟩) (k + 1) c6) (k + 1) (i6 (S.take j) ++ [.int .i64 (k : Int)] ++ i6 (S.drop j))) (ext_grown (X := U.drew) hXf hE hg6) hg6.size (fun _ _ hx h => own_ext h hx) ho6 ?_; (try simp only [Act.put, zqA, zqB, zqC]); (refine wpFg_read (v := ?_) rfl ?_ (fun w1 h1 => ?_) ?_; rotate_left 1; rfl; (obtain ⟨os1, d1, rfl⟩ := h1.more; go_simp; first | done | rfl)); (try simp only [Act.put, zqA, zqB, zqC]); (refine wpFg_done fun wz hXz hE => ?_; obtain ⟨osz, dz, rfl⟩ := hXz.more); refine wpTl_nil ?_; (simp only [drew_more] at hE); (have HE := Lib.hid (own_low (base' := wc.heap.size) hE hwU.size)); clear hE; go_wp2_with fail; refine ⟨⟨k + 1, g6, c6, by omega, by go_num, rfl, ?_, hwU.trans (by with_reducible repeat (first | exact Ext.refl _ | apply Ext.drew | apply Ext.alloc | apply Ext.more_))⟩, by simp [intOf]; omega⟩; (show World.ownsRow _ _ _ _ _ _ _); rw [← HT.out, ← i6_mid]; exact own_ext HE.out (by with_reducible repeat (first | exact Ext.refl _ | exact ext_d _ _ _ _ | exact ext_app _ _ _ _ _ | exact ext_app2 _ _ _ _ _ _ | exact ext_app3 _ _ _ _ _ _ _ | apply Ext.drew | apply Ext.alloc | apply Ext.more_))
              · have hjn : 0 < j := by omega
                obtain ⟨j', hjj⟩ : ∃ j', j - 1 = j' := ⟨_, rfl⟩
                have ej : IntKind.i64.wrap ((j : Int) - 1) = (j' : Int) := by rw [IntKind.wrap_i64]; omega
                have hj'k : j' < k := by omega
                obtain ⟨y, hy⟩ : ∃ y, S[j']? = some y := ⟨_, List.getElem?_eq_getElem (by rw [HLS.out]; omega)⟩
                have hyk : y < k := sortN_lt (ltS_swo (rightA_nat.1 HXR.out).2.2.2.2 _ _) y (by rw [HSk.out]; exact List.mem_of_getElem? hy)
                have cy : wr.cell? ⟨g, j', none⟩ = some (.int .i64 (y : Int)) := by
                  have := (own_ext HO.out hxr).cells (g := g) rfl j' (.int .i64 (y : Int)) (by unfold i6; rw [List.getElem?_map, hy]; rfl)
                  rw [Addr.add_mid] at this; simpa using this
                have lg : g < wr.heap.size := lt_of_cell cy
                obtain ⟨t1, t2, t3, t4, t5⟩ := row_at HXR.out HA.out hlt hcC
                obtain ⟨s1, s2, s3, s4, s5⟩ := row_at HXR.out HA.out (show y < R by omega) hcC
                simp only at t1 s1
                have hwf := (rightA_nat.1 HXR.out).2.2.2.2
                obtain ⟨xv, bx, ox, hxx, hxo, e, hxat⟩ := HA.out.at t1
                simp only [Option.some.injEq, Addr.mk.injEq, and_true] at e
                obtain ⟨rfl, rfl⟩ := e
                obtain ⟨yv, b', off', hyy, hyo, e, hyat⟩ := HA.out.at s1
                simp only [Option.some.injEq, Addr.mk.injEq, and_true] at e
                obtain ⟨rfl, rfl⟩ := e
                have hxr' : xv.right := hwf xv (List.mem_of_getElem? hxx)
                have hyr' : yv.right := hwf yv (List.mem_of_getElem? hyy)
                have hw1 := fun W (hW : Ext wr W) => rrow_any R C l b1 off1 n1 cap1 k W (HA.out.ext (hx.trans (hxw.trans hW))) HXR.out hlt
                have hw2 := fun W (hW : Ext wr W) => rrow_any R C l b1 off1 n1 cap1 y W (HA.out.ext (hx.trans (hxw.trans hW))) HXR.out (by omega)
                have hah := fun W => rahead_any xv yv dn W hxr' hyr'
                have hlq : ltS ⟨R, C, l⟩ cc dn k y = aheadB dn xv yv := by
                  unfold ltS
                  have gx : getV l (k * C + cc) = xv := by unfold getV; rw [hxx]; rfl
                  have gy : getV l (y * C + cc) = yv := by unfold getV; rw [hyy]; rfl
                  show aheadB dn (getV l (k * C + cc)) (getV l (y * C + cc)) = _
                  rw [gx, gy]
                have ex : off1 + (k * C + cc) * 6 = off1 + k * C * 6 + cc * 6 := by rw [Nat.add_mul]; omega
                have ey : off1 + (y * C + cc) * 6 = off1 + y * C * 6 + cc * 6 := by rw [Nat.add_mul]; omega
                replace hxat := hxat.ext (hx.trans hxw)
                replace hyat := hyat.ext (hx.trans hxw)
                rw [ex] at hxat
                rw [ey] at hyat
                generalize off1 + k * C * 6 = u at *
                generalize off1 + y * C * 6 = v at *
                generalize cap1 - k * C = ck at *
                generalize cap1 - y * C = cq at *
                obtain ⟨x0, x1, x2, x3, x4, x5⟩ := hxat
                obtain ⟨y0, y1, y2, y3, y4, y5⟩ := hyat
                have lb := lt_of_cell x0
                generalize aheadB dn xv yv = q at *
                have HQ := Lib.hid (And.intro hy hlq)
                clear hy hlq hxx hyy hxo hyo hwf hxr' hyr' ex ey t1 t2 t3 t4 t5 s1 s2 s3 s4 s5
                cases q with
                | true =>
                  go_upto_region 15 with fail
                  refine wp_plan (S := Ext _) [(0, 0), (1, 0), (2, 0), (3, 0), (4, 0), (6, 0), (7, 0), (10, 0), (11, 0), (12, 0), (13, 0), (14, 0), (15, 0), (17, 0), (18, 0), (21, 0), (22, 0), (5, 1), (8, 0), (9, 0), (16, 1), (19, 0), (20, 0), (23, 1), (24, 0)] [] (by kernel_rfl) (by kernel_rfl) (by kernel_rfl) (fun _ _ d _ _ h => by cases d <;> exact h) (Ext.drew (Ext.refl _)) ?_
                  iterate 3 ((refine wpPl_read (v := ?_) rfl ?_ (fun _ h => ?_) ?_; rotate_left 1; rfl; (obtain ⟨_, _, rfl⟩ := h.more; go_simp; try rfl)); try simp only [Act.put, zqA, zqB, zqC])
                  iterate 14 ((first | (refine wpPl_skip rfl rfl ?_) | (refine wpPl_read (v := ?_) rfl ?_ (fun w1 h1 => ?_) ?_; rotate_left 1; rfl; (obtain ⟨os1, d1, rfl⟩ := h1.more; go_simp; first | done | rfl)) | (refine wpPl_gread (v := ?_) (c := ?_) rfl rfl rfl rfl ?_ (fun hc w1 h1 => ?_) ?_; rotate_left 2; (first | exact gc_t _ | exact gc_f _ | exact gc_gt _ _ | exact gc_gf _ _); (obtain ⟨os1, d1, rfl⟩ := h1.more; (try simp only [gv_of hc]); (try (have hc1 := and_l hc; (try simp only [gv_of hc1]); (try (have hc2 := and_l hc1; (try simp only [gv_of hc2]))))); go_simp; first | done | rfl))); try simp only [Act.put, zqA, zqB, zqC])
                  (refine wpPl_eff rfl ?_ (fun K hK => ?_); (first | with_reducible rfl | rfl | (go_simp; done)); go_simp; refine (hw1 _ (by with_reducible repeat (first | exact Ext.refl _ | apply Ext.drew | apply Ext.alloc | apply Ext.more_))).mono ?_; rintro e w' ⟨rfl, hb⟩; obtain ⟨os3, d3, rfl⟩ := hb.more; clear hb; refine hK _ _ ?_ ?_; (repeat (first | (with_reducible (first | exact Ext.refl _ | exact ext_d _ _ _ _ | exact ext_app _ _ _ _ _ | exact ext_app2 _ _ _ _ _ _ | exact ext_app3 _ _ _ _ _ _ _ | exact ext_app4 _ _ _ _ _ _ _ _ | exact ext_app5 _ _ _ _ _ _ _ _ _)) | ((with_reducible refine ext_suffix ⟨_, ?_⟩); (try simp only [Array.append_assoc]); rfl) | (with_reducible (first | apply Ext.drew | apply Ext.alloc | apply Ext.more_)) | apply Ext.drew | apply Ext.alloc | apply Ext.more_)))
                  try simp only [Act.put, zqA, zqB, zqC]
                  iterate 2 ((first | (refine wpPl_skip rfl rfl ?_) | (refine wpPl_read (v := ?_) rfl ?_ (fun w1 h1 => ?_) ?_; rotate_left 1; rfl; (obtain ⟨os1, d1, rfl⟩ := h1.more; go_simp; first | done | rfl)) | (refine wpPl_gread (v := ?_) (c := ?_) rfl rfl rfl rfl ?_ (fun hc w1 h1 => ?_) ?_; rotate_left 2; (first | exact gc_t _ | exact gc_f _ | exact gc_gt _ _ | exact gc_gf _ _); (obtain ⟨os1, d1, rfl⟩ := h1.more; (try simp only [gv_of hc]); (try (have hc1 := and_l hc; (try simp only [gv_of hc1]); (try (have hc2 := and_l hc1; (try simp only [gv_of hc2]))))); go_simp; first | done | rfl))); try simp only [Act.put, zqA, zqB, zqC])
                  (refine wpPl_eff rfl ?_ (fun K hK => ?_); (first | with_reducible rfl | rfl | (go_simp; done)); go_simp; refine (hw2 _ (by with_reducible repeat (first | exact Ext.refl _ | apply Ext.drew | apply Ext.alloc | apply Ext.more_))).mono ?_; rintro e w' ⟨rfl, hb⟩; obtain ⟨os4, d4, rfl⟩ := hb.more; clear hb; refine hK _ _ ?_ ?_; (repeat (first | (with_reducible (first | exact Ext.refl _ | exact ext_d _ _ _ _ | exact ext_app _ _ _ _ _ | exact ext_app2 _ _ _ _ _ _ | exact ext_app3 _ _ _ _ _ _ _ | exact ext_app4 _ _ _ _ _ _ _ _ | exact ext_app5 _ _ _ _ _ _ _ _ _)) | ((with_reducible refine ext_suffix ⟨_, ?_⟩); (try simp only [Array.append_assoc]); rfl) | (with_reducible (first | apply Ext.drew | apply Ext.alloc | apply Ext.more_)) | apply Ext.drew | apply Ext.alloc | apply Ext.more_)))
                  try simp only [Act.put, zqA, zqB, zqC]
                  iterate 2 ((first | (refine wpPl_skip rfl rfl ?_) | (refine wpPl_read (v := ?_) rfl ?_ (fun w1 h1 => ?_) ?_; rotate_left 1; rfl; (obtain ⟨os1, d1, rfl⟩ := h1.more; go_simp; first | done | rfl)) | (refine wpPl_gread (v := ?_) (c := ?_) rfl rfl rfl rfl ?_ (fun hc w1 h1 => ?_) ?_; rotate_left 2; (first | exact gc_t _ | exact gc_f _ | exact gc_gt _ _ | exact gc_gf _ _); (obtain ⟨os1, d1, rfl⟩ := h1.more; (try simp only [gv_of hc]); (try (have hc1 := and_l hc; (try simp only [gv_of hc1]); (try (have hc2 := and_l hc1; (try simp only [gv_of hc2]))))); go_simp; first | done | rfl))); try simp only [Act.put, zqA, zqB, zqC])
                  (refine wpPl_eff rfl ?_ (fun K hK => ?_); (first | with_reducible rfl | rfl | (go_simp; done)); go_simp; refine (hah _).mono ?_; rintro e w' ⟨rfl, hb⟩; obtain ⟨os5, d5, rfl⟩ := hb.more; clear hb; refine hK _ _ ?_ ?_; (repeat (first | (with_reducible (first | exact Ext.refl _ | exact ext_d _ _ _ _ | exact ext_app _ _ _ _ _ | exact ext_app2 _ _ _ _ _ _ | exact ext_app3 _ _ _ _ _ _ _ | exact ext_app4 _ _ _ _ _ _ _ _ | exact ext_app5 _ _ _ _ _ _ _ _ _)) | ((with_reducible refine ext_suffix ⟨_, ?_⟩); (try simp only [Array.append_assoc]); rfl) | (with_reducible (first | apply Ext.drew | apply Ext.alloc | apply Ext.more_)) | apply Ext.drew | apply Ext.alloc | apply Ext.more_)))
                  try simp only [Act.put, zqA, zqB, zqC]
                  first | (refine wpPl_pick_and rfl rfl rfl rfl rfl rfl ?_) | (refine wpPl_pick_or rfl rfl rfl rfl rfl rfl ?_) | (refine wpPl_read (v := ?_) rfl ?_ (fun w1 h1 => ?_) ?_; rotate_left 1; rfl; (obtain ⟨os1, d1, rfl⟩ := h1.more; go_simp; first | done | rfl))
                  try simp only [Act.put, zqA, zqB, zqC]
                  refine wpPl_nil ?_
                  go_wp2_with fail
                  exact ⟨⟨j', by omega, by go_num, Or.inr ⟨y, HQ.out.1, HQ.out.2⟩, hxr.trans (by with_reducible repeat (first | exact Ext.refl _ | exact ext_d _ _ _ _ | exact ext_app _ _ _ _ _ | exact ext_app2 _ _ _ _ _ _ | exact ext_app3 _ _ _ _ _ _ _ | apply Ext.drew | apply Ext.alloc | apply Ext.more_))⟩, by simp [intOf]; omega⟩
                | false =>
                  have HT : Hid (S.take j ++ k :: S.drop j = sortN (ltS ⟨R, C, l⟩ cc dn) (k + 1)) := by
                    show _ = _
                    rw [← HSk.out]
                    exact doc_step (ltS_swo (rightA_nat.1 HXR.out).2.2.2.2 _ _) hj (by rw [HSk.out]; exact HD.out) (Or.inr ⟨y, by rw [HSk.out, hjj]; exact HQ.out.1, HQ.out.2⟩)
                  go_upto_region 15 with fail
                  refine wp_plan (S := Ext _) [(0, 0), (1, 0), (2, 0), (3, 0), (4, 0), (6, 0), (7, 0), (10, 0), (11, 0), (12, 0), (13, 0), (14, 0), (15, 0), (17, 0), (18, 0), (21, 0), (22, 0), (5, 1), (8, 0), (9, 0), (16, 1), (19, 0), (20, 0), (23, 1), (24, 0)] [] (by kernel_rfl) (by kernel_rfl) (by kernel_rfl) (fun _ _ d _ _ h => by cases d <;> exact h) (Ext.drew (Ext.refl _)) ?_
                  iterate 3 ((refine wpPl_read (v := ?_) rfl ?_ (fun _ h => ?_) ?_; rotate_left 1; rfl; (obtain ⟨_, _, rfl⟩ := h.more; go_simp; try rfl)); try simp only [Act.put, zqA, zqB, zqC])
                  iterate 14 ((first | (refine wpPl_skip rfl rfl ?_) | (refine wpPl_read (v := ?_) rfl ?_ (fun w1 h1 => ?_) ?_; rotate_left 1; rfl; (obtain ⟨os1, d1, rfl⟩ := h1.more; go_simp; first | done | rfl)) | (refine wpPl_gread (v := ?_) (c := ?_) rfl rfl rfl rfl ?_ (fun hc w1 h1 => ?_) ?_; rotate_left 2; (first | exact gc_t _ | exact gc_f _ | exact gc_gt _ _ | exact gc_gf _ _); (obtain ⟨os1, d1, rfl⟩ := h1.more; (try simp only [gv_of hc]); (try (have hc1 := and_l hc; (try simp only [gv_of hc1]); (try (have hc2 := and_l hc1; (try simp only [gv_of hc2]))))); go_simp; first | done | rfl))); try simp only [Act.put, zqA, zqB, zqC])
                  (refine wpPl_eff rfl ?_ (fun K hK => ?_); (first | with_reducible rfl | rfl | (go_simp; done)); go_simp; refine (hw1 _ (by with_reducible repeat (first | exact Ext.refl _ | apply Ext.drew | apply Ext.alloc | apply Ext.more_))).mono ?_; rintro e w' ⟨rfl, hb⟩; obtain ⟨os3, d3, rfl⟩ := hb.more; clear hb; refine hK _ _ ?_ ?_; (repeat (first | (with_reducible (first | exact Ext.refl _ | exact ext_d _ _ _ _ | exact ext_app _ _ _ _ _ | exact ext_app2 _ _ _ _ _ _ | exact ext_app3 _ _ _ _ _ _ _ | exact ext_app4 _ _ _ _ _ _ _ _ | exact ext_app5 _ _ _ _ _ _ _ _ _)) | ((with_reducible refine ext_suffix ⟨_, ?_⟩); (try simp only [Array.append_assoc]); rfl) | (with_reducible (first | apply Ext.drew | apply Ext.alloc | apply Ext.more_)) | apply Ext.drew | apply Ext.alloc | apply Ext.more_)))
                  try simp only [Act.put, zqA, zqB, zqC]
                  iterate 2 ((first | (refine wpPl_skip rfl rfl ?_) | (refine wpPl_read (v := ?_) rfl ?_ (fun w1 h1 => ?_) ?_; rotate_left 1; rfl; (obtain ⟨os1, d1, rfl⟩ := h1.more; go_simp; first | done | rfl)) | (refine wpPl_gread (v := ?_) (c := ?_) rfl rfl rfl rfl ?_ (fun hc w1 h1 => ?_) ?_; rotate_left 2; (first | exact gc_t _ | exact gc_f _ | exact gc_gt _ _ | exact gc_gf _ _); (obtain ⟨os1, d1, rfl⟩ := h1.more; (try simp only [gv_of hc]); (try (have hc1 := and_l hc; (try simp only [gv_of hc1]); (try (have hc2 := and_l hc1; (try simp only [gv_of hc2]))))); go_simp; first | done | rfl))); try simp only [Act.put, zqA, zqB, zqC])
                  (refine wpPl_eff rfl ?_ (fun K hK => ?_); (first | with_reducible rfl | rfl | (go_simp; done)); go_simp; refine (hw2 _ (by with_reducible repeat (first | exact Ext.refl _ | apply Ext.drew | apply Ext.alloc | apply Ext.more_))).mono ?_; rintro e w' ⟨rfl, hb⟩; obtain ⟨os4, d4, rfl⟩ := hb.more; clear hb; refine hK _ _ ?_ ?_; (repeat (first | (with_reducible (first | exact Ext.refl _ | exact ext_d _ _ _ _ | exact ext_app _ _ _ _ _ | exact ext_app2 _ _ _ _ _ _ | exact ext_app3 _ _ _ _ _ _ _ | exact ext_app4 _ _ _ _ _ _ _ _ | exact ext_app5 _ _ _ _ _ _ _ _ _)) | ((with_reducible refine ext_suffix ⟨_, ?_⟩); (try simp only [Array.append_assoc]); rfl) | (with_reducible (first | apply Ext.drew | apply Ext.alloc | apply Ext.more_)) | apply Ext.drew | apply Ext.alloc | apply Ext.more_)))
                  try simp only [Act.put, zqA, zqB, zqC]
                  iterate 2 ((first | (refine wpPl_skip rfl rfl ?_) | (refine wpPl_read (v := ?_) rfl ?_ (fun w1 h1 => ?_) ?_; rotate_left 1; rfl; (obtain ⟨os1, d1, rfl⟩ := h1.more; go_simp; first | done | rfl)) | (refine wpPl_gread (v := ?_) (c := ?_) rfl rfl rfl rfl ?_ (fun hc w1 h1 => ?_) ?_; rotate_left 2; (first | exact gc_t _ | exact gc_f _ | exact gc_gt _ _ | exact gc_gf _ _); (obtain ⟨os1, d1, rfl⟩ := h1.more; (try simp only [gv_of hc]); (try (have hc1 := and_l hc; (try simp only [gv_of hc1]); (try (have hc2 := and_l hc1; (try simp only [gv_of hc2]))))); go_simp; first | done | rfl))); try simp only [Act.put, zqA, zqB, zqC])
                  (refine wpPl_eff rfl ?_ (fun K hK => ?_); (first | with_reducible rfl | rfl | (go_simp; done)); go_simp; refine (hah _).mono ?_; rintro e w' ⟨rfl, hb⟩; obtain ⟨os5, d5, rfl⟩ := hb.more; clear hb; refine hK _ _ ?_ ?_; (repeat (first | (with_reducible (first | exact Ext.refl _ | exact ext_d _ _ _ _ | exact ext_app _ _ _ _ _ | exact ext_app2 _ _ _ _ _ _ | exact ext_app3 _ _ _ _ _ _ _ | exact ext_app4 _ _ _ _ _ _ _ _ | exact ext_app5 _ _ _ _ _ _ _ _ _)) | ((with_reducible refine ext_suffix ⟨_, ?_⟩); (try simp only [Array.append_assoc]); rfl) | (with_reducible (first | apply Ext.drew | apply Ext.alloc | apply Ext.more_)) | apply Ext.drew | apply Ext.alloc | apply Ext.more_)))
                  try simp only [Act.put, zqA, zqB, zqC]
                  first | (refine wpPl_pick_and rfl rfl rfl rfl rfl rfl ?_) | (refine wpPl_pick_or rfl rfl rfl rfl rfl rfl ?_) | (refine wpPl_read (v := ?_) rfl ?_ (fun w1 h1 => ?_) ?_; rotate_left 1; rfl; (obtain ⟨os1, d1, rfl⟩ := h1.more; go_simp; first | done | rfl))
                  try simp only [Act.put, zqA, zqB, zqC]
                  refine wpPl_nil ?_
                  clear x0 x1 x2 x3 x4 x5 y0 y1 y2 y3 y4 y5 hw1 hw2 hah hjj ej
                  go_upto_region 17 with fail; refine wp_world fun U hU => ?_; (have hxU : Ext wr U := by rw [hU]; exact (by with_reducible repeat (first | exact Ext.refl _ | exact ext_d _ _ _ _ | exact ext_app _ _ _ _ _ | exact ext_app2 _ _ _ _ _ _ | exact ext_app3 _ _ _ _ _ _ _ | apply Ext.drew | apply Ext.alloc | apply Ext.more_))); clear hU; (have HOU := Lib.hid (own_ext HO.out (hxr.trans hxU))); (have hwU : Ext wc U := hxw.trans hxU); (have hjc : j ≤ cg := by omega); obtain ⟨go, hgo⟩ : ∃ o, (if cg = j then (some ⟨g, 0, none⟩ : Option Addr) else some ⟨g, j, none⟩) = some ⟨g, o, none⟩ := (by split <;> exact ⟨_, rfl⟩); (have HRd := Lib.hid (tail_rd HOU.out hkc HLS.out hgo)); (have hlt4 : (S.take j).length = j := by rw [List.length_take, HLS.out]; omega); (have hld4 : (S.drop j).length = k - j := by rw [List.length_drop, HLS.out]); (have HL4 := Lib.hid (And.intro hlt4 hld4)); (have hn6 : j + 1 + (k - j) = k + 1 := by omega); (have HN6 := Lib.hid hn6); clear hlt4 hld4 hn6; refine wp_floatG [(1, 0), (2, 0), (3, 0), (5, 0), (8, 0), (9, 0), (10, 0), (6, 4), (0, 4), (0, 3), (4, 1), (6, 3), (7, 5), (11, 5), (12, 0)] [] [] [] (by kernel_rfl) (by kernel_rfl) (by kernel_rfl) (fun _ _ d _ _ h => by cases d <;> exact h) (fun _ _ d _ _ h => by cases d <;> exact h) ?_; (refine wpFg_read (v := ?_) rfl ?_ (fun w1 h1 => ?_) ?_; rotate_left 1; rfl; (obtain ⟨os1, d1, rfl⟩ := h1.more; go_simp; first | done | rfl)); (try simp only [Act.put, zqA, zqB, zqC]); (refine wpFg_read (v := ?_) rfl ?_ (fun w1 h1 => ?_) ?_; rotate_left 1; rfl; (obtain ⟨os1, d1, rfl⟩ := h1.more; go_simp; first | done | rfl)); (try simp only [Act.put, zqA, zqB, zqC]); (refine wpFg_read (v := ?_) rfl ?_ (fun w1 h1 => ?_) ?_; rotate_left 1; rfl; (obtain ⟨os1, d1, rfl⟩ := h1.more; go_simp; first | done | rfl)); (try simp only [Act.put, zqA, zqB, zqC]); (refine wpFg_read (v := ?_) rfl ?_ (fun w1 h1 => ?_) ?_; rotate_left 1; rfl; (obtain ⟨os1, d1, rfl⟩ := h1.more; go_simp; first | done | rfl)); (try simp only [Act.put, zqA, zqB, zqC]); (refine wpFg_read (v := ?_) rfl ?_ (fun w1 h1 => ?_) ?_; rotate_left 1; rfl; (obtain ⟨os1, d1, rfl⟩ := h1.more; go_simp; first | done | rfl)); (try simp only [Act.put, zqA, zqB, zqC]); (refine wpFg_read (v := ?_) rfl ?_ (fun w1 h1 => ?_) ?_; rotate_left 1; rfl; (obtain ⟨os1, d1, rfl⟩ := h1.more; go_simp; first | done | rfl)); (try simp only [Act.put, zqA, zqB, zqC]); (refine wpFg_read (v := ?_) rfl ?_ (fun w1 h1 => ?_) ?_; rotate_left 1; rfl; (obtain ⟨os1, d1, rfl⟩ := h1.more; go_simp; first | done | rfl)); (try simp only [Act.put, zqA, zqB, zqC]); (refine wpFg_launch (t := 91) ?_ (fun b => .slice (some ⟨b, 0, none⟩) 1 1) rfl rfl rfl (fun w1 => ?_) ?_; rotate_left 1; (go_simp; first | done | rfl)); (refine wpFg_launch (t := 85) ?_ (fun b => .slice (some ⟨b, 0, none⟩) 0 0) rfl rfl rfl (fun w1 => ?_) ?_; rotate_left 1; (go_simp; first | done | rfl)); refine wpFg_wait fun q1 g1 n1 _ => ?_; refine ⟨fun W => W.heap[q1]? = some (.cells #[] 3), fun w1 w2 hx h => (hx.block (lt_of_block h)).trans h, fun W _ hE h1 => h1, ?_⟩; (try simp only [Act.put, zqA, zqB, zqC]); (refine wpFg_eff rfl ?_ (fun wf hXf hE K hK => ?_); rfl); refine wp_append_new _ _ _ _ rfl U.heap.size 3 i0 (.int .i64 0) 8 Tryz.underlying37 hi0 hz0 hz1 hz2 rfl q1 rfl hE g1 _ j _ (i6 (S.take j)) rfl (by unfold i6; rw [List.length_map]; exact HL4.out.1) (Rd.ext (head_rd HOU.out j) (((Ext.refl _).drew).trans hXf)) (by simp only [maxLen]; omega) (by omega) ?_; intro v4 os4 d4 ho4; obtain ⟨G4, c4, rfl⟩ := own_slice ho4; refine hK _ _ (fun W => W.ownsRow U.heap.size 3 1 (.slice G4 j c4) j (i6 (S.take j))) (ext_more _ _ _) (fun _ _ hx h => own_ext h hx) ho4 ?_; (try simp only [Act.put, zqA, zqB, zqC]); refine wpFg_wait fun q2 g2 n2 _ => ?_; refine ⟨fun W => W.ownsRow U.heap.size 3 1 (.slice G4 j c4) j (i6 (S.take j)) ∧ W.cell? ⟨q2, 0, none⟩ = some (.int .i64 (k : Int)), fun w1 w2 hx h => ⟨own_ext h.1 hx, hx.cell_some h.2⟩, fun W _ hE h1 => ⟨hE, cell_of_row _ _ 0 _ _ _ h1⟩, ?_⟩; (try simp only [Act.put, zqA, zqB, zqC]); (refine wpFg_store rfl ?_ (fun wf hXf hE K hK => ?_); rfl); refine wp_append_own1 _ _ _ _ rfl U.heap.size 3 i0 (.int .i64 0) 1 8 Tryz.underlying37 hi0 hz0 hz1 hz2 rfl (by decide) _ j _ rfl hE.1 _ 1 1 [.int .i64 (k : Int)] rfl rfl (read_one hE.2) (one_i64 _) (by simp only [maxLen]; omega) (by omega) hXf.size ?_; intro v5 w5 ho5 hg5; obtain ⟨G5, c5, rfl⟩ := own_slice ho5; refine hK _ _ (fun W => W.ownsRow U.heap.size 3 1 (.slice G5 (j + 1) c5) (j + 1) (i6 (S.take j) ++ [.int .i64 (k : Int)])) (ext_grown (X := U.drew) hXf hE.1 hg5) hg5.size (fun _ _ hx h => own_ext h hx) ho5 ?_; (try simp only [Act.put, zqA, zqB, zqC]); (refine wpFg_store rfl ?_ (fun wf hXf hE K hK => ?_); rfl); refine wp_append_own1 _ _ _ _ rfl U.heap.size 3 i0 (.int .i64 0) 1 8 Tryz.underlying37 hi0 hz0 hz1 hz2 rfl (by decide) _ (j + 1) _ rfl hE ⟨g, go, none⟩ (k - j) (cg - j) (i6 (S.drop j)) rfl (by unfold i6; rw [List.length_map, Nat.mul_one]; exact HL4.out.2) (Rd.add (Rd.ext HRd.out (((Ext.refl _).drew).trans hXf))) (one_i6 _) (by simp only [maxLen]; omega) (by omega) hXf.size ?_; intro v6 w6 ho6 hg6; rw [HN6.out] at ho6; obtain ⟨g6, c6, rfl⟩ := own_at ho6 (Nat.succ_pos _); refine hK _ _ (fun W => W.ownsRow U.heap.size 3 1 (.slice (some ⟨g6, 0, none⟩) (k + 1) c6) (k + 1) (i6 (S.take j) ++ [.int .i64 (k : Int)] ++ i6 (S.drop j))) (ext_grown (X := U.drew) hXf hE hg6) hg6.size (fun _ _ hx h => own_ext h hx) ho6 ?_; (try simp only [Act.put, zqA, zqB, zqC]); (refine wpFg_read (v := ?_) rfl ?_ (fun w1 h1 => ?_) ?_; rotate_left 1; rfl; (obtain ⟨os1, d1, rfl⟩ := h1.more; go_simp; first | done | rfl)); (try simp only [Act.put, zqA, zqB, zqC]); (refine wpFg_done fun wz hXz hE => ?_; obtain ⟨osz, dz, rfl⟩ := hXz.more); refine wpTl_nil ?_; (simp only [drew_more] at hE); (have HE := Lib.hid (own_low (base' := wc.heap.size) hE hwU.size)); clear hE; go_wp2_with fail; refine ⟨⟨k + 1, g6, c6, by omega, by go_num, rfl, ?_, hwU.trans (by with_reducible repeat (first | exact Ext.refl _ | apply Ext.drew | apply Ext.alloc | apply Ext.more_))⟩, by simp [intOf]; omega⟩; (show World.ownsRow _ _ _ _ _ _ _); rw [← HT.out, ← i6_mid]; exact own_ext HE.out (by with_reducible repeat (first | exact Ext.refl _ | exact ext_d _ _ _ _ | exact ext_app _ _ _ _ _ | exact ext_app2 _ _ _ _ _ _ | exact ext_app3 _ _ _ _ _ _ _ | apply Ext.drew | apply Ext.alloc | apply Ext.more_))
          · obtain rfl : k = R := by omega
            have hlt' : ¬ (k : Int) < (k : Int) := Int.lt_irrefl _
            obtain ⟨B1, cb1, hv1, hB1, hcb1⟩ := Rd.of_own HO.out
            simp only [Value.slice.injEq, true_and] at hv1
            obtain ⟨rfl, rfl⟩ := hv1
            have hB2 := Rd.mono hB1 (Nat.zero_le _)
            have hl : (sortN (ltS ⟨k, C, l⟩ cc dn) k).length = k := sortN_length _ _
            have hPl : PlOk (sortN (ltS ⟨k, C, l⟩ cc dn) k) k := ⟨by omega, by omega, sortN_lt (ltS_swo (rightA_nat.1 HXR.out).2.2.2.2 _ _)⟩
            have hr1 := fun W (hW : ArrIn W (some ⟨b1, off1, none⟩) n1 cap1 l) hB => rrows_any k C l _ n1 cap1 _ (some ⟨g, 0, none⟩) cg W hW HXR.out hB (by rw [hl]; exact hcb1) hPl
            rw [HXE.out, hl] at hr1
            have HR1 := Lib.hid hr1
            have HB1 := Lib.hid hB2
            clear hr1 hB1 hB2 HO hPl HXE hl HS0
            go_wp2_with (first | ((go_at_call 114; (with_reducible refine (HR1.out _ ((HA.out.ext hx).ext (by with_reducible repeat (first | exact Ext.refl _ | exact ext_d _ _ _ _ | exact ext_app _ _ _ _ _ | exact ext_app2 _ _ _ _ _ _ | exact ext_app3 _ _ _ _ _ _ _ | apply Ext.drew | apply Ext.alloc | apply Ext.more_))) (HB1.out.ext (by with_reducible repeat (first | exact Ext.refl _ | exact ext_d _ _ _ _ | exact ext_app _ _ _ _ _ | exact ext_app2 _ _ _ _ _ _ | exact ext_app3 _ _ _ _ _ _ _ | apply Ext.drew | apply Ext.alloc | apply Ext.more_)))).mono ?_); rintro e w' ⟨D, m, cc, rfl, hD, hb⟩; obtain ⟨os5, d5, rfl⟩ := hb.more; clear hb; have hDr := hD.rd); obtain ⟨osu, du, rfl⟩ := HU.out))
            exact bodyPost_ret (v := AV X.R X.C (.slice D m cc)) (by simp [results, Tryz.results63, go_sem]) rfl ⟨D, m, cc, rfl, ⟨(by (try simp only [more_alloc, more_more] at hDr); (try simp only [more_alloc, more_more]); (try simp only [drew_more] at hDr); (try simp only [more_drew] at hDr); (try simp only [Array.append_assoc] at hDr); (try simp only [Array.append_assoc]); exact Rd.swap hDr (by first | (simp; done) | (simp; omega) | omega) (by first | (simp; done) | (simp; omega) | omega) (by first | (simp; done) | (simp; omega) | omega)), hD.len, hD.cap, hD.small, hD.ok⟩, by with_reducible repeat (first | exact Ext.refl _ | apply Ext.drew | apply Ext.alloc | apply Ext.more_)⟩
    · obtain rfl : aloneO kf = X := by rw [← hX]; unfold sortT; rw [if_neg (by simp), if_pos hkf]
      have hf' : (kf != 0) = true := by simpa using hkf
      have HF := Lib.hid (f2.resolve_left hkf)
      clear hX hkf f1 f2
      go_enter Tryz.func63, Tryz.ntmps63
      go_wp2_with (first | (first | (go_at_call 107; (with_reducible refine (n0 _ (H.out.ext (by with_reducible repeat (first | exact Ext.refl _ | apply Ext.drew | apply Ext.alloc | apply Ext.more_)))).mono ?_); rintro e w' ⟨rfl, hb⟩; obtain ⟨osa, da, rfl⟩ := hb.more; clear hb) | (go_at_call 107; (with_reducible refine (n2 _ (H.out.ext (by with_reducible repeat (first | exact Ext.refl _ | apply Ext.drew | apply Ext.alloc | apply Ext.more_)))).mono ?_); rintro e w' ⟨rfl, hb⟩; obtain ⟨osb, db, rfl⟩ := hb.more; clear hb)) | (go_at_call 21; (with_reducible refine (rbad_res _ HF.out _).mono ?_); rintro e w' ⟨D, m, cc, rfl, hD, hb⟩; obtain ⟨os5, d5, rfl⟩ := hb.more; clear hb; have hDr := hD.rd))
      exact bodyPost_ret (v := AV (aloneO kf).R (aloneO kf).C (.slice D m cc)) (by simp [results, Tryz.results63, go_sem]) rfl ⟨D, m, cc, rfl, ⟨(by (try simp only [more_alloc, more_more] at hDr); (try simp only [more_alloc, more_more]); (try simp only [drew_more] at hDr); (try simp only [more_drew] at hDr); (try simp only [Array.append_assoc] at hDr); (try simp only [Array.append_assoc]); exact Rd.swap hDr (by first | (simp; done) | (simp; omega) | omega) (by first | (simp; done) | (simp; omega) | omega) (by first | (simp; done) | (simp; omega) | omega)), hD.len, hD.cap, hD.small, hD.ok⟩, by with_reducible repeat (first | exact Ext.refl _ | apply Ext.drew | apply Ext.alloc | apply Ext.more_)⟩
  · obtain rfl : aloneO mf = X := by rw [← hX]; unfold sortT; rw [if_pos hmf]
    have hf' : (mf != 0) = true := by simpa using hmf
    have HF := Lib.hid (f1.resolve_left hmf)
    clear hX hmf f1 f2
    go_enter Tryz.func63, Tryz.ntmps63
    go_wp2_with (first | (first | (go_at_call 107; (with_reducible refine (n0 _ (H.out.ext (by with_reducible repeat (first | exact Ext.refl _ | apply Ext.drew | apply Ext.alloc | apply Ext.more_)))).mono ?_); rintro e w' ⟨rfl, hb⟩; obtain ⟨osa, da, rfl⟩ := hb.more; clear hb) | (go_at_call 107; (with_reducible refine (n2 _ (H.out.ext (by with_reducible repeat (first | exact Ext.refl _ | apply Ext.drew | apply Ext.alloc | apply Ext.more_)))).mono ?_); rintro e w' ⟨rfl, hb⟩; obtain ⟨osb, db, rfl⟩ := hb.more; clear hb)) | (go_at_call 21; (with_reducible refine (rbad_res _ HF.out _).mono ?_); rintro e w' ⟨D, m, cc, rfl, hD, hb⟩; obtain ⟨os5, d5, rfl⟩ := hb.more; clear hb; have hDr := hD.rd))
    exact bodyPost_ret (v := AV (aloneO mf).R (aloneO mf).C (.slice D m cc)) (by simp [results, Tryz.results63, go_sem]) rfl ⟨D, m, cc, rfl, ⟨(by (try simp only [more_alloc, more_more] at hDr); (try simp only [more_alloc, more_more]); (try simp only [drew_more] at hDr); (try simp only [more_drew] at hDr); (try simp only [Array.append_assoc] at hDr); (try simp only [Array.append_assoc]); exact Rd.swap hDr (by first | (simp; done) | (simp; omega) | omega) (by first | (simp; done) | (simp; omega) | omega) (by first | (simp; done) | (simp; omega) | omega)), hD.len, hD.cap, hD.small, hD.ok⟩, by with_reducible repeat (first | exact Ext.refl _ | apply Ext.drew | apply Ext.alloc | apply Ext.more_)⟩
end Go.Proofs.YtmjmijjbijlhfaaGreatDoor
namespace Go.Proofs.YtmjmijjbijlhfaaGreatDoor
open Go.RowKit NM
set_option maxHeartbeats 4000000 in
theorem rcall_sort (A : Option Addr) (n cap : Nat) (xs : List Ar) (w : World) (h : ArgsIn w A n cap xs) (h1 : 1 ≤ n) (h2 : n ≤ 3) : Calls Tryz.prog 26 #[.string ⟨#[83, 79, 82, 84]⟩, .slice A n cap] w (CallI w (sortO xs)) := by
  have hsm := h.small
  have hcap := h.cap
  have q1 : ¬ n < 1 := by omega
  have q2 : ¬ 3 < n := by omega
  have hst := fun W (hW : ArgsIn W A n cap xs) => rsort15_any A n cap xs W hW h1
  obtain ⟨R0, C0, l0, b1, off1, n1, cap1, b, off, x0, _, rfl, ⟨v0, v1, v2⟩, _, _, _, _, _, hbl, _, _, _, _, _⟩ := h.first (k := 0) (by omega)
  simp only [Nat.zero_mul, Nat.add_zero] at v0 v1 v2
  have H := Lib.hid h
  clear h
  generalize (sortO xs) = X at *
  go_enter Tryz.func26, Tryz.ntmps26
  go_wp2_with (go_at_call 55; (with_reducible refine (rcount_sort _).mono ?_); rintro e w' ⟨rfl, hb⟩; obtain ⟨os1, d1, rfl⟩ := hb.more; clear hb)
  go_loopw [8] (fun i wr => ∃ k : Nat, k ≤ n ∧ i = .int .i64 k ∧ Ext (more (w.alloc (Obj.cells #[.int .i64 0, .int .i64 0, .slice none 0 0] 31)) os1 d1) wr) (fun i _ => n - (intOf i).toNat)
  case atStart => exact ⟨0, Nat.zero_le _, rfl, Ext.refl _⟩
  case round =>
    obtain ⟨k, hk, rfl, hX⟩ := hrel
    obtain ⟨os, d, rfl⟩ := hX.more
    clear hX
    by_cases hlt : k < n
    · obtain ⟨a, b', off', ha, hbo, ⟨u0, u1, u2⟩, hok⟩ := H.out.at hlt
      simp only [Option.some.injEq, Addr.mk.injEq, and_true] at hbo
      obtain ⟨rfl, rfl⟩ := hbo
      have hra := fun W (hW : ArrIn W a.A a.n a.cap a.x.l) => refRightA_any a.x.R a.x.C a.A a.n a.cap a.x.l W hW
      rw [← rightA_eq _ _ _ hok.arr.ok, show rightA (a.x.R : Int) a.x.C a.x.l = true from hok.right] at hra
      have HOK := Lib.hid hok.arr
      clear hok hst
      go_wp2_with (go_at_call 14; refine (hra _ (HOK.out.ext (by repeat (first | (with_reducible (first | exact Ext.refl _ | exact ext_app3 _ _ _ _ _ _ _ | exact ext_app4 _ _ _ _ _ _ _ _ | exact ext_app _ _ _ _ _ | exact ext_app2 _ _ _ _ _ _)) | ((with_reducible refine ext_suffix ⟨_, ?_⟩); (try simp only [Array.append_assoc]); rfl) | (with_reducible (first | apply Ext.drew | apply Ext.alloc | apply Ext.more_)))))).mono ?_; rintro e w' ⟨rfl, hb⟩; obtain ⟨os', d', rfl⟩ := hb.more; clear hb)
      exact ⟨⟨k + 1, by omega, by go_num, by repeat (first | (with_reducible (first | exact Ext.refl _ | exact ext_app3 _ _ _ _ _ _ _ | exact ext_app4 _ _ _ _ _ _ _ _ | exact ext_app _ _ _ _ _ | exact ext_app2 _ _ _ _ _ _)) | ((with_reducible refine ext_suffix ⟨_, ?_⟩); (try simp only [Array.append_assoc]); rfl) | (with_reducible (first | apply Ext.drew | apply Ext.alloc | apply Ext.more_)))⟩, by simp [intOf]; omega⟩
    · go_wp2_with (go_at_call 63; (with_reducible refine (hst _ (H.out.ext (by repeat (first | (with_reducible (first | exact Ext.refl _ | exact ext_app3 _ _ _ _ _ _ _ | exact ext_app4 _ _ _ _ _ _ _ _ | exact ext_app _ _ _ _ _ | exact ext_app2 _ _ _ _ _ _)) | ((with_reducible refine ext_suffix ⟨_, ?_⟩); (try simp only [Array.append_assoc]); rfl) | (with_reducible (first | apply Ext.drew | apply Ext.alloc | apply Ext.more_)))))).mono ?_); rintro e w' ⟨D, m, cc, rfl, hD, hb⟩; have hNl := hD.len; have hNc := hD.cap; have hNs := hD.small; have hNo := hD.ok; have hDr := hD.rd; clear hD; obtain ⟨os5, d5, rfl⟩ := hb.more; clear hb)
      exact bodyPost_ret (v := .tuple #[AV X.R X.C (.slice D m cc), .bool true]) (by simp [results, Tryz.results26, go_sem]) rfl ⟨D, m, cc, rfl, ArrN.arr (base := w.heap.size) ⟨(by (try simp only [more_alloc, more_more] at hDr); (try simp only [more_alloc, more_more]); (try simp only [drew_more] at hDr); (try simp only [more_drew] at hDr); (try simp only [Array.append_assoc] at hDr); (try simp only [Array.append_assoc]); exact Rd.swap hDr (by first | (simp; done) | (simp; omega) | omega) (by first | (simp; done) | (simp; omega) | omega) (by first | (simp; done) | (simp; omega) | omega)), hNl, hNc, hNs, hNo⟩, by repeat (first | (with_reducible (first | exact Ext.refl _ | exact ext_app3 _ _ _ _ _ _ _ | exact ext_app4 _ _ _ _ _ _ _ _ | exact ext_app _ _ _ _ _ | exact ext_app2 _ _ _ _ _ _)) | ((with_reducible refine ext_suffix ⟨_, ?_⟩); (try simp only [Array.append_assoc]); rfl) | (with_reducible (first | apply Ext.drew | apply Ext.alloc | apply Ext.more_)))⟩
set_option maxHeartbeats 4000000 in
theorem rcall_unique (A : Option Addr) (n cap : Nat) (xs : List Ar) (w : World) (h : ArgsIn w A n cap xs) (h1 : 1 ≤ n) (h2 : n ≤ 1) : Calls Tryz.prog 26 #[.string ⟨#[85, 78, 73, 81, 85, 69]⟩, .slice A n cap] w (CallI w (uniqueO xs)) := by
  have hsm := h.small
  have hcap := h.cap
  have q1 : ¬ n < 1 := by omega
  have q2 : ¬ 1 < n := by omega
  obtain ⟨R0, C0, l0, b1, off1, n1, cap1, b, off, x0, ha, rfl, ⟨v0, v1, v2⟩, _, _, _, _, _, hbl, _, _, _, harr, _⟩ := h.first (k := 0) (by omega)
  have hxr : NA.right ⟨R0, C0, l0⟩ := (h.all _ (List.mem_of_getElem? ha)).right
  have hx0 : uniqueO xs = uniqueT ⟨R0, C0, l0⟩ := by unfold uniqueO argN; rw [ha]
  have HAR := Lib.hid harr
  have hst := fun W (hW : ArrIn W (some ⟨b1, off1, none⟩) n1 cap1 l0) => runiq_any R0 C0 l0 b1 off1 n1 cap1 W hW hxr
  rw [hx0]
  simp only [Nat.zero_mul, Nat.add_zero] at v0 v1 v2
  have H := Lib.hid h
  clear h ha harr hx0
  generalize (uniqueT ⟨R0, C0, l0⟩) = X at *
  go_enter Tryz.func26, Tryz.ntmps26
  go_wp2_with (go_at_call 55; (with_reducible refine (rcount_unique _).mono ?_); rintro e w' ⟨rfl, hb⟩; obtain ⟨os1, d1, rfl⟩ := hb.more; clear hb)
  go_loopw [8] (fun i wr => ∃ k : Nat, k ≤ n ∧ i = .int .i64 k ∧ Ext (more (w.alloc (Obj.cells #[.int .i64 0, .int .i64 0, .slice none 0 0] 31)) os1 d1) wr) (fun i _ => n - (intOf i).toNat)
  case atStart => exact ⟨0, Nat.zero_le _, rfl, Ext.refl _⟩
  case round =>
    obtain ⟨k, hk, rfl, hX⟩ := hrel
    obtain ⟨os, d, rfl⟩ := hX.more
    clear hX
    by_cases hlt : k < n
    · obtain ⟨a, b', off', ha, hbo, ⟨u0, u1, u2⟩, hok⟩ := H.out.at hlt
      simp only [Option.some.injEq, Addr.mk.injEq, and_true] at hbo
      obtain ⟨rfl, rfl⟩ := hbo
      have hra := fun W (hW : ArrIn W a.A a.n a.cap a.x.l) => refRightA_any a.x.R a.x.C a.A a.n a.cap a.x.l W hW
      rw [← rightA_eq _ _ _ hok.arr.ok, show rightA (a.x.R : Int) a.x.C a.x.l = true from hok.right] at hra
      have HOK := Lib.hid hok.arr
      clear hok hst
      go_wp2_with (go_at_call 14; refine (hra _ (HOK.out.ext (by repeat (first | (with_reducible (first | exact Ext.refl _ | exact ext_app3 _ _ _ _ _ _ _ | exact ext_app4 _ _ _ _ _ _ _ _ | exact ext_app _ _ _ _ _ | exact ext_app2 _ _ _ _ _ _)) | ((with_reducible refine ext_suffix ⟨_, ?_⟩); (try simp only [Array.append_assoc]); rfl) | (with_reducible (first | apply Ext.drew | apply Ext.alloc | apply Ext.more_)))))).mono ?_; rintro e w' ⟨rfl, hb⟩; obtain ⟨os', d', rfl⟩ := hb.more; clear hb)
      exact ⟨⟨k + 1, by omega, by go_num, by repeat (first | (with_reducible (first | exact Ext.refl _ | exact ext_app3 _ _ _ _ _ _ _ | exact ext_app4 _ _ _ _ _ _ _ _ | exact ext_app _ _ _ _ _ | exact ext_app2 _ _ _ _ _ _)) | ((with_reducible refine ext_suffix ⟨_, ?_⟩); (try simp only [Array.append_assoc]); rfl) | (with_reducible (first | apply Ext.drew | apply Ext.alloc | apply Ext.more_)))⟩, by simp [intOf]; omega⟩
    · go_wp2_with (go_at_call 64; (with_reducible refine (hst _ (HAR.out.ext (by repeat (first | (with_reducible (first | exact Ext.refl _ | exact ext_app3 _ _ _ _ _ _ _ | exact ext_app4 _ _ _ _ _ _ _ _ | exact ext_app _ _ _ _ _ | exact ext_app2 _ _ _ _ _ _)) | ((with_reducible refine ext_suffix ⟨_, ?_⟩); (try simp only [Array.append_assoc]); rfl) | (with_reducible (first | apply Ext.drew | apply Ext.alloc | apply Ext.more_)))))).mono ?_); rintro e w' ⟨D, m, cc, rfl, hD, hb⟩; have hNl := hD.len; have hNc := hD.cap; have hNs := hD.small; have hNo := hD.ok; have hDr := hD.rd; clear hD; obtain ⟨os5, d5, rfl⟩ := hb.more; clear hb)
      exact bodyPost_ret (v := .tuple #[AV X.R X.C (.slice D m cc), .bool true]) (by simp [results, Tryz.results26, go_sem]) rfl ⟨D, m, cc, rfl, ArrN.arr (base := w.heap.size) ⟨(by (try simp only [more_alloc, more_more] at hDr); (try simp only [more_alloc, more_more]); (try simp only [drew_more] at hDr); (try simp only [more_drew] at hDr); (try simp only [Array.append_assoc] at hDr); (try simp only [Array.append_assoc]); exact Rd.swap hDr (by first | (simp; done) | (simp; omega) | omega) (by first | (simp; done) | (simp; omega) | omega) (by first | (simp; done) | (simp; omega) | omega)), hNl, hNc, hNs, hNo⟩, by repeat (first | (with_reducible (first | exact Ext.refl _ | exact ext_app3 _ _ _ _ _ _ _ | exact ext_app4 _ _ _ _ _ _ _ _ | exact ext_app _ _ _ _ _ | exact ext_app2 _ _ _ _ _ _)) | ((with_reducible refine ext_suffix ⟨_, ?_⟩); (try simp only [Array.append_assoc]); rfl) | (with_reducible (first | apply Ext.drew | apply Ext.alloc | apply Ext.more_)))⟩
end Go.Proofs.YtmjmijjbijlhfaaGreatDoor
namespace Go.Proofs.YtmjmijjbijlhfaaGreatDoor
open Go.RowKit NM
theorem pcall_sort (A : Option Addr) (n cap : Nat) (gs : List GA) (w : World) (h : ArgsG w A n cap gs) : Calls Tryz.prog 16 #[.string ⟨#[83, 79, 82, 84]⟩, .slice A n cap] w (CallG w (callX 1 3 gs (sortO (arsOf gs)))) :=
  gcall_any ⟨#[83, 79, 82, 84]⟩ 1 3 45 (fun _ _ => #[]) (by decide) (fun _ _ => rfl) (fun args W => by go_simp) (by decide) (by decide) A n cap gs w h _ (fun hr h1 _ p1 p2 W hW _ => gsort_any A n cap _ W ((arsOf_in h hr).ext hW) h1)
theorem pcall_unique (A : Option Addr) (n cap : Nat) (gs : List GA) (w : World) (h : ArgsG w A n cap gs) : Calls Tryz.prog 16 #[.string ⟨#[85, 78, 73, 81, 85, 69]⟩, .slice A n cap] w (CallG w (callX 1 1 gs (uniqueO (arsOf gs)))) :=
  gcall_any ⟨#[85, 78, 73, 81, 85, 69]⟩ 1 1 53 (fun _ _ => #[]) (by decide) (fun _ _ => rfl) (fun args W => by go_simp) (by decide) (by decide) A n cap gs w h _ (fun hr h1 _ p1 p2 W hW _ => gunique_any A n cap _ W ((arsOf_in h hr).ext hW) h1)
end Go.Proofs.YtmjmijjbijlhfaaGreatDoor
namespace Go.Proofs.YtmjmijjbijlhfaaGreatDoor
open Go.RowKit NM
theorem rcall_x (s : ByteArray) (lo hi : Nat) (h1 : lo ≤ 100) (h2 : 1 ≤ hi) (h3 : hi ≤ 100) (hc : ∀ W, Calls Tryz.prog 55 #[.string s] W fun e w' => e = .returned (.tuple #[.int .i64 lo, .int .i64 hi]) ∧ Ext W w')
    (F : NA) (A : Option Addr) (n cap : Nat) (gs : List GA) (w : World) (h : ArgsG w A n cap gs) (hy : ArgsIn w A n cap (arsOf gs) → lo ≤ n → n ≤ hi → Calls Tryz.prog 26 #[.string s, .slice A n cap] w (CallI w F)) :
    Calls Tryz.prog 26 #[.string s, .slice A n cap] w (CallI w (callX lo hi gs F)) := by
  have hl := h.len
  by_cases q : n < lo ∨ hi < n
  · rw [show callX lo hi gs F = aloneO 2 by unfold callX; rw [if_pos (by omega)]]
    exact rcall_few s lo hi h1 h2 h3 hc A n cap gs w h q
  · by_cases hr : ∀ g ∈ gs, g.right = true
    · rw [show callX lo hi gs F = F by unfold callX; rw [if_neg (by omega), if_pos (List.all_eq_true.2 hr)]]
      exact hy (arsOf_in h hr) (by omega) (by omega)
    · rw [show callX lo hi gs F = aloneO 9 by unfold callX; rw [if_neg (by omega), if_neg (fun e => hr (List.all_eq_true.1 e))]]
      exact rcall_bad s lo hi h1 h2 h3 hc A n cap gs w h (by omega) (by omega) hr
end Go.Proofs.YtmjmijjbijlhfaaGreatDoor
namespace Go.Proofs
open Go.Shelf
def Tryz.keys23_ren : Go.Shelf.Ren := ⟨fun | 7 => 23 | 10 => 34 | n => n, fun | 23 => 55 | 26 => 9 | 3 => 58 | 28 => 53 | 0 => 0 | 27 => 52 | 33 => 67 | 4 => 4 | n => n, fun | n => n⟩
theorem Tryz.keys23 : Go.Proofs.SlLaysZ.n7 Tryz.prog Tryz.keys23_ren := {
  mixed := by kernel_rfl
  f7 := ⟨Tryz.f23.name, by decide, Tryz.func23.trans (congrArg some (by kernel_rfl))⟩
  f10 := ⟨Tryz.f34.name, by decide, Tryz.func34.trans (congrArg some (by kernel_rfl))⟩
  t0 := Tryz.underlying0
  a0 := Tryz.isAgg0
  z0 := Tryz.sizeOf0
  v0 := Tryz.zeroValue0
  t4 := Tryz.underlying4
  a4 := Tryz.isAgg4
  z4 := Tryz.sizeOf4
  v4 := Tryz.zeroValue4
  t23 := Tryz.underlying55
  a23 := Tryz.isAgg55
  z23 := Tryz.sizeOf55
  v23 := Tryz.zeroValue55
  t26 := Tryz.underlying9
  a26 := Tryz.isAgg9
  z26 := Tryz.sizeOf9
  v26 := Tryz.zeroValue9
  t27 := Tryz.underlying52
  a27 := Tryz.isAgg52
  z27 := Tryz.sizeOf52
  v27 := Tryz.zeroValue52
  t28 := Tryz.underlying53
  a28 := Tryz.isAgg53
  z28 := Tryz.sizeOf53
  v28 := Tryz.zeroValue53
  t33 := Tryz.underlying67
  a33 := Tryz.isAgg67
  z33 := Tryz.sizeOf67
  v33 := Tryz.zeroValue67 }
def Tryz.sorted22_ren : Go.Shelf.Ren := ⟨fun | 6 => 22 | 8 => 32 | 9 => 33 | 11 => 75 | 13 => 77 | 12 => 76 | 23 => 136 | 24 => 137 | 14 => 127 | 15 => 128 | 16 => 129 | 17 => 130 | 18 => 131 | 19 => 132 | 20 => 133 | 21 => 134 | 22 => 135 | 25 => 162 | 26 => 163 | 27 => 164 | 28 => 165 | 29 => 166 | 30 => 167 | 31 => 196 | n => n, fun | 26 => 9 | 28 => 53 | 24 => 24 | 0 => 0 | 3 => 3 | 37 => 48 | 48 => 132 | 50 => 47 | 4 => 4 | 40 => 125 | 39 => 124 | 45 => 101 | 5 => 5 | 9 => 9 | 51 => 149 | 55 => 153 | 57 => 178 | 58 => 75 | 33 => 67 | n => n, fun | n => n⟩
theorem Tryz.sorted22 : Go.Proofs.SlLaysZ.n6 Tryz.prog Tryz.sorted22_ren := {
  mixed := by kernel_rfl
  f6 := ⟨Tryz.f22.name, by decide, Tryz.func22.trans (congrArg some (by kernel_rfl))⟩
  f8 := ⟨Tryz.f32.name, by decide, Tryz.func32.trans (congrArg some (by kernel_rfl))⟩
  f11 := ⟨Tryz.f75.name, by decide, Tryz.func75.trans (congrArg some (by kernel_rfl))⟩
  t0 := Tryz.underlying0
  a0 := Tryz.isAgg0
  z0 := Tryz.sizeOf0
  v0 := Tryz.zeroValue0
  t24 := Tryz.underlying24
  a24 := Tryz.isAgg24
  z24 := Tryz.sizeOf24
  v24 := Tryz.zeroValue24
  t26 := Tryz.underlying9
  a26 := Tryz.isAgg9
  z26 := Tryz.sizeOf9
  v26 := Tryz.zeroValue9
  t28 := Tryz.underlying53
  a28 := Tryz.isAgg53
  z28 := Tryz.sizeOf53
  v28 := Tryz.zeroValue53
  i26 := by kernel_rfl }
def Tryz.sort33_ren : Go.Shelf.Ren := ⟨fun | 6 => 33 | 8 => 77 | 9 => 76 | 19 => 136 | 20 => 137 | 21 => 127 | 22 => 128 | 23 => 129 | 24 => 130 | 25 => 131 | 26 => 132 | 27 => 133 | 28 => 134 | 29 => 135 | 36 => 162 | 31 => 163 | 32 => 164 | 37 => 165 | 38 => 166 | 39 => 167 | 41 => 196 | n => n, fun | 27 => 24 | 29 => 9 | 3 => 3 | 32 => 48 | 26 => 24 | 0 => 0 | 44 => 132 | 46 => 47 | 4 => 4 | 36 => 125 | 35 => 124 | 41 => 101 | 5 => 5 | 9 => 9 | 53 => 149 | 57 => 153 | 63 => 178 | 64 => 75 | n => n, fun | n => n⟩
theorem Tryz.sort33 : Go.Proofs.SlLaysM.n6 Tryz.prog Tryz.sort33_ren := {
  mixed := by kernel_rfl
  f6 := ⟨Tryz.f33.name, by decide, Tryz.func33.trans (congrArg some (by kernel_rfl))⟩
  f8 := Tryz.func77.trans (congrArg some (by kernel_rfl))
  f9 := ⟨Tryz.f76.name, by decide, Tryz.func76.trans (congrArg some (by kernel_rfl))⟩
  f19 := Tryz.func136.trans (congrArg some (by kernel_rfl))
  f20 := Tryz.func137.trans (congrArg some (by kernel_rfl))
  f21 := ⟨Tryz.f127.name, by decide, Tryz.func127.trans (congrArg some (by kernel_rfl))⟩
  f22 := ⟨Tryz.f128.name, by decide, Tryz.func128.trans (congrArg some (by kernel_rfl))⟩
  f23 := ⟨Tryz.f129.name, by decide, Tryz.func129.trans (congrArg some (by kernel_rfl))⟩
  f24 := ⟨Tryz.f130.name, by decide, Tryz.func130.trans (congrArg some (by kernel_rfl))⟩
  f25 := ⟨Tryz.f131.name, by decide, Tryz.func131.trans (congrArg some (by kernel_rfl))⟩
  f26 := ⟨Tryz.f132.name, by decide, Tryz.func132.trans (congrArg some (by kernel_rfl))⟩
  f27 := ⟨Tryz.f133.name, by decide, Tryz.func133.trans (congrArg some (by kernel_rfl))⟩
  f28 := ⟨Tryz.f134.name, by decide, Tryz.func134.trans (congrArg some (by kernel_rfl))⟩
  f29 := ⟨Tryz.f135.name, by decide, Tryz.func135.trans (congrArg some (by kernel_rfl))⟩
  f31 := Tryz.func163.trans (congrArg some (by kernel_rfl))
  f32 := Tryz.func164.trans (congrArg some (by kernel_rfl))
  f36 := ⟨Tryz.f162.name, by decide, Tryz.func162.trans (congrArg some (by kernel_rfl))⟩
  f37 := ⟨Tryz.f165.name, by decide, Tryz.func165.trans (congrArg some (by kernel_rfl))⟩
  f38 := ⟨Tryz.f166.name, by decide, Tryz.func166.trans (congrArg some (by kernel_rfl))⟩
  f39 := ⟨Tryz.f167.name, by decide, Tryz.func167.trans (congrArg some (by kernel_rfl))⟩
  f41 := ⟨Tryz.f196.name, by decide, Tryz.func196.trans (congrArg some (by kernel_rfl))⟩
  t0 := Tryz.underlying0
  a0 := Tryz.isAgg0
  z0 := Tryz.sizeOf0
  v0 := Tryz.zeroValue0
  t3 := Tryz.underlying3
  a3 := Tryz.isAgg3
  z3 := Tryz.sizeOf3
  v3 := Tryz.zeroValue3
  t4 := Tryz.underlying4
  a4 := Tryz.isAgg4
  z4 := Tryz.sizeOf4
  v4 := Tryz.zeroValue4
  t5 := Tryz.underlying5
  a5 := Tryz.isAgg5
  z5 := Tryz.sizeOf5
  v5 := Tryz.zeroValue5
  t9 := Tryz.underlying9
  a9 := Tryz.isAgg9
  z9 := Tryz.sizeOf9
  v9 := Tryz.zeroValue9
  t26 := Tryz.underlying24
  a26 := Tryz.isAgg24
  z26 := Tryz.sizeOf24
  v26 := Tryz.zeroValue24
  t27 := Tryz.underlying24
  a27 := Tryz.isAgg24
  z27 := Tryz.sizeOf24
  v27 := Tryz.zeroValue24
  t29 := Tryz.underlying9
  a29 := Tryz.isAgg9
  z29 := Tryz.sizeOf9
  v29 := Tryz.zeroValue9
  t32 := Tryz.underlying48
  a32 := Tryz.isAgg48
  z32 := Tryz.sizeOf48
  v32 := Tryz.zeroValue48
  t35 := Tryz.underlying124
  a35 := Tryz.isAgg124
  z35 := Tryz.sizeOf124
  v35 := Tryz.zeroValue124
  t36 := Tryz.underlying125
  a36 := Tryz.isAgg125
  z36 := Tryz.sizeOf125
  v36 := Tryz.zeroValue125
  t41 := Tryz.underlying101
  a41 := Tryz.isAgg101
  z41 := Tryz.sizeOf101
  v41 := Tryz.zeroValue101
  t44 := Tryz.underlying132
  a44 := Tryz.isAgg132
  z44 := Tryz.sizeOf132
  v44 := Tryz.zeroValue132
  t46 := Tryz.underlying47
  a46 := Tryz.isAgg47
  z46 := Tryz.sizeOf47
  v46 := Tryz.zeroValue47
  t53 := Tryz.underlying149
  a53 := Tryz.isAgg149
  z53 := Tryz.sizeOf149
  v53 := Tryz.zeroValue149
  t57 := Tryz.underlying153
  a57 := Tryz.isAgg153
  z57 := Tryz.sizeOf153
  v57 := Tryz.zeroValue153
  t63 := Tryz.underlying178
  a63 := Tryz.isAgg178
  z63 := Tryz.sizeOf178
  v63 := Tryz.zeroValue178
  t64 := Tryz.underlying75
  a64 := Tryz.isAgg75
  z64 := Tryz.sizeOf75
  v64 := Tryz.zeroValue75 }
open Go.RowKit Go.Maps Go.Sort
theorem Tryz.sorts22 (m : Nat) : AnyZ.SortsIn Tryz.prog Tryz.sorted22_ren Fence.wide m :=
  ⟨fun blk off cap ss W hH hblk hsz => callsIn_wide.2 (AnyM.slices_Sort_string Tryz.sort33 blk off cap ss W hH hblk hsz),
   fun p cap W => callsIn_wide.2 (AnyM.slices_Sort_string_none Tryz.sort33 p cap W)⟩
theorem Tryz.maps_Keys_23 (mb : Option Nat) (W : World) : CallsIn Fence.wide 5 Tryz.prog 23 #[.map mb] W fun e w' => e = .returned (.func (.func 34) #[] #[.pointer (some ⟨W.heap.size, 0, none⟩)]) ∧ w' = W.alloc (.cells #[.map mb] 55) :=
  AnyZ.keys_in Tryz.keys23 Fence.wide 5 trivial rfl mb W
set_option maxHeartbeats 1000000 in
theorem Tryz.slices_Sorted_keys_22_23 {H : Type} (b nn : Nat) (D0 : DataW H) (R : Value → Option (DataW H × List MemPlace)) (w : World) (hown : w.ownsMap Tryz.prog 9 R b nn D0) (hmax : Maps.size D0 ≤ maxLen) (hbytes : Maps.size D0 * 16 ≤ 140737488355328) :
    CallsIn Fence.wide 5 Tryz.prog 22 #[.func (.func 34) #[] #[.pointer (some ⟨w.heap.size, 0, none⟩)]] (w.alloc (.cells #[.map (some b)] 55)) fun e w' => ∃ (v : Value) (ss : List (List UInt8)), e = .returned v ∧ ss.Perm (strKeys D0) ∧
      w'.ownsRow (w.alloc (.cells #[.map (some b)] 55)).heap.size 9 1 v ss.length ((ss.mergeSort (fun x y => decide (x ≤ y))).map encStr) ∧ (v = .slice none 0 0 ↔ ss = []) ∧ Below (w.alloc (.cells #[.map (some b)] 55)).heap.size (w.alloc (.cells #[.map (some b)] 55)) w' := by
  have hbl := hown.lt
  have hseq : SeqGives Fence.wide 2 Tryz.prog 34 #[.pointer (some ⟨w.heap.size, 0, none⟩)] encStr (fun ss => ss.Perm (strKeys D0)) (Maps.size D0) (w.alloc (.cells #[.map (some b)] 55)) :=
    AnyZ.keys_gives (ρ := Tryz.keys23_ren) { Tryz.keys23 with } Fence.wide _ trivial rfl (by omega) w.heap.size b nn D0 _ (by simp) (by simp) (by
      obtain ⟨es, clock, hb, Ft, hs, hD⟩ := hown
      exact ⟨es, clock, (Below.heap_alloc _ _ b hbl).trans hb, Ft, hs, hD⟩)
  exact AnyZ.sorted_in Tryz.sorted22 Fence.wide 5 trivial trivial trivial trivial rfl (by omega) (Tryz.sorts22 _) (enters_of Tryz.func33 (by kernel_rfl) rfl) 34 #[.pointer (some ⟨w.heap.size, 0, none⟩)] trivial (enters_of Tryz.func34 (by kernel_rfl) rfl) _ _ hmax hbytes _ hseq
end Go.Proofs
namespace Go.Proofs.YtmjmijjbijlhfaaGreatDoor
open Go.RowKit NM Go.Maps Go.Sort Go.Shelf
theorem tab_size (p1 p2 : Nat) : Maps.size (tabD (farrayL p1 p2)) = 14 := by kernel_rfl
theorem tab_keys (p1 p2 : Nat) : strKeys (tabD (farrayL p1 p2)) = strKeys (tabD (farrayL 0 0)) := by kernel_rfl
theorem tab_keys_len : (strKeys (tabD (farrayL 0 0))).length = 14 := by kernel_rfl
set_option maxHeartbeats 1000000 in
theorem gnames_any (w : World) :
    Calls Tryz.prog 10 #[] w fun e w' => ∃ (v : Value) (ss : List (List UInt8)), e = .returned v ∧ ss.Perm (strKeys (tabD (farrayL 0 0))) ∧ w'.ownsRow w.heap.size 9 1 v 14 ((ss.mergeSort (fun x y => decide (x ≤ y))).map encStr) ∧ Ext w w' := by
  refine (callsIn_wide (n := 6)).1 ?_
  have hfK : Fence.wide.fn 23 := trivial
  have hfS : Fence.wide.fn 22 := trivial
  have hfT : Fence.wide.fn 24 := trivial
  refine callsIn_of_wp Tryz.func10 rfl trivial ?_ rfl
  simp only [Tryz.ntmps10, List.size_toArray, List.length_cons, List.length_nil, Nat.reduceAdd, Nat.reduceSub, Array.replicate_succ, Array.replicate_zero, List.push_toArray, List.append_toArray, List.nil_append, List.cons_append]
  gi_wp2_with (first
    | (gi_at_call 24; refine (callsIn_wide.2 (gtable_any _)).mono ?_; rintro e w' ⟨bm, rfl, p1, p2, hT⟩)
    | (gi_at_call 23; refine (Tryz.maps_Keys_23 _ _).mono ?_; rintro e w' ⟨rfl, rfl⟩)
    | (gi_at_call 22; refine (Tryz.slices_Sorted_keys_22_23 bm _ _ tabR _ hT.tab (by rw [tab_size]; decide) (by rw [tab_size]; decide)).mono ?_; rintro e w' ⟨v, ss, rfl, hS, hrow, hnil, hb⟩))
  go_ret
  rw [tab_keys] at hS
  have hl : ss.length = 14 := by rw [hS.length_eq, tab_keys_len]
  rw [hl] at hrow
  have hx := hT.ext
  refine ⟨v, ss, rfl, hS, ownsRow_base_a hrow (by have := hx.size; simp; omega), hx.trans (((Ext.refl _).alloc _).trans hb)⟩
end Go.Proofs.YtmjmijjbijlhfaaGreatDoor
namespace Go.Proofs.YtmjmijjbijlhfaaGreatDoor
open Go.RowKit NM
set_option maxHeartbeats 1000000 in
theorem gcall_no (s : ByteArray) (hs : s.size ≤ maxLen) (hl : ∀ p1 p2, tabAt (farrayL p1 p2) s.data.toList = none) (A : Option Addr) (n cap : Nat) (w : World) :
    Calls Tryz.prog 16 #[.string s, .slice A n cap] w fun e w' => e = .returned (.tuple #[AV 0 0 (.slice none 0 0), .bool false]) ∧ Ext w w' := by
  go_enter Tryz.func16, Tryz.ntmps16
  go_wp2_with (first | (go_at_call 24; (with_reducible refine (gtable_any _).mono ?_); rintro e w' ⟨bm, rfl, p1, p2, hT⟩; have hxT := hT.ext; have ht := hl p1 p2; have HT := Lib.hid ht; clear ht; obtain ⟨os1, d1, rfl⟩ := hxT.more) | (refine wpL_look rfl _ _ _ rfl 9 58 Tryz.underlying9 Tryz.underlying55 _ _ rfl (hT.tab.ext (by repeat (first | (with_reducible (first | exact Ext.refl _ | exact ext_app _ _ _ _ _ | exact ext_app2 _ _ _ _ _ _)) | ((with_reducible refine ext_suffix ⟨_, ?_⟩); (try simp only [Array.append_assoc]); rfl) | (with_reducible (first | apply Ext.drew | apply Ext.alloc | apply Ext.more_))))) (gfarray_pair _ _) _ (zero_gfn _) _ rfl hs (.agg #[.int .i64 0, .int .i64 0, .nilFunc]) false (by rw [HT.out]; rfl) (by rw [HT.out]; rfl) ?_))
  exact bodyPost_ret (v := .tuple #[AV 0 0 (.slice none 0 0), .bool false]) (by simp [results, Tryz.results16, go_sem]) rfl ⟨rfl, by repeat (first | (with_reducible (first | exact Ext.refl _ | exact ext_app _ _ _ _ _ | exact ext_app2 _ _ _ _ _ _)) | ((with_reducible refine ext_suffix ⟨_, ?_⟩); (try simp only [Array.append_assoc]); rfl) | (with_reducible (first | apply Ext.drew | apply Ext.alloc | apply Ext.more_)))⟩
def numK (k : Int) : Val := ⟨1, k, 0, ⟨#[]⟩, false, 0⟩
theorem rt_2 : Rt 2 0 := Or.inr ⟨by decide, by decide, by decide, by decide, by have h := (nd_le_iff 2 1).2 (by decide); show ((nd 2 : Nat) : Int) + 0 ≤ 40; omega⟩
theorem rt_3 : Rt 3 0 := Or.inr ⟨by decide, by decide, by decide, by decide, by have h := (nd_le_iff 3 1).2 (by decide); show ((nd 3 : Nat) : Int) + 0 ≤ 40; omega⟩
theorem rt_4 : Rt 4 0 := Or.inr ⟨by decide, by decide, by decide, by decide, by have h := (nd_le_iff 4 1).2 (by decide); show ((nd 4 : Nat) : Int) + 0 ≤ 40; omega⟩
theorem add_1 : addS 1 0 1 0 = some (2, 0) := by
  unfold addS; rw [if_pos ⟨rt_one, rt_one⟩]; exact rnd_of_right false rt_2
theorem add_2 : addS 2 0 1 0 = some (3, 0) := by
  unfold addS; rw [if_pos ⟨rt_2, rt_one⟩]; exact rnd_of_right false rt_3
theorem add_3 : addS 3 0 1 0 = some (4, 0) := by
  unfold addS; rw [if_pos ⟨rt_3, rt_one⟩]; exact rnd_of_right false rt_4
theorem seq_4 : seqS (1, 0) (1, 0) 3 = some ([numK 1, numK 2, numK 3, numK 4], (4, 0)) := by
  simp only [seqS, add_1, add_2, add_3]; rfl
theorem cnt_3 : cntV 3 = numK 3 := by
  have h : wholeN 3 = (3, 0) := by
    have : rndI 3 0 = some (3, 0) := rnd_of_right false rt_3
    unfold wholeN; rw [this]; rfl
  unfold cntV; rw [h]; rfl
theorem given_one {y : Val} (h : y.kind = 1) (D : Option Addr) (m c : Nat) (xs : List Ar) (k : Nat) (hk : xs[k]? = some (arAt (oneA y) D m c)) : givenB xs k = true ∧ argV xs k = y := by
  have hv : getV (arAt (oneA y) D m c).x.l 0 = y := rfl
  constructor
  · unfold givenB; rw [hk]; simp only; rw [hv, h]; rfl
  · unfold argV; rw [hk]; exact hv
theorem seq_22 (D1 D2 : Option Addr) (m1 c1 m2 c2 : Nat) : sequenceO [arAt (oneA (cntV 2)) D1 m1 c1, arAt (oneA (cntV 2)) D2 m2 c2] = ⟨2, 2, [numK 1, numK 2, numK 3, numK 4]⟩ := by
  obtain ⟨g0, a0⟩ := given_one (y := cntV 2) rfl D1 m1 c1 [arAt (oneA (cntV 2)) D1 m1 c1, arAt (oneA (cntV 2)) D2 m2 c2] 0 rfl
  obtain ⟨g1, a1⟩ := given_one (y := cntV 2) rfl D2 m2 c2 [arAt (oneA (cntV 2)) D1 m1 c1, arAt (oneA (cntV 2)) D2 m2 c2] 1 rfl
  have hw : wholeO (cntV 2) = (2, 0) := whole_cnt (n := 2) (by decide)
  unfold sequenceO numO tnO
  rw [g0, g1, a0, a1, hw]
  rw [show givenB [arAt (oneA (cntV 2)) D1 m1 c1, arAt (oneA (cntV 2)) D2 m2 c2] 2 = false from rfl, show givenB [arAt (oneA (cntV 2)) D1 m1 c1, arAt (oneA (cntV 2)) D2 m2 c2] 3 = false from rfl]
  simp only [if_true, Bool.false_eq_true, if_false]
  unfold seqT
  simp only [ne_eq, not_true, if_false]
  rw [if_neg (by decide), if_neg (by decide)]
  rw [show (2 : Int).toNat * (2 : Int).toNat - 1 = 3 from rfl, seq_4]
  rfl
def awL : List Val := [numK 1, numK 2, numK 3, numK 4]
theorem aw_right : NA.right ⟨2, 2, awL⟩ := by
  refine rightA_nat.2 ⟨by decide, by decide, by decide, rfl, fun x hx => ?_⟩
  simp only [awL, List.mem_cons, List.not_mem_nil, or_false] at hx
  rcases hx with rfl | rfl | rfl | rfl
  · exact right_num rt_one
  · exact right_num rt_2
  · exact right_num rt_3
  · exact right_num rt_4
theorem aw_turn (D : Option Addr) (m c : Nat) : turnO [arAt ⟨2, 2, awL⟩ D m c] = ⟨2, 2, [numK 1, numK 3, numK 2, numK 4]⟩ := by
  show (⟨2, 2, turnL 2 2 awL⟩ : NA) = _
  rw [show turnL 2 2 awL = [numK 1, numK 3, numK 2, numK 4] by simp [turnL, vals, awL, getV, List.range, List.range.loop]]
theorem call_seq22 (A : Option Addr) (w : World) (htab : Tab w) (D1 D2 : Option Addr) (m1 c1 m2 c2 : Nat) (h : ArgsIn w A 2 2 [arAt (oneA (cntV 2)) D1 m1 c1, arAt (oneA (cntV 2)) D2 m2 c2]) :
    Calls Tryz.prog 16 #[.string ⟨#[83, 69, 81, 85, 69, 78, 67, 69]⟩, .slice A 2 2] w (CallG w ⟨2, 2, awL⟩) := by
  have hc := pcall_sequence A 2 2 _ w htab h.toG
  rw [arsOf_toG, callX_in _ (by simp) (by simp) (fun a ha => (h.all a ha).right), seq_22] at hc
  exact hc
theorem call_turn4 (A : Option Addr) (w : World) (htab : Tab w) (D1 : Option Addr) (m1 c1 : Nat) (h : ArgsIn w A 1 1 [arAt ⟨2, 2, awL⟩ D1 m1 c1]) :
    Calls Tryz.prog 16 #[.string ⟨#[84, 82, 65, 78, 83, 80, 79, 83, 69]⟩, .slice A 1 1] w (CallG w ⟨2, 2, [numK 1, numK 3, numK 2, numK 4]⟩) := by
  have hc := pcall_transpose A 1 1 _ w htab h.toG
  rw [arsOf_toG, callX_in _ (by simp) (by simp) (fun a ha => (h.all a ha).right), aw_turn] at hc
  exact hc
theorem num15_three (W : World) : Calls Tryz.prog 15 #[.int .i64 3] W fun e w' => ∃ b9 off9 c9, e = .returned (AV 1 1 (.slice (some ⟨b9, off9, none⟩) 1 c9)) ∧ ValAt w' b9 off9 (numK 3) ∧ 1 ≤ c9 ∧ Ext W w' := by
  have h := num15_any 3 W (by decide)
  rw [cnt_3] at h
  refine h.mono ?_
  rintro e w' ⟨D, m, c, rfl, hN, hb⟩
  have hA := hN.arr
  obtain rfl : 1 = m := hA.len
  obtain ⟨x, b, off, hx, _, rfl, hv⟩ := hA.at (k := 0) (by decide)
  obtain rfl : numK 3 = x := by simpa [oneA] using hx
  rw [Nat.zero_mul, Nat.add_zero] at hv
  exact ⟨b, off, c, rfl, hv, hA.cap, hb⟩
set_option maxHeartbeats 4000000 in
theorem awake15_any (w : World) (htab : Tab w) :
    Calls Tryz.prog 9 #[] w fun e w' => e = .returned (.bool true) ∧ Ext w w' := by
  have h2 := fun W => num15_any 2 W (by decide)
  have r2 := one_right_ (cnt_right15 (n := 2) (by decide))
  have hq := fun W A hT D1 D2 m1 c1 m2 c2 h => call_seq22 A W hT D1 D2 m1 c1 m2 c2 h
  generalize cntV 2 = y2 at *
  have HT := Lib.hid htab
  clear htab
  go_enter Tryz.func9, Tryz.ntmps9
  go_wp2_with fail
  (go_at_call 15; (with_reducible refine (h2 _).mono ?_); rintro e w' ⟨D1, m1, c1, rfl, hN1, hb⟩; obtain ⟨os1, d1, rfl⟩ := hb.more; clear hb; have hA1 := hN1.arr; (try simp only [more_more, Array.append_assoc] at hA1))
  go_wp2_with fail
  (go_at_call 15; (with_reducible refine (h2 _).mono ?_); rintro e w' ⟨D2, m2, c2, rfl, hN2, hb⟩; obtain ⟨os2, d2, rfl⟩ := hb.more; clear hb; have hA2 := hN2.arr; (try simp only [more_more, Array.append_assoc] at hA2))
  go_wp2_with fail
  refine (hq _ _ (HT.out.ext (by repeat (first | (with_reducible (first | exact Ext.refl _ | exact ext_app _ _ _ _ _ | exact ext_app2 _ _ _ _ _ _)) | ((with_reducible refine ext_suffix ⟨_, ?_⟩); (try simp only [Array.append_assoc]); rfl) | (with_reducible (first | apply Ext.drew | apply Ext.alloc | apply Ext.more_))))) D1 D2 m1 c1 m2 c2 (argsG_new _ (by simp) rfl rfl (by decide) (by intro a ha; simp only [List.mem_cons, List.not_mem_nil, or_false] at ha; rcases ha with rfl | rfl; exact ⟨hA1.ext (by repeat (first | (with_reducible (first | exact Ext.refl _ | exact ext_app _ _ _ _ _ | exact ext_app2 _ _ _ _ _ _)) | ((with_reducible refine ext_suffix ⟨_, ?_⟩); (try simp only [Array.append_assoc]); rfl) | (with_reducible (first | apply Ext.drew | apply Ext.alloc | apply Ext.more_)))), r2⟩; exact ⟨hA2.ext (by repeat (first | (with_reducible (first | exact Ext.refl _ | exact ext_app _ _ _ _ _ | exact ext_app2 _ _ _ _ _ _)) | ((with_reducible refine ext_suffix ⟨_, ?_⟩); (try simp only [Array.append_assoc]); rfl) | (with_reducible (first | apply Ext.drew | apply Ext.alloc | apply Ext.more_)))), r2⟩))).mono ?_
  rintro e w' ⟨D4, m4, c4, rfl, hN4, hb⟩
  obtain ⟨os4, d4, rfl⟩ := hb.more
  clear hb
  have hA4 := hN4.arr
  (try simp only [more_more, Array.append_assoc] at hA4)
  have hm4 := hA4.len
  obtain rfl : 4 = m4 := hm4
  clear hN4 hA1 hA2 hN1 hN2
  go_wp2_with fail
  refine (call_turn4 _ _ (HT.out.ext (by repeat (first | (with_reducible (first | exact Ext.refl _ | exact ext_app _ _ _ _ _ | exact ext_app2 _ _ _ _ _ _)) | ((with_reducible refine ext_suffix ⟨_, ?_⟩); (try simp only [Array.append_assoc]); rfl) | (with_reducible (first | apply Ext.drew | apply Ext.alloc | apply Ext.more_))))) D4 4 c4 (argsG_new _ (by simp) rfl rfl (by decide) (by intro a ha; obtain rfl := List.mem_singleton.1 ha; exact ⟨hA4.ext (by repeat (first | (with_reducible (first | exact Ext.refl _ | exact ext_app _ _ _ _ _ | exact ext_app2 _ _ _ _ _ _)) | ((with_reducible refine ext_suffix ⟨_, ?_⟩); (try simp only [Array.append_assoc]); rfl) | (with_reducible (first | apply Ext.drew | apply Ext.alloc | apply Ext.more_)))), aw_right⟩))).mono ?_
  rintro e w' ⟨D5, m5, c5, rfl, hN5, hb⟩
  obtain ⟨os5, d5, rfl⟩ := hb.more
  clear hb
  have hA5 := hN5.arr
  (try simp only [more_more, Array.append_assoc] at hA5)
  have hm5 := hA5.len
  obtain rfl : 4 = m5 := hm5
  clear hN5
  go_wp2_with fail
  refine (gcall_no ⟨#[83, 85, 77]⟩ (by decide) (fun _ _ => rfl) _ _ _ _).mono ?_
  rintro e w' ⟨rfl, hb⟩
  obtain ⟨os6, d6, rfl⟩ := hb.more
  clear hb
  go_upto_region 4 with fail
  refine wp_world fun W0 hW0 => ?_
  have hx0 : Ext w W0 := by rw [hW0]; exact (by repeat (first | (with_reducible (first | exact Ext.refl _ | exact ext_app _ _ _ _ _ | exact ext_app2 _ _ _ _ _ _)) | ((with_reducible refine ext_suffix ⟨_, ?_⟩); (try simp only [Array.append_assoc]); rfl) | (with_reducible (first | apply Ext.drew | apply Ext.alloc | apply Ext.more_))))
  have hA0 : ArrIn W0 D5 4 c5 [numK 1, numK 3, numK 2, numK 4] := by rw [hW0]; exact hA5.ext (by repeat (first | (with_reducible (first | exact Ext.refl _ | exact ext_app _ _ _ _ _ | exact ext_app2 _ _ _ _ _ _)) | ((with_reducible refine ext_suffix ⟨_, ?_⟩); (try simp only [Array.append_assoc]); rfl) | (with_reducible (first | apply Ext.drew | apply Ext.alloc | apply Ext.more_))))
  have a2 : W0.cell? ⟨w.heap.size + (os1.size + os2.size) + 1 + os4.size, 2, none⟩ = some (.slice D4 4 c4) := by rw [hW0]; go_simp
  have b2 : W0.cell? ⟨w.heap.size + (os1.size + os2.size) + 1 + os4.size + 1 + 1 + os5.size, 2, none⟩ = some (.slice D5 4 c5) := by rw [hW0]; go_simp
  have hla := lt_of_cell a2
  have hlb := lt_of_cell b2
  clear hW0 hA4 hA5
  generalize w.heap.size + (os1.size + os2.size) + 1 + os4.size + 1 + 1 + os5.size = pb at *
  generalize w.heap.size + (os1.size + os2.size) + 1 + os4.size = pa at *
  obtain ⟨x5, b5, off5, hx5, _, rfl, ⟨y0, y1, y2', y3, y4, y5⟩⟩ := hA0.at (k := 1) (by decide)
  obtain rfl : numK 3 = x5 := by simpa using hx5
  have hl5 := lt_of_cell y0
  have hc5 := hA0.cap
  clear hA0 hx5
  simp only [numK] at y0 y1 y2' y3 y4 y5
  refine wp_plan (S := Ext _) [(0, 0), (1, 0), (2, 0), (3, 0), (4, 0), (5, 0), (6, 0), (7, 0), (8, 0), (9, 0), (10, 0), (11, 0), (12, 0), (13, 0), (14, 0), (15, 0), (16, 0), (17, 0), (18, 0), (19, 0), (20, 0), (21, 0), (22, 0), (23, 0), (24, 0), (25, 1), (26, 0), (27, 0), (28, 1), (29, 0), (30, 0), (31, 0), (32, 1), (33, 0), (34, 0), (35, 0), (36, 0)] [] (by kernel_rfl) (by kernel_rfl) (by kernel_rfl) (fun _ _ d _ _ h => by cases d <;> exact h) (Ext.drew (Ext.refl _)) ?_
  iterate 2 ((refine wpPl_read (v := ?_) rfl ?_ (fun _ h => ?_) ?_; rotate_left 1; rfl; (obtain ⟨_, _, rfl⟩ := h.more; go_simp; try rfl)); try simp only [Act.put, zqA, zqB, zqC])
  first | (refine wpPl_skip rfl rfl ?_) | (refine wpPl_read (v := ?_) rfl ?_ (fun w1 h1 => ?_) ?_; rotate_left 1; rfl; (obtain ⟨os1, d1, rfl⟩ := h1.more; go_simp; first | done | rfl)) | (refine wpPl_gread (v := ?_) (c := ?_) rfl rfl rfl rfl ?_ (fun hc w1 h1 => ?_) ?_; rotate_left 2; (first | exact gc_t _ | exact gc_f _ | exact gc_gt _ _ | exact gc_gf _ _); (obtain ⟨os1, d1, rfl⟩ := h1.more; (try simp only [gv_of hc]); (try (have hc1 := and_l hc; (try simp only [gv_of hc1]); (try (have hc2 := and_l hc1; (try simp only [gv_of hc2]))))); go_simp; first | done | rfl))
  try simp only [Act.put, zqA, zqB, zqC]
  first | (refine wpPl_pick_and rfl rfl rfl rfl rfl rfl ?_) | (refine wpPl_pick_or rfl rfl rfl rfl rfl rfl ?_) | (refine wpPl_read (v := ?_) rfl ?_ (fun w1 h1 => ?_) ?_; rotate_left 1; rfl; (obtain ⟨os1, d1, rfl⟩ := h1.more; go_simp; first | done | rfl))
  try simp only [Act.put, zqA, zqB, zqC]
  (refine wpPl_read (v := ?_) rfl ?_ (fun _ h => ?_) ?_; rotate_left 1; rfl; (obtain ⟨_, _, rfl⟩ := h.more; go_simp; try rfl))
  try simp only [Act.put, zqA, zqB, zqC]
  iterate 2 ((first | (refine wpPl_skip rfl rfl ?_) | (refine wpPl_read (v := ?_) rfl ?_ (fun w1 h1 => ?_) ?_; rotate_left 1; rfl; (obtain ⟨os1, d1, rfl⟩ := h1.more; go_simp; first | done | rfl)) | (refine wpPl_gread (v := ?_) (c := ?_) rfl rfl rfl rfl ?_ (fun hc w1 h1 => ?_) ?_; rotate_left 2; (first | exact gc_t _ | exact gc_f _ | exact gc_gt _ _ | exact gc_gf _ _); (obtain ⟨os1, d1, rfl⟩ := h1.more; (try simp only [gv_of hc]); (try (have hc1 := and_l hc; (try simp only [gv_of hc1]); (try (have hc2 := and_l hc1; (try simp only [gv_of hc2]))))); go_simp; first | done | rfl))); try simp only [Act.put, zqA, zqB, zqC])
  first | (refine wpPl_pick_and rfl rfl rfl rfl rfl rfl ?_) | (refine wpPl_pick_or rfl rfl rfl rfl rfl rfl ?_) | (refine wpPl_read (v := ?_) rfl ?_ (fun w1 h1 => ?_) ?_; rotate_left 1; rfl; (obtain ⟨os1, d1, rfl⟩ := h1.more; go_simp; first | done | rfl))
  try simp only [Act.put, zqA, zqB, zqC]
  (refine wpPl_read (v := ?_) rfl ?_ (fun _ h => ?_) ?_; rotate_left 1; rfl; (obtain ⟨_, _, rfl⟩ := h.more; go_simp; try rfl))
  try simp only [Act.put, zqA, zqB, zqC]
  iterate 4 ((first | (refine wpPl_skip rfl rfl ?_) | (refine wpPl_read (v := ?_) rfl ?_ (fun w1 h1 => ?_) ?_; rotate_left 1; rfl; (obtain ⟨os1, d1, rfl⟩ := h1.more; go_simp; first | done | rfl)) | (refine wpPl_gread (v := ?_) (c := ?_) rfl rfl rfl rfl ?_ (fun hc w1 h1 => ?_) ?_; rotate_left 2; (first | exact gc_t _ | exact gc_f _ | exact gc_gt _ _ | exact gc_gf _ _); (obtain ⟨os1, d1, rfl⟩ := h1.more; (try simp only [gv_of hc]); (try (have hc1 := and_l hc; (try simp only [gv_of hc1]); (try (have hc2 := and_l hc1; (try simp only [gv_of hc2]))))); go_simp; first | done | rfl))); try simp only [Act.put, zqA, zqB, zqC])
  first | (refine wpPl_pick_and rfl rfl rfl rfl rfl rfl ?_) | (refine wpPl_pick_or rfl rfl rfl rfl rfl rfl ?_) | (refine wpPl_read (v := ?_) rfl ?_ (fun w1 h1 => ?_) ?_; rotate_left 1; rfl; (obtain ⟨os1, d1, rfl⟩ := h1.more; go_simp; first | done | rfl))
  try simp only [Act.put, zqA, zqB, zqC]
  (refine wpPl_read (v := ?_) rfl ?_ (fun _ h => ?_) ?_; rotate_left 1; rfl; (obtain ⟨_, _, rfl⟩ := h.more; go_simp; try rfl))
  try simp only [Act.put, zqA, zqB, zqC]
  iterate 4 ((first | (refine wpPl_skip rfl rfl ?_) | (refine wpPl_read (v := ?_) rfl ?_ (fun w1 h1 => ?_) ?_; rotate_left 1; rfl; (obtain ⟨os1, d1, rfl⟩ := h1.more; go_simp; first | done | rfl)) | (refine wpPl_gread (v := ?_) (c := ?_) rfl rfl rfl rfl ?_ (fun hc w1 h1 => ?_) ?_; rotate_left 2; (first | exact gc_t _ | exact gc_f _ | exact gc_gt _ _ | exact gc_gf _ _); (obtain ⟨os1, d1, rfl⟩ := h1.more; (try simp only [gv_of hc]); (try (have hc1 := and_l hc; (try simp only [gv_of hc1]); (try (have hc2 := and_l hc1; (try simp only [gv_of hc2]))))); go_simp; first | done | rfl))); try simp only [Act.put, zqA, zqB, zqC])
  first | (refine wpPl_pick_and rfl rfl rfl rfl rfl rfl ?_) | (refine wpPl_pick_or rfl rfl rfl rfl rfl rfl ?_) | (refine wpPl_read (v := ?_) rfl ?_ (fun w1 h1 => ?_) ?_; rotate_left 1; rfl; (obtain ⟨os1, d1, rfl⟩ := h1.more; go_simp; first | done | rfl))
  try simp only [Act.put, zqA, zqB, zqC]
  (refine wpPl_read (v := ?_) rfl ?_ (fun _ h => ?_) ?_; rotate_left 1; rfl; (obtain ⟨_, _, rfl⟩ := h.more; go_simp; try rfl))
  try simp only [Act.put, zqA, zqB, zqC]
  iterate 4 ((first | (refine wpPl_skip rfl rfl ?_) | (refine wpPl_read (v := ?_) rfl ?_ (fun w1 h1 => ?_) ?_; rotate_left 1; rfl; (obtain ⟨os1, d1, rfl⟩ := h1.more; go_simp; first | done | rfl)) | (refine wpPl_gread (v := ?_) (c := ?_) rfl rfl rfl rfl ?_ (fun hc w1 h1 => ?_) ?_; rotate_left 2; (first | exact gc_t _ | exact gc_f _ | exact gc_gt _ _ | exact gc_gf _ _); (obtain ⟨os1, d1, rfl⟩ := h1.more; (try simp only [gv_of hc]); (try (have hc1 := and_l hc; (try simp only [gv_of hc1]); (try (have hc2 := and_l hc1; (try simp only [gv_of hc2]))))); go_simp; first | done | rfl))); try simp only [Act.put, zqA, zqB, zqC])
  (refine wpPl_eff rfl ?_ (fun K hK => ?_); (first | with_reducible rfl | rfl | (go_simp; done)); go_simp; refine (num15_three _).mono ?_; rintro e w' ⟨b9, off9, c9, rfl, ⟨z0, z1, z2, z3, z4, z5⟩, hc9, hb⟩; have hl9 := lt_of_cell z0; (simp only [numK] at z0 z1 z2 z3 z4 z5); obtain ⟨os9, d9, rfl⟩ := hb.more; clear hb; (try simp only [drew_more] at z0 z1 z2 z3 z4 z5); (try simp only [more_size] at hl9); refine hK _ _ ?_ ?_; (repeat (first | (with_reducible (first | exact Ext.refl _ | exact ext_d _ _ _ _ | exact ext_app _ _ _ _ _ | exact ext_app2 _ _ _ _ _ _ | exact ext_app3 _ _ _ _ _ _ _ | exact ext_app4 _ _ _ _ _ _ _ _ | exact ext_app5 _ _ _ _ _ _ _ _ _)) | ((with_reducible refine ext_suffix ⟨_, ?_⟩); (try simp only [Array.append_assoc]); rfl) | (with_reducible (first | apply Ext.drew | apply Ext.alloc | apply Ext.more_)) | apply Ext.drew | apply Ext.alloc | apply Ext.more_)))
  try simp only [Act.put, zqA, zqB, zqC]
  iterate 2 ((first | (refine wpPl_skip rfl rfl ?_) | (refine wpPl_read (v := ?_) rfl ?_ (fun w1 h1 => ?_) ?_; rotate_left 1; rfl; (obtain ⟨os1, d1, rfl⟩ := h1.more; go_simp; first | done | rfl)) | (refine wpPl_gread (v := ?_) (c := ?_) rfl rfl rfl rfl ?_ (fun hc w1 h1 => ?_) ?_; rotate_left 2; (first | exact gc_t _ | exact gc_f _ | exact gc_gt _ _ | exact gc_gf _ _); (obtain ⟨os1, d1, rfl⟩ := h1.more; (try simp only [gv_of hc]); (try (have hc1 := and_l hc; (try simp only [gv_of hc1]); (try (have hc2 := and_l hc1; (try simp only [gv_of hc2]))))); go_simp; first | done | rfl))); try simp only [Act.put, zqA, zqB, zqC])
  first | (refine wpPl_effskip rfl ?_ ?_ ?_; (first | with_reducible rfl | rfl | (go_simp; done)); (repeat (first | (with_reducible (first | exact Ext.refl _ | exact ext_d _ _ _ _ | exact ext_app _ _ _ _ _ | exact ext_app2 _ _ _ _ _ _ | exact ext_app3 _ _ _ _ _ _ _ | exact ext_app4 _ _ _ _ _ _ _ _ | exact ext_app5 _ _ _ _ _ _ _ _ _)) | ((with_reducible refine ext_suffix ⟨_, ?_⟩); (try simp only [Array.append_assoc]); rfl) | (with_reducible (first | apply Ext.drew | apply Ext.alloc | apply Ext.more_)) | apply Ext.drew | apply Ext.alloc | apply Ext.more_))) | (refine wpPl_eff rfl ?_ (fun K hK => ?_); (first | with_reducible rfl | rfl | (go_simp; done)); go_simp; refine hK _ _ ?_ ?_; (repeat (first | (with_reducible (first | exact Ext.refl _ | exact ext_d _ _ _ _ | exact ext_app _ _ _ _ _ | exact ext_app2 _ _ _ _ _ _ | exact ext_app3 _ _ _ _ _ _ _ | exact ext_app4 _ _ _ _ _ _ _ _ | exact ext_app5 _ _ _ _ _ _ _ _ _)) | ((with_reducible refine ext_suffix ⟨_, ?_⟩); (try simp only [Array.append_assoc]); rfl) | (with_reducible (first | apply Ext.drew | apply Ext.alloc | apply Ext.more_)) | apply Ext.drew | apply Ext.alloc | apply Ext.more_)))
  try simp only [Act.put, zqA, zqB, zqC]
  first | (refine wpPl_skip rfl rfl ?_) | (refine wpPl_read (v := ?_) rfl ?_ (fun w1 h1 => ?_) ?_; rotate_left 1; rfl; (obtain ⟨os1, d1, rfl⟩ := h1.more; go_simp; first | done | rfl)) | (refine wpPl_gread (v := ?_) (c := ?_) rfl rfl rfl rfl ?_ (fun hc w1 h1 => ?_) ?_; rotate_left 2; (first | exact gc_t _ | exact gc_f _ | exact gc_gt _ _ | exact gc_gf _ _); (obtain ⟨os1, d1, rfl⟩ := h1.more; (try simp only [gv_of hc]); (try (have hc1 := and_l hc; (try simp only [gv_of hc1]); (try (have hc2 := and_l hc1; (try simp only [gv_of hc2]))))); go_simp; first | done | rfl))
  try simp only [Act.put, zqA, zqB, zqC]
  first | (refine wpPl_pick_and rfl rfl rfl rfl rfl rfl ?_) | (refine wpPl_pick_or rfl rfl rfl rfl rfl rfl ?_) | (refine wpPl_read (v := ?_) rfl ?_ (fun w1 h1 => ?_) ?_; rotate_left 1; rfl; (obtain ⟨os1, d1, rfl⟩ := h1.more; go_simp; first | done | rfl))
  try simp only [Act.put, zqA, zqB, zqC]
  (refine wpPl_read (v := ?_) rfl ?_ (fun _ h => ?_) ?_; rotate_left 1; rfl; (obtain ⟨_, _, rfl⟩ := h.more; go_simp; try rfl))
  try simp only [Act.put, zqA, zqB, zqC]
  (refine wpPl_eff rfl ?_ (fun K hK => ?_); (first | with_reducible rfl | rfl | (go_simp; done)); go_simp; refine (gnames_any _).mono ?_; rintro e w' ⟨v, ss, rfl, hS, hrow, hb⟩; obtain ⟨A10, c10, rfl⟩ := own_slice hrow; obtain ⟨os10, d10, rfl⟩ := hb.more; clear hb hrow hS; refine hK _ _ ?_ ?_; (repeat (first | (with_reducible (first | exact Ext.refl _ | exact ext_d _ _ _ _ | exact ext_app _ _ _ _ _ | exact ext_app2 _ _ _ _ _ _ | exact ext_app3 _ _ _ _ _ _ _ | exact ext_app4 _ _ _ _ _ _ _ _ | exact ext_app5 _ _ _ _ _ _ _ _ _)) | ((with_reducible refine ext_suffix ⟨_, ?_⟩); (try simp only [Array.append_assoc]); rfl) | (with_reducible (first | apply Ext.drew | apply Ext.alloc | apply Ext.more_)) | apply Ext.drew | apply Ext.alloc | apply Ext.more_)))
  try simp only [Act.put, zqA, zqB, zqC]
  iterate 2 ((first | (refine wpPl_skip rfl rfl ?_) | (refine wpPl_read (v := ?_) rfl ?_ (fun w1 h1 => ?_) ?_; rotate_left 1; rfl; (obtain ⟨os1, d1, rfl⟩ := h1.more; go_simp; first | done | rfl)) | (refine wpPl_gread (v := ?_) (c := ?_) rfl rfl rfl rfl ?_ (fun hc w1 h1 => ?_) ?_; rotate_left 2; (first | exact gc_t _ | exact gc_f _ | exact gc_gt _ _ | exact gc_gf _ _); (obtain ⟨os1, d1, rfl⟩ := h1.more; (try simp only [gv_of hc]); (try (have hc1 := and_l hc; (try simp only [gv_of hc1]); (try (have hc2 := and_l hc1; (try simp only [gv_of hc2]))))); go_simp; first | done | rfl))); try simp only [Act.put, zqA, zqB, zqC])
  first | (refine wpPl_pick_and rfl rfl rfl rfl rfl rfl ?_) | (refine wpPl_pick_or rfl rfl rfl rfl rfl rfl ?_) | (refine wpPl_read (v := ?_) rfl ?_ (fun w1 h1 => ?_) ?_; rotate_left 1; rfl; (obtain ⟨os1, d1, rfl⟩ := h1.more; go_simp; first | done | rfl))
  try simp only [Act.put, zqA, zqB, zqC]
  (refine wpPl_read (v := ?_) rfl ?_ (fun _ h => ?_) ?_; rotate_left 1; rfl; (obtain ⟨_, _, rfl⟩ := h.more; go_simp; try rfl))
  try simp only [Act.put, zqA, zqB]
  refine wpPl_nil ?_
  go_wp2_with fail
  go_ret
  exact ⟨rfl, hx0.trans (by repeat (first | (with_reducible (first | exact Ext.refl _ | exact ext_app _ _ _ _ _ | exact ext_app2 _ _ _ _ _ _)) | ((with_reducible refine ext_suffix ⟨_, ?_⟩); (try simp only [Array.append_assoc]); rfl) | (with_reducible (first | apply Ext.drew | apply Ext.alloc | apply Ext.more_))))⟩
end Go.Proofs.YtmjmijjbijlhfaaGreatDoor
namespace Go.Proofs.YtmjmijjbijlhfaaGreatDoor
open Go.RowKit NM
theorem sorts_sort (A : Option Addr) (n cap : Nat) (gs : List GA) (w : World) (h : ArgsG w A n cap gs) : Calls Tryz.prog 13 #[.string ⟨#[83, 79, 82, 84]⟩, .slice A n cap] w fun e w' => e = .returned (.bool true) ∧ Ext w w' :=
  call15_any ⟨#[83, 79, 82, 84]⟩ A n cap w (callX 1 3 gs (sortO (arsOf gs))) (fun W hW => pcall_sort A n cap gs W (h.ext hW)) (fun W hW => rcall_x _ 1 3 (by decide) (by decide) (by decide) (fun W' => rcount_sort W') _ A n cap gs W (h.ext hW) (fun hi h1 h2 => rcall_sort A n cap _ W hi h1 h2))
theorem sorts_unique (A : Option Addr) (n cap : Nat) (gs : List GA) (w : World) (h : ArgsG w A n cap gs) : Calls Tryz.prog 13 #[.string ⟨#[85, 78, 73, 81, 85, 69]⟩, .slice A n cap] w fun e w' => e = .returned (.bool true) ∧ Ext w w' :=
  call15_any ⟨#[85, 78, 73, 81, 85, 69]⟩ A n cap w (callX 1 1 gs (uniqueO (arsOf gs))) (fun W hW => pcall_unique A n cap gs W (h.ext hW)) (fun W hW => rcall_x _ 1 1 (by decide) (by decide) (by decide) (fun W' => rcount_unique W') _ A n cap gs W (h.ext hW) (fun hi h1 h2 => rcall_unique A n cap _ W hi h1 h2))
set_option maxHeartbeats 4000000 in
theorem farraySorts_any (A : Option Addr) (n cap : Nat) (gs : List GA) (w : World) (htab : Tab w) (h : ArgsG w A n cap gs) :
    Calls Tryz.prog 4 #[.slice A n cap] w fun e w' => e = .returned (.bool true) ∧ Ext w w' := by
  have HT := Lib.hid htab
  have H := Lib.hid h
  clear htab h
  go_enter Tryz.func4, Tryz.ntmps4
  go_wp2_with (first | (go_at_call 9; (with_reducible refine (awake15_any _ (HT.out.ext (by with_reducible repeat (first | exact Ext.refl _ | apply Ext.drew | apply Ext.alloc | apply Ext.more_)))).mono ?_); rintro e w' ⟨rfl, hb⟩; obtain ⟨osw, dw, rfl⟩ := hb.more; clear hb) | (go_at_call 12; (with_reducible refine (small15_any _ _ _ _ _ (H.out.ext (by with_reducible repeat (first | exact Ext.refl _ | apply Ext.drew | apply Ext.alloc | apply Ext.more_)))).mono ?_); rintro e w' ⟨s, rfl, hs, hb⟩; obtain ⟨oss, ds, rfl⟩ := hb.more; clear hb; rcases hs with rfl | rfl) | (go_at_call 13; first | (with_reducible refine (sorts_sort _ _ _ _ _ (H.out.ext (by with_reducible repeat (first | exact Ext.refl _ | apply Ext.drew | apply Ext.alloc | apply Ext.more_)))).mono ?_); rintro e w' ⟨rfl, hb⟩; obtain ⟨os1, d1, rfl⟩ := hb.more; clear hb | (with_reducible refine (sorts_unique _ _ _ _ _ (H.out.ext (by with_reducible repeat (first | exact Ext.refl _ | apply Ext.drew | apply Ext.alloc | apply Ext.more_)))).mono ?_); rintro e w' ⟨rfl, hb⟩; obtain ⟨os2, d2, rfl⟩ := hb.more; clear hb))
  all_goals
    go_ret
    exact ⟨rfl, by with_reducible repeat (first | exact Ext.refl _ | apply Ext.drew | apply Ext.alloc | apply Ext.more_)⟩
end Go.Proofs.YtmjmijjbijlhfaaGreatDoor
namespace Go.Proofs.YtmjmijjbijlhfaaGreatDoor
open Go.ChangeShapes Go.WideShapes Go.ChangeAt Go.RowKit Go.Deep
theorem own : ownKnob Tryz.prog.godebug = none := by kernel_rfl
theorem laidOut : laidOutB Tryz.prog = true := by kernel_rfl
theorem cells_num : Tryz.prog.cellsOf 41 = 2 := by kernel_rfl
theorem cells_int : Tryz.prog.cellsOf 3 = 1 := by kernel_rfl
/-- What all rows of this seat list. -/
def laid3 : List (String × DataW Unit) := [("math/bits.deBruijn32tab", Rows.laid_math_bits_deBruijn32tab), ("math/bits.deBruijn64tab", Rows.laid_math_bits_deBruijn64tab), ("internal/strconv.uint64pow10", Rows.laid_internal_strconv_uint64pow10)]
theorem pow10_data : (Rows.laid_internal_strconv_uint64pow10 : DataW Unit) = Lib.tabData .u64 Lib.pow10Tab := by
  unfold Rows.laid_internal_strconv_uint64pow10 Lib.tabData Lib.pow10Tab
  simp [List.range_succ]
theorem gPow : Tryz.prog.globalNamed "internal/strconv.uint64pow10" = some 3 := by kernel_rfl
theorem tPow : (Tryz.prog.globals[3]?).map (·.type) = some 199 := by kernel_rfl
theorem tab_of_laid {W : World} (h : laidMetH Tryz.prog laid3 W) : Tab W := by
  rw [MakeChecks.laidMetH_plain _ _ _ (by kernel_rfl)] at h
  obtain ⟨ps, ⟨g0, t0, cs0, f0, p0, q0, hg0, ht0, hv0, hd0, ⟨g1, t1, cs1, f1, p1, q1, hg1, ht1, hv1, hd1, ⟨g2, t2, cs2, f2, p2, q2, hg2, ht2, hv2, hd2, _, _⟩, _⟩, _⟩, _, _⟩ := h
  obtain rfl := Option.some.inj (gPow.symm.trans hg2)
  obtain rfl := Option.some.inj (tPow.symm.trans ht2)
  rw [pow10_data] at hd2
  unfold Tab Lib.TabIs
  rw [hv2, ← Lib.cells_of_tab Tryz.underlying199 Tryz.underlying47 (by kernel_rfl) (by kernel_rfl) hd2]
theorem door_met (os : Os) (args : Array Value) : laidMetH Tryz.prog laid3 ((World.doorLaid Tryz.prog 400 os).forCall (fun _ _ => 0) ⟨#[], args, []⟩).memory :=
  laidMetH_of_parts3 (fuel := 8) (laidMet_of_run' 8 (by kernel_rfl) (by kernel_rfl)) (by kernel_rfl) (by kernel_rfl)
set_option maxRecDepth 100000
section
variable {H : Type} {enc : TypeId × Value → H} {w : World} {base : Nat} {spare : Nat → Bool} {held : Bool}
theorem i64_of {n : Int} (h : (Lit.int .i64 n).wf = true) : I64 n := by
  simpa [Lit.wf, IntKind.min, IntKind.max, IntKind.signed, IntKind.bits, I64] using h
theorem trod_blocks_ {t : TypeId} {v : Value} {d : DataW H} {p : List MemPlace} (h : DataW.Trod enc Tryz.prog w base spare held t v d p) : ∀ x ∈ p, x.block < w.heap.size := by
  obtain ⟨m, hm⟩ := h
  exact DataW.trod_lt m _ _ _ hm
end
end Go.Proofs.YtmjmijjbijlhfaaGreatDoor
namespace Go.Proofs.YtmjmijjbijlhfaaGreatDoor
open Go.ChangeShapes Go.WideShapes Go.ChangeAt Go.RowKit Go.Deep
theorem cells_val : Tryz.prog.cellsOf 43 = 6 := by kernel_rfl
theorem cells_string : Tryz.prog.cellsOf 9 = 1 := by kernel_rfl
theorem cells_bool : Tryz.prog.cellsOf 4 = 1 := by kernel_rfl
theorem cells_arr : Tryz.prog.cellsOf 31 = 3 := by kernel_rfl
set_option maxRecDepth 100000
section
variable {H : Type} {enc : TypeId × Value → H} {w : World} {base : Nat} {spare : Nat → Bool} {held : Bool}
theorem open_num {fuel : Nat} {c1 c2 : Value} {x : DataW H × List MemPlace} (h : DataW.trod enc Tryz.prog w base spare held fuel 41 [c1, c2] = some x) : ∃ m e : Int, [c1, c2] = [.int .i64 m, .int .i64 e] ∧ I64 m ∧ I64 e := by
  obtain ⟨xs, n, rfl, _, hl, hxs, hf⟩ := DataW.trod_struct Tryz.underlying41 h
  obtain ⟨y0, hy0⟩ : ∃ y, xs[0]? = some y := ⟨_, List.getElem?_eq_getElem (by rw [hxs]; decide)⟩
  have g0 : DataW.trod enc Tryz.prog w base spare held n 3 [c1] = some y0 := by rw [← hy0]; have := hf 0 _ rfl; simpa [cells_int] using this
  obtain ⟨y1, hy1⟩ : ∃ y, xs[1]? = some y := ⟨_, List.getElem?_eq_getElem (by rw [hxs]; decide)⟩
  have g1 : DataW.trod enc Tryz.prog w base spare held n 3 [c2] = some y1 := by rw [← hy1]; have := hf 1 _ rfl; simpa [cells_int] using this
  obtain ⟨m, e0, _, w0⟩ := DataW.trod_int Tryz.underlying3 g0
  obtain ⟨e, e1, _, w1⟩ := DataW.trod_int Tryz.underlying3 g1
  simp only [List.cons.injEq, and_true] at e0 e1
  subst e0 e1
  exact ⟨m, e, rfl, i64_of w0, i64_of w1⟩
set_option maxHeartbeats 800000 in
theorem open_val {fuel : Nat} {cs : List Value} {x : DataW H × List MemPlace} (h : DataW.trod enc Tryz.prog w base spare held fuel 43 cs = some x) : ∃ y : Val, cs = y.cells ∧ y.ok := by
  obtain ⟨xs, n, rfl, _, hl, hxs, hf⟩ := DataW.trod_struct Tryz.underlying43 h
  rw [cells_val] at hl
  match cs, hl with
  | [c0, c1, c2, c3, c4, c5], _ =>
    obtain ⟨y0, hy0⟩ : ∃ y, xs[0]? = some y := ⟨_, List.getElem?_eq_getElem (by rw [hxs]; decide)⟩
    have g0 : DataW.trod enc Tryz.prog w base spare held n 3 [c0] = some y0 := by rw [← hy0]; have := hf 0 _ rfl; simpa [cells_int] using this
    obtain ⟨y1, hy1⟩ : ∃ y, xs[1]? = some y := ⟨_, List.getElem?_eq_getElem (by rw [hxs]; decide)⟩
    have g1 : DataW.trod enc Tryz.prog w base spare held n 41 [c1, c2] = some y1 := by rw [← hy1]; have := hf 1 _ rfl; simpa [cells_num] using this
    obtain ⟨y2, hy2⟩ : ∃ y, xs[2]? = some y := ⟨_, List.getElem?_eq_getElem (by rw [hxs]; decide)⟩
    have g2 : DataW.trod enc Tryz.prog w base spare held n 9 [c3] = some y2 := by rw [← hy2]; have := hf 2 _ rfl; simpa [cells_string] using this
    obtain ⟨y3, hy3⟩ : ∃ y, xs[3]? = some y := ⟨_, List.getElem?_eq_getElem (by rw [hxs]; decide)⟩
    have g3 : DataW.trod enc Tryz.prog w base spare held n 4 [c4] = some y3 := by rw [← hy3]; have := hf 3 _ rfl; simpa [cells_bool] using this
    obtain ⟨y4, hy4⟩ : ∃ y, xs[4]? = some y := ⟨_, List.getElem?_eq_getElem (by rw [hxs]; decide)⟩
    have g4 : DataW.trod enc Tryz.prog w base spare held n 3 [c5] = some y4 := by rw [← hy4]; have := hf 4 _ rfl; simpa [cells_int] using this
    obtain ⟨k, e0, _, w0⟩ := DataW.trod_int Tryz.underlying3 g0
    obtain ⟨m, ex, e1, w1, w2⟩ := open_num g1
    obtain ⟨t, e3, _, w3⟩ := DataW.trod_string Tryz.underlying9 g2
    obtain ⟨b, e4, _⟩ := DataW.trod_bool Tryz.underlying4 g3
    obtain ⟨f, e5, _, w5⟩ := DataW.trod_int Tryz.underlying3 g4
    simp only [List.cons.injEq, and_true] at e0 e1 e3 e4 e5
    obtain ⟨rfl, rfl⟩ := e1
    subst e0 e3 e4 e5
    exact ⟨⟨k, m, ex, t, b, f⟩, rfl, i64_of w0, w1, w2, w3, i64_of w5⟩
/-- A slice of values. -/
theorem open_vals {fuel : Nat} {a : Option Addr} {len cap : Nat} {x : DataW H × List MemPlace} (h : DataW.trod enc Tryz.prog w base spare held fuel 29 [.slice a len cap] = some x) : ∃ l, ArrIn w a len cap l := by
  rcases open_slice Tryz.underlying29 h with ⟨hcs, _⟩ | ⟨ad, len', cap', m, n, D, Pl, hcs, hb, hl, hm, hmm, _, hi⟩
  · simp only [List.cons.injEq, Value.slice.injEq, and_true] at hcs
    obtain ⟨rfl, rfl, rfl⟩ := hcs
    exact ⟨[], SlV.nil _ _ _, rfl, Nat.le_refl _, by omega, by simp⟩
  · simp only [List.cons.injEq, Value.slice.injEq, and_true] at hcs
    obtain ⟨rfl, rfl, rfl⟩ := hcs
    have hlm : len ≤ m := by rw [hmm]; split <;> omega
    obtain ⟨X, hX⟩ := choose_lt (α := Val) (n := len) (p := fun i y => w.cells? base (ad.add (i * 6)) 6 = some y.cells ∧ y.ok) (fun i hil => by
      obtain ⟨cs', h1, h2⟩ := hi i (by omega)
      rw [cells_val] at h1
      obtain ⟨y, rfl, hy⟩ := open_val h2
      exact ⟨y, h1, hy⟩)
    refine ⟨(List.range len).map X, ?_, by simp, hl, by simp only [maxLen] at hm; omega, ?_⟩
    · intro j u hu
      have hj : j / 6 < len := by
        have := (List.getElem?_eq_some_iff.1 hu).1
        rw [vcells_length] at this
        simp at this
        omega
      have hat := vcells_at ((List.range len).map X) (j / 6) (X (j / 6)) (by simp [hj]) (j % 6) (by omega)
      rw [show j / 6 * 6 + j % 6 = j by omega, hu] at hat
      obtain ⟨_, _, hc⟩ := World.cells?_some (hX (j / 6) hj).1
      have h6 := hc (j % 6) (by omega)
      rw [← hat, Go.Deep.add_add, show j / 6 * 6 + j % 6 = j by omega] at h6
      obtain ⟨b, off, spot⟩ := ad
      have hsp : spot = none := by
        obtain ⟨_, _, hc0⟩ := World.cells?_some (hX 0 (by omega)).1
        have h0 := hc0 0 (by omega)
        simp [Addr.add, Val.cells] at h0
        exact World.cell?_spot h0
      subst hsp
      rw [Addr.add_mid] at h6
      exact ⟨b, off, rfl, Nat.zero_le _, h6⟩
    · intro y hy
      simp only [List.mem_map, List.mem_range] at hy
      obtain ⟨i, hi', rfl⟩ := hy
      exact (hX i hi').2
end
end Go.Proofs.YtmjmijjbijlhfaaGreatDoor
