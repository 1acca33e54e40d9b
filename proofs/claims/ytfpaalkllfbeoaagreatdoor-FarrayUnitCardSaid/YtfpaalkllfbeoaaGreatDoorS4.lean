/- What the rows' proofs lean on: the contracts of the functions that they reach, and plain facts (part S4). -/
import Derived.WalkKit
import Derived.WalkLawsBesides
import Derived.WalkSpells
import Derived.Outline
import Derived.Below
import Derived.Deep.RegionHeld3
import Derived.Deep.DeepCutAuto
import Derived.Deep.AppendLies
import Derived.Maps.AppendAt
import Derived.Lib.Hide
import Derived.OrdersHeld
import Derived.Test.YtfpaalkllfbeoaaGreatDoorProg
import Derived.Shelf.Small.Bits
import Derived.Shelf.Small.Strs
import Derived.Shelf.Strconv.Itoa0
import Derived.Shelf.Strconv.Itoa1
import Derived.Shelf.LaysM
import Derived.Shelf.Strconv.Itoa2
import Derived.Shelf.Bits.Mul64
import Derived.Lib.ItoaMem
import Derived.Lib.OthersKept
import Derived.Deep.CutBlock
import Derived.Laws.Bits64b
import Derived.Lib.AppendZeros
import Derived.Lib.Bytealg
import Derived.Laws.RangeAny
import Derived.Maps.OwnSet
import Derived.Maps.Own
import Derived.Laws.EntriesVeiled
import Derived.Lib.ConvBytes
import Derived.Lib.SlBytesRow
import Derived.Lib.SmallJoins
import Derived.RegionTactic
import Derived.Shelf.SlIter.Nil
import Derived.Shelf.SortM.Plain
import Derived.Shelf.SortM.SortNone
import Derived.Ground.GgzProg
import Derived.Ground.SlgmProg
import Derived.Test.YtfpaalkllfbeoaaGreatDoorRows
import Derived.Test.YtfpaalkllfbeoaaGreatDoorCards
import Derived.Test.YtfpaalkllfbeoaaGreatDoorTie
import Derived.ProofKit
import Derived.LaidMore
import Derived.OpenShut
import Derived.ShutString
import Derived.ChangeOld
import Derived.Stop.Joined
import Derived.Deep.Slices
import Derived.SevenTiedAt
import Derived.Test.YtfpaalkllfbeoaaGreatDoorS3
set_option linter.unusedSimpArgs false
set_option linter.unusedVariables false
set_option maxRecDepth 100000
namespace Go.Proofs.YtfpaalkllfbeoaaGreatDoor
open Go.RowKit NM
theorem make_one (W : World) (h : Tab W) : Calls Tryz.prog 82 #[.int .i64 1, .int .i64 0] W fun e w' => e = .returned (.tuple #[NV 1 0, .bool true]) ∧ Ext W w' := by
  have := make_any 1 0 W h (by unfold I64; omega) (by unfold I64; omega)
  rw [show rnd (decide ((1 : Int) < 0)) (1 : Int).natAbs false 0 = some (1, 0) from rnd_of_right false rt_one] at this
  exact this
theorem given_lt {w : World} {A : Option Addr} {n cap k : Nat} {xs : List Ar} (h : ArgsIn w A n cap xs) (hg : givenB xs k = true) : k < n := by
  rcases Nat.lt_or_ge k n with hl | hl
  · exact hl
  · unfold givenB at hg; rw [List.getElem?_eq_none (by rw [h.len]; exact hl)] at hg; cases hg
theorem quo_lt {r c : Int} (hc : 1 ≤ c) : 4096 / c < r ↔ 4096 < r * c := by
  rw [Int.ediv_lt_iff_lt_mul (by omega)]
theorem tnO_rt {w : World} {A : Option Addr} {n cap k : Nat} {xs : List Ar} (h : ArgsIn w A n cap xs) : Rt (tnO xs k).1.1 (tnO xs k).1.2 := by
  unfold tnO
  cases hg : givenB xs k with
  | false => exact rt_one
  | true =>
    obtain ⟨R, C, l, b1, off1, n1', cap1, b, off, x, _, rfl, _, _, _, _, _, hxr, _, _, hav, _⟩ := h.first (given_lt h hg)
    rw [if_pos rfl, hav]
    exact tn_rt hxr
theorem new_own6 {w : World} {base n : Nat} {ty : TypeId} {C : Array Value} (x : Val) (hC : C = x.cells.toArray) (hn : n = w.heap.size) (hb : base ≤ n) : (w.alloc (.cells C ty)).ownsRow base ty 6 (.slice (some ⟨n, 0, none⟩) 1 1) 1 (vcells [x]) := by
  subst hn hC
  exact ⟨by simp [Val.cells, vcells], Or.inr ⟨w.heap.size, 1, _, rfl, hb, Array.getElem?_push_size, Nat.le_refl _, by decide, by simp [Val.cells], by simp [Val.cells, vcells]⟩⟩
theorem heap_two (Z : World) (o o' s s' : Obj) (os : Array Obj) (d : Nat) {g : Nat} (hg : Z.heap.size + 2 ≤ g) : (more ((Z.alloc o).alloc s) os d).heap[g]? = (more ((Z.alloc o').alloc s') os d).heap[g]? := by
  simp only [more, World.alloc, Array.getElem?_append, Array.getElem?_push, Array.size_push]
  rw [if_neg (by omega), if_neg (by omega)]
theorem own_two {Z : World} {o s : Obj} (o' s' : Obj) {os : Array Obj} {d base size n : Nat} {ty : TypeId} {v : Value} {xs : List Value} (h : (more ((Z.alloc o).alloc s) os d).ownsRow base ty size v n xs) (hb : Z.heap.size + 2 ≤ base) : (more ((Z.alloc o').alloc s') os d).ownsRow base ty size v n xs := by
  refine ⟨h.1, ?_⟩
  rcases h.2 with h2 | ⟨g, cap, cur, hv, hg, hh, r⟩
  · exact .inl h2
  · exact .inr ⟨g, cap, cur, hv, hg, by rw [heap_two Z o' o s' s os d (by omega)]; exact hh, r⟩
set_option maxHeartbeats 4000000 in
theorem gseq_any (A : Option Addr) (n cap : Nat) (xs : List Ar) (w : World) (htab : Tab w) (h : ArgsIn w A n cap xs) :
    Calls Tryz.prog 47 #[.slice A n cap] w fun e w' => ResA w (sequenceO xs) e w' := by
  have n0 := fun W (hW : ArgsIn W A n cap xs) => gnumber_any A n cap xs 0 1 W hW _ rfl
  have n1 := fun W (hW : ArgsIn W A n cap xs) => gnumber_any A n cap xs 1 1 W hW _ rfl
  have v2 := fun W (hW : ArgsIn W A n cap xs) => given_any A n cap xs 2 W hW _ rfl
  have v3 := fun W (hW : ArgsIn W A n cap xs) => given_any A n cap xs 3 W hW _ rfl
  have H := Lib.hid h
  have HT := Lib.hid htab
  unfold sequenceO
  generalize numO xs 0 1 = mm at *
  generalize numO xs 1 1 = kk at *
  obtain ⟨mi, mf⟩ := mm
  obtain ⟨ki, kf⟩ := kk
  simp only [show ((0 : Nat) : Int) = 0 from rfl, show ((1 : Nat) : Int) = 1 from rfl, show ((2 : Nat) : Int) = 2 from rfl, show ((3 : Nat) : Int) = 3 from rfl] at n0 n1 v2 v3
  clear h htab
  by_cases hmf : mf = 0
  · subst hmf
    by_cases hkf : kf = 0
    · subst hkf
      have har := tnO_rt (k := 2) H.out
      have hsr := tnO_rt (k := 3) H.out
      obtain ⟨a, ha⟩ : ∃ a, tnO xs 2 = a := ⟨_, rfl⟩
      obtain ⟨s, hs⟩ : ∃ s, tnO xs 3 = s := ⟨_, rfl⟩
      rw [ha] at har ⊢
      rw [hs] at hsr ⊢
      have HA := Lib.hid ha
      have HS := Lib.hid hs
      clear ha hs
      obtain ⟨X, hX⟩ : ∃ X, seqT (mi, 0) (ki, 0) a s = X := ⟨_, rfl⟩
      rw [hX]
      have HX := Lib.hid hX
      clear hX
      go_enter Tryz.func47, Tryz.ntmps47
      go_upto_region 8 with (first | (go_at_call 84; (with_reducible refine (n0 _ (H.out.ext (by with_reducible repeat (first | exact Ext.refl _ | apply Ext.drew | apply Ext.alloc | apply Ext.more_)))).mono ?_); rintro e w' ⟨rfl, hb⟩; obtain ⟨osa, da, rfl⟩ := hb.more; clear hb) | (go_at_call 84; (with_reducible refine (n1 _ (H.out.ext (by with_reducible repeat (first | exact Ext.refl _ | apply Ext.drew | apply Ext.alloc | apply Ext.more_)))).mono ?_); rintro e w' ⟨rfl, hb⟩; obtain ⟨osb, db, rfl⟩ := hb.more; clear hb) | (go_at_call 82; (with_reducible refine (make_one _ (HT.out.ext (by with_reducible repeat (first | exact Ext.refl _ | apply Ext.drew | apply Ext.alloc | apply Ext.more_)))).mono ?_); rintro e w' ⟨rfl, hb⟩; obtain ⟨osc, dc, rfl⟩ := hb.more; clear hb) | (go_at_call 32; (with_reducible refine (galone_any _ _).mono ?_); rintro e w' ⟨D, m, cc, rfl, hD, hb⟩; obtain ⟨os5, d5, rfl⟩ := hb.more; clear hb; have hDr := hD.rd))
      go_region
      · go_upto_if 38 with (go_at_call 89; (with_reducible refine (v2 _ (H.out.ext (by with_reducible repeat (first | exact Ext.refl _ | apply Ext.drew | apply Ext.alloc | apply Ext.more_)))).mono ?_); rintro e w' ⟨rfl, hb⟩; obtain ⟨osg, dg, rfl⟩ := hb.more; clear hb)
        go_cut [4] (fun s4 wx => ∃ osx dx, s4 = .int .i64 0 ∧ a.2 = 0 ∧ wx = more ((((more (w.alloc (Obj.cells #[.int .i64 0, .int .i64 0, .slice none 0 0] 31)) (osa ++ (osb ++ osc)) dc).alloc (Obj.cells #[.int .i64 1, .int .i64 0] 41)).alloc (Obj.cells #[.int .i64 a.1.1, .int .i64 a.1.2] 41)).alloc (Obj.cells #[.int .i64 1, .int .i64 0] 41)) osx dx)
        case first =>
          cases hg : givenB xs 2 with
          | false =>
            obtain rfl : ((1, 0), 0) = a := by rw [← HA.out]; unfold tnO; rw [hg]; rfl
            clear hg
            go_wp2_with fail
            go_meet
            exact ⟨_, _, rfl, trivial, rfl⟩
          | true =>
            have hlt := given_lt H.out hg
            obtain ⟨R, C, l, b1, off1, n1', cap1, b, off, x, _, rfl, ⟨u0, u1, u2⟩, hn1, hc1, ⟨y0, y1, y2, y3, y4, y5⟩, _, hxr, hbl, hb1, hav, _, _, _⟩ := H.out.first hlt
            have hcap := H.out.cap
            simp only at u0 u1 u2
            obtain rfl : (tnP x, tnF x) = a := by rw [← HA.out]; unfold tnO; rw [hg, if_pos rfl, hav]
            have ht := fun W => toNum_any x W hxr
            clear hg hav
            by_cases hf : tnF x = 0
            · simp only [tnV, hf] at ht
              go_wp2_with (first | (go_at_call 97; (with_reducible refine (ht _).mono ?_); rintro e w' ⟨rfl, hb⟩; obtain ⟨ost, dt, rfl⟩ := hb.more; clear hb))
              go_meet
              exact ⟨_, _, rfl, hf, rfl⟩
            · have hf' : (tnF x != 0) = true := by simpa using hf
              obtain rfl : aloneO (tnF x) = X := by rw [← HX.out]; unfold seqT; rw [if_neg (by simp), if_neg (by simp), if_pos hf]
              go_wp2_with (first | (go_at_call 97; (with_reducible refine (ht _).mono ?_); rintro e w' ⟨rfl, hb⟩; obtain ⟨ost, dt, rfl⟩ := hb.more; clear hb) | (go_at_call 32; (with_reducible refine (galone_any _ _).mono ?_); rintro e w' ⟨D, m, cc, rfl, hD, hb⟩; obtain ⟨os5, d5, rfl⟩ := hb.more; clear hb; have hDr := hD.rd))
              exact bodyPost_ret (v := AV (aloneO (tnF x)).R (aloneO (tnF x)).C (.slice D m cc)) (by simp [results, Tryz.results47, go_sem]) rfl ⟨D, m, cc, rfl, ⟨(by (try simp only [more_more] at hDr); (try simp only [drew_more] at hDr); (try simp only [more_drew] at hDr); (try simp only [Array.append_assoc] at hDr); exact Rd.swap hDr (by first | (simp; done) | (simp; omega) | omega) (by first | (simp; done) | (simp; omega) | omega) (by first | (simp; done) | (simp; omega) | omega)), hD.len, hD.cap, hD.small, hD.ok⟩, by with_reducible repeat (first | exact Ext.refl _ | apply Ext.drew | apply Ext.alloc | apply Ext.more_)⟩
        case rest =>
        obtain ⟨osx, dx, rfl, ha0, rfl⟩ := hcut
        clear osg dg
        go_upto_if 54 with (go_at_call 89; (with_reducible refine (v3 _ (H.out.ext (by with_reducible repeat (first | exact Ext.refl _ | apply Ext.drew | apply Ext.alloc | apply Ext.more_)))).mono ?_); rintro e w' ⟨rfl, hb⟩; obtain ⟨osg, dg, rfl⟩ := hb.more; clear hb)
        go_cut [4] (fun s4 wx => ∃ osy dy, s4 = .int .i64 0 ∧ s.2 = 0 ∧ wx = more ((((more (w.alloc (Obj.cells #[.int .i64 0, .int .i64 0, .slice none 0 0] 31)) (osa ++ (osb ++ osc)) dc).alloc (Obj.cells #[.int .i64 1, .int .i64 0] 41)).alloc (Obj.cells #[.int .i64 a.1.1, .int .i64 a.1.2] 41)).alloc (Obj.cells #[.int .i64 s.1.1, .int .i64 s.1.2] 41)) osy dy)
        case first =>
          cases hg : givenB xs 3 with
          | false =>
            obtain rfl : ((1, 0), 0) = s := by rw [← HS.out]; unfold tnO; rw [hg]; rfl
            clear hg
            go_wp2_with fail
            go_meet
            exact ⟨_, _, rfl, trivial, rfl⟩
          | true =>
            have hlt := given_lt H.out hg
            obtain ⟨R, C, l, b1, off1, n1', cap1, b, off, x, _, rfl, ⟨u0, u1, u2⟩, hn1, hc1, ⟨y0, y1, y2, y3, y4, y5⟩, _, hxr, hbl, hb1, hav, _, _, _⟩ := H.out.first hlt
            have hcap := H.out.cap
            simp only at u0 u1 u2
            obtain rfl : (tnP x, tnF x) = s := by rw [← HS.out]; unfold tnO; rw [hg, if_pos rfl, hav]
            have ht := fun W => toNum_any x W hxr
            clear hg hav
            by_cases hf : tnF x = 0
            · simp only [tnV, hf] at ht
              go_wp2_with (first | (go_at_call 97; (with_reducible refine (ht _).mono ?_); rintro e w' ⟨rfl, hb⟩; obtain ⟨ost, dt, rfl⟩ := hb.more; clear hb))
              go_meet
              exact ⟨_, _, rfl, hf, rfl⟩
            · have hf' : (tnF x != 0) = true := by simpa using hf
              obtain rfl : aloneO (tnF x) = X := by rw [← HX.out]; unfold seqT; rw [if_neg (by simp), if_neg (by simp), if_neg (by simp [ha0]), if_pos hf]
              go_wp2_with (first | (go_at_call 97; (with_reducible refine (ht _).mono ?_); rintro e w' ⟨rfl, hb⟩; obtain ⟨ost, dt, rfl⟩ := hb.more; clear hb) | (go_at_call 32; (with_reducible refine (galone_any _ _).mono ?_); rintro e w' ⟨D, m, cc, rfl, hD, hb⟩; obtain ⟨os5, d5, rfl⟩ := hb.more; clear hb; have hDr := hD.rd))
              exact bodyPost_ret (v := AV (aloneO (tnF x)).R (aloneO (tnF x)).C (.slice D m cc)) (by simp [results, Tryz.results47, go_sem]) rfl ⟨D, m, cc, rfl, ⟨(by (try simp only [more_more] at hDr); (try simp only [drew_more] at hDr); (try simp only [more_drew] at hDr); (try simp only [Array.append_assoc] at hDr); exact Rd.swap hDr (by first | (simp; done) | (simp; omega) | omega) (by first | (simp; done) | (simp; omega) | omega) (by first | (simp; done) | (simp; omega) | omega)), hD.len, hD.cap, hD.small, hD.ok⟩, by with_reducible repeat (first | exact Ext.refl _ | apply Ext.drew | apply Ext.alloc | apply Ext.more_)⟩
        case rest =>
        obtain ⟨osy, dy, rfl, hs0, rfl⟩ := hcut
        clear osx dx
        obtain ⟨⟨am, ae⟩, af⟩ := a
        obtain ⟨⟨sm, se⟩, sf⟩ := s
        simp only at ha0 hs0 har hsr
        subst ha0 hs0
        by_cases q1 : mi < 1
        · obtain rfl : aloneO 9 = X := by rw [← HX.out]; unfold seqT; rw [if_neg (by simp), if_neg (by simp), if_neg (by simp), if_neg (by simp), if_pos (Or.inl q1)]
          go_wp2_with (go_at_call 32; (with_reducible refine (galone_any _ _).mono ?_); rintro e w' ⟨D, m, cc, rfl, hD, hb⟩; obtain ⟨os5, d5, rfl⟩ := hb.more; clear hb; have hDr := hD.rd)
          exact bodyPost_ret (v := AV (aloneO 9).R (aloneO 9).C (.slice D m cc)) (by simp [results, Tryz.results47, go_sem]) rfl ⟨D, m, cc, rfl, ⟨(by (try simp only [more_more] at hDr); (try simp only [drew_more] at hDr); (try simp only [more_drew] at hDr); (try simp only [Array.append_assoc] at hDr); exact Rd.swap hDr (by first | (simp; done) | (simp; omega) | omega) (by first | (simp; done) | (simp; omega) | omega) (by first | (simp; done) | (simp; omega) | omega)), hD.len, hD.cap, hD.small, hD.ok⟩, by with_reducible repeat (first | exact Ext.refl _ | apply Ext.drew | apply Ext.alloc | apply Ext.more_)⟩
        · by_cases q2 : ki < 1
          · obtain rfl : aloneO 9 = X := by rw [← HX.out]; unfold seqT; rw [if_neg (by simp), if_neg (by simp), if_neg (by simp), if_neg (by simp), if_pos (Or.inr q2)]
            go_wp2_with (go_at_call 32; (with_reducible refine (galone_any _ _).mono ?_); rintro e w' ⟨D, m, cc, rfl, hD, hb⟩; obtain ⟨os5, d5, rfl⟩ := hb.more; clear hb; have hDr := hD.rd)
            exact bodyPost_ret (v := AV (aloneO 9).R (aloneO 9).C (.slice D m cc)) (by simp [results, Tryz.results47, go_sem]) rfl ⟨D, m, cc, rfl, ⟨(by (try simp only [more_more] at hDr); (try simp only [drew_more] at hDr); (try simp only [more_drew] at hDr); (try simp only [Array.append_assoc] at hDr); exact Rd.swap hDr (by first | (simp; done) | (simp; omega) | omega) (by first | (simp; done) | (simp; omega) | omega) (by first | (simp; done) | (simp; omega) | omega)), hD.len, hD.cap, hD.small, hD.ok⟩, by with_reducible repeat (first | exact Ext.refl _ | apply Ext.drew | apply Ext.alloc | apply Ext.more_)⟩
          · have hq := quo_lt (r := mi) (c := ki) (by omega)
            by_cases q3 : 4096 < mi * ki
            · obtain rfl : aloneO 5 = X := by rw [← HX.out]; unfold seqT; rw [if_neg (by simp), if_neg (by simp), if_neg (by simp), if_neg (by simp), if_neg (by omega), if_pos q3]
              have q4 : 4096 / ki < mi := hq.2 q3
              go_wp2_with (go_at_call 32; (with_reducible refine (galone_any _ _).mono ?_); rintro e w' ⟨D, m, cc, rfl, hD, hb⟩; obtain ⟨os5, d5, rfl⟩ := hb.more; clear hb; have hDr := hD.rd)
              exact bodyPost_ret (v := AV (aloneO 5).R (aloneO 5).C (.slice D m cc)) (by simp [results, Tryz.results47, go_sem]) rfl ⟨D, m, cc, rfl, ⟨(by (try simp only [more_more] at hDr); (try simp only [drew_more] at hDr); (try simp only [more_drew] at hDr); (try simp only [Array.append_assoc] at hDr); exact Rd.swap hDr (by first | (simp; done) | (simp; omega) | omega) (by first | (simp; done) | (simp; omega) | omega) (by first | (simp; done) | (simp; omega) | omega)), hD.len, hD.cap, hD.small, hD.ok⟩, by with_reducible repeat (first | exact Ext.refl _ | apply Ext.drew | apply Ext.alloc | apply Ext.more_)⟩
            · have q4 : ¬ 4096 / ki < mi := fun e => q3 (hq.1 e)
              clear hq
              obtain ⟨M, rfl⟩ : ∃ M : Nat, mi = M := ⟨mi.toNat, by omega⟩
              obtain ⟨K, rfl⟩ : ∃ K : Nat, ki = K := ⟨ki.toNat, by omega⟩
              have q5 : M * K ≤ 4096 := by rw [← Int.natCast_mul] at q3; omega
              have e1 : IntKind.i64.wrap ((M : Int) * (K : Int)) = ((M * K : Nat) : Int) := by rw [IntKind.wrap_i64, ← Int.natCast_mul]; omega
              have q6 : 1 ≤ M * K := Nat.mul_pos (by omega) (by omega)
              have hXe : seqT ((M : Int), 0) ((K : Int), 0) ((am, ae), 0) ((sm, se), 0) = match seqS (am, ae) (sm, se) (M * K - 1) with
                | none => aloneO 5
                | some (l, _) => ⟨M, K, l⟩ := by
                unfold seqT
                rw [if_neg (by simp), if_neg (by simp), if_neg (by simp), if_neg (by simp), if_neg (by omega), if_neg q3]
                rfl
              have HE := Lib.hid (hXe.symm.trans HX.out)
              generalize hT : M * K = T at *
              clear hXe HX q3 hT
              go_wp2_with (go_at_call 83; (with_reducible refine (of_any _ _ _).mono ?_); rintro e w' ⟨rfl, hb⟩; obtain ⟨oso, do_, rfl⟩ := hb.more; clear hb)
              go_loopw [10] (fun v wr => ∃ (k : Nat) (L : List Val) (p : Int × Int) (os : Array Obj) (d : Nat), k + 1 ≤ T ∧ wr = more ((((more (w.alloc (Obj.cells #[.int .i64 0, .int .i64 0, .slice none 0 0] 31)) (osa ++ (osb ++ osc)) dc).alloc (Obj.cells #[.int .i64 1, .int .i64 0] 41)).alloc (Obj.cells #[.int .i64 p.1, .int .i64 p.2] 41)).alloc (Obj.cells #[.int .i64 sm, .int .i64 se] 41)) os d ∧ Hid (seqS (am, ae) (sm, se) k = some (L, p)) ∧ Hid (wr.ownsRow (w.heap.size + 1 + (osa.size + (osb.size + osc.size)) + 1 + 1 + 1) 43 6 v (k + 1) (vcells L))) (fun v _ => T - slen v)
              case atStart => exact ⟨0, [⟨1, am, ae, ⟨#[]⟩, false, 0⟩], (am, ae), _, _, q6, more_alloc _ _ _ _, rfl, new_own6 ⟨1, am, ae, ⟨#[]⟩, false, 0⟩ rfl (by simp) (by omega)⟩
              case round =>
                obtain ⟨k, L, p, os, d, hk, rfl, HQ, HO⟩ := hrel
                obtain ⟨G, cp, rfl⟩ := own_slice HO.out
                obtain ⟨i1, i2, i3⟩ := seqS_some har hsr HQ.out
                obtain ⟨pm, pe⟩ := p
                simp only at i2
                by_cases hlt : k + 1 < T
                · have hlt' : ((k : Int) + 1) < (T : Int) := by omega
                  have had := fun W (hT : Tab W) => add_any pm pe sm se W hT (rt_i64 i2) (rt_i64 hsr)
                  cases hs : addS pm pe sm se with
                  | none =>
                    rw [hs] at had
                    simp only [rnV, rm, re, Option.getD_none, Option.isSome_none] at had
                    obtain rfl : aloneO 5 = X := by
                      have h1 : seqS (am, ae) (sm, se) (k + 1) = none := by unfold seqS; rw [HQ.out]; simp only; rw [hs]
                      have h2 := seqS_none h1 (T - 1 - (k + 1))
                      rw [show k + 1 + (T - 1 - (k + 1)) = T - 1 by omega] at h2
                      rw [← HE.out, h2]
                    go_wp2_with (first | (go_at_call 98; (with_reducible refine (had _ (HT.out.ext (by with_reducible repeat (first | exact Ext.refl _ | apply Ext.drew | apply Ext.alloc | apply Ext.more_)))).mono ?_); rintro e w' ⟨rfl, hb⟩; obtain ⟨ost, dt, rfl⟩ := hb.more; clear hb) | (go_at_call 32; (with_reducible refine (galone_any _ _).mono ?_); rintro e w' ⟨D, m, cc, rfl, hD, hb⟩; obtain ⟨os5, d5, rfl⟩ := hb.more; clear hb; have hDr := hD.rd))
                    exact bodyPost_ret (v := AV (aloneO 5).R (aloneO 5).C (.slice D m cc)) (by simp [results, Tryz.results47, go_sem]) rfl ⟨D, m, cc, rfl, ⟨(by (try simp only [more_more] at hDr); (try simp only [drew_more] at hDr); (try simp only [more_drew] at hDr); (try simp only [Array.append_assoc] at hDr); exact Rd.swap hDr (by first | (simp; done) | (simp; omega) | omega) (by first | (simp; done) | (simp; omega) | omega) (by first | (simp; done) | (simp; omega) | omega)), hD.len, hD.cap, hD.small, hD.ok⟩, by with_reducible repeat (first | exact Ext.refl _ | apply Ext.drew | apply Ext.alloc | apply Ext.more_)⟩
                  | some q =>
                    obtain ⟨qm, qe⟩ := q
                    have hq := addS_rt hs
                    rw [hs] at had
                    simp only [rnV, rm, re, Option.getD_some, Option.isSome_some] at had
                    have HQ2 : Hid (seqS (am, ae) (sm, se) (k + 1) = some (L ++ [⟨1, qm, qe, ⟨#[]⟩, false, 0⟩], (qm, qe))) := by
                      show _ = _
                      conv => lhs; unfold seqS
                      rw [HQ.out]; simp only; rw [hs]
                    clear hs HE
                    obtain ⟨j0, hi0, hz0, hz1, hz2⟩ := info_parts info_val
                    go_wp2_with (first | (go_at_call 98; (with_reducible refine (had _ (HT.out.ext (by with_reducible repeat (first | exact Ext.refl _ | apply Ext.drew | apply Ext.alloc | apply Ext.more_)))).mono ?_); rintro e w' ⟨rfl, hb⟩; obtain ⟨ost, dt, rfl⟩ := hb.more; clear hb) | (go_at_call 83; (with_reducible refine (of_any _ _ _).mono ?_); rintro e w' ⟨rfl, hb⟩; obtain ⟨osv, dv, rfl⟩ := hb.more; clear hb) | (at_builtin; refine wpList_append_own _ rfl _ _ _ rfl (w.heap.size + 1 + (osa.size + (osb.size + osc.size)) + 1 + 1 + 1) 43 j0 (VV 0 0 0 ⟨#[]⟩ false 0) 6 56 Tryz.underlying29 hi0 hz0 hz1 hz2 rfl (by decide) (.slice G (k + 1) cp) (k + 1) (vcells L) rfl (own_ext (own_two (Obj.cells #[.int .i64 qm, .int .i64 qe] 41) (Obj.cells #[.int .i64 sm, .int .i64 se] 41) HO.out (by simp)) (by repeat (first | (with_reducible (first | exact Ext.refl _ | exact ext_app _ _ _ _ _)) | ((with_reducible refine ext_suffix ⟨_, ?_⟩); (try simp only [Array.append_assoc]); rfl) | (with_reducible (first | apply Ext.drew | apply Ext.alloc | apply Ext.more_))))) _ 1 1 (Val.cells ⟨1, qm, qe, ⟨#[]⟩, false, 0⟩) rfl rfl (new_cells_at _ _ _ (by simp) rfl _) (fun u hu => vcells_one (l := [⟨1, qm, qe, ⟨#[]⟩, false, 0⟩]) u (by simpa [vcells] using hu)) (by simp only [maxLen]; omega) (by omega) (by simp; omega) ?_; intro v4 w4 ho4 hg4 _))
                    have hx0 : Ext ((((more (w.alloc (Obj.cells #[.int .i64 0, .int .i64 0, .slice none 0 0] 31)) (osa ++ (osb ++ osc)) dc).alloc (Obj.cells #[.int .i64 1, .int .i64 0] 41)).alloc (Obj.cells #[.int .i64 qm, .int .i64 qe] 41)).alloc (Obj.cells #[.int .i64 sm, .int .i64 se] 41)) w4 := ext_grownN (n := k + 1) (by repeat (first | (with_reducible (first | exact Ext.refl _ | exact ext_app _ _ _ _ _)) | ((with_reducible refine ext_suffix ⟨_, ?_⟩); (try simp only [Array.append_assoc]); rfl) | (with_reducible (first | apply Ext.drew | apply Ext.alloc | apply Ext.more_)))) (by simpa using own_ext (own_two (Obj.cells #[.int .i64 qm, .int .i64 qe] 41) (Obj.cells #[.int .i64 sm, .int .i64 se] 41) HO.out (by simp)) (by repeat (first | (with_reducible (first | exact Ext.refl _ | exact ext_app _ _ _ _ _)) | ((with_reducible refine ext_suffix ⟨_, ?_⟩); (try simp only [Array.append_assoc]); rfl) | (with_reducible (first | apply Ext.drew | apply Ext.alloc | apply Ext.more_))))) hg4
                    obtain ⟨os9, d9, he9⟩ := hx0.more
                    refine ⟨⟨k + 1, _, (qm, qe), os9, d9, by omega, he9, HQ2, ?_⟩, ?_⟩
                    · show World.ownsRow _ _ _ _ _ _ _
                      rw [vcells_append]; simpa [vcells] using ho4
                    · obtain ⟨G4, c4, rfl⟩ := own_slice ho4
                      simp [slen]; omega
                · obtain rfl : k + 1 = T := by omega
                  obtain rfl : (⟨M, K, L⟩ : NA) = X := by rw [← HE.out, show k + 1 - 1 = k by omega, HQ.out]
                  obtain ⟨D, cc, hv, hD⟩ := own_arrN (n := k + 1) (l := L) (v := .slice G (k + 1) cp) (w := ((((more (w.alloc (Obj.cells #[.int .i64 0, .int .i64 0, .slice none 0 0] 31)) (osa ++ (osb ++ osc)) dc).alloc (Obj.cells #[.int .i64 1, .int .i64 0] 41)).alloc (Obj.cells #[.int .i64 pm, .int .i64 pe] 41)).alloc (Obj.cells #[.int .i64 sm, .int .i64 se] 41))) (X := ((((more (w.alloc (Obj.cells #[.int .i64 0, .int .i64 0, .slice none 0 0] 31)) (osa ++ (osb ++ osc)) dc).alloc (Obj.cells #[.int .i64 1, .int .i64 0] 41)).alloc (Obj.cells #[.int .i64 pm, .int .i64 pe] 41)).alloc (Obj.cells #[.int .i64 sm, .int .i64 se] 41))) (by simpa using HO.out) (Nat.le_refl _) (by omega) (fun x hx => (i3 x hx).ok)
                  simp only [Value.slice.injEq, true_and] at hv
                  obtain ⟨rfl, rfl⟩ := hv
                  clear HE HQ HO hk
                  go_wp2_with (go_at_call 51; (with_reducible refine (made_any _ _ _ _ _ _).mono ?_); rintro e w' ⟨rfl, hb⟩; have hDr := Rd.ext hD.rd hb; obtain ⟨os6, d6, rfl⟩ := hb.more; clear hb)
                  exact bodyPost_ret (v := AV M K (.slice G (k + 1) cp)) (by simp [results, Tryz.results47, go_sem]) rfl ⟨G, k + 1, cp, rfl, ⟨(by (try simp only [more_more] at hDr); (try simp only [drew_more] at hDr); (try simp only [more_drew] at hDr); (try simp only [Array.append_assoc] at hDr); exact Rd.swap hDr (by first | (simp; done) | (simp; omega) | omega) (by first | (simp; done) | (simp; omega) | omega) (by first | (simp; done) | (simp; omega) | omega)), hD.len, hD.cap, hD.small, hD.ok⟩, by with_reducible repeat (first | exact Ext.refl _ | apply Ext.drew | apply Ext.alloc | apply Ext.more_)⟩
      · go_upto_if 38 with (go_at_call 89; (with_reducible refine (v2 _ (H.out.ext (by with_reducible repeat (first | exact Ext.refl _ | apply Ext.drew | apply Ext.alloc | apply Ext.more_)))).mono ?_); rintro e w' ⟨rfl, hb⟩; obtain ⟨osg, dg, rfl⟩ := hb.more; clear hb)
        go_cut [4] (fun s4 wx => ∃ osx dx, s4 = .int .i64 0 ∧ a.2 = 0 ∧ wx = more ((((more (w.alloc (Obj.cells #[.int .i64 0, .int .i64 0, .slice none 0 0] 31)) (osa ++ (osb ++ osc)) dc).alloc (Obj.cells #[.int .i64 1, .int .i64 0] 41)).alloc (Obj.cells #[.int .i64 1, .int .i64 0] 41)).alloc (Obj.cells #[.int .i64 a.1.1, .int .i64 a.1.2] 41)) osx dx)
        case first =>
          cases hg : givenB xs 2 with
          | false =>
            obtain rfl : ((1, 0), 0) = a := by rw [← HA.out]; unfold tnO; rw [hg]; rfl
            clear hg
            go_wp2_with fail
            go_meet
            exact ⟨_, _, rfl, trivial, rfl⟩
          | true =>
            have hlt := given_lt H.out hg
            obtain ⟨R, C, l, b1, off1, n1', cap1, b, off, x, _, rfl, ⟨u0, u1, u2⟩, hn1, hc1, ⟨y0, y1, y2, y3, y4, y5⟩, _, hxr, hbl, hb1, hav, _, _, _⟩ := H.out.first hlt
            have hcap := H.out.cap
            simp only at u0 u1 u2
            obtain rfl : (tnP x, tnF x) = a := by rw [← HA.out]; unfold tnO; rw [hg, if_pos rfl, hav]
            have ht := fun W => toNum_any x W hxr
            clear hg hav
            by_cases hf : tnF x = 0
            · simp only [tnV, hf] at ht
              go_wp2_with (first | (go_at_call 97; (with_reducible refine (ht _).mono ?_); rintro e w' ⟨rfl, hb⟩; obtain ⟨ost, dt, rfl⟩ := hb.more; clear hb))
              go_meet
              exact ⟨_, _, rfl, hf, rfl⟩
            · have hf' : (tnF x != 0) = true := by simpa using hf
              obtain rfl : aloneO (tnF x) = X := by rw [← HX.out]; unfold seqT; rw [if_neg (by simp), if_neg (by simp), if_pos hf]
              go_wp2_with (first | (go_at_call 97; (with_reducible refine (ht _).mono ?_); rintro e w' ⟨rfl, hb⟩; obtain ⟨ost, dt, rfl⟩ := hb.more; clear hb) | (go_at_call 32; (with_reducible refine (galone_any _ _).mono ?_); rintro e w' ⟨D, m, cc, rfl, hD, hb⟩; obtain ⟨os5, d5, rfl⟩ := hb.more; clear hb; have hDr := hD.rd))
              exact bodyPost_ret (v := AV (aloneO (tnF x)).R (aloneO (tnF x)).C (.slice D m cc)) (by simp [results, Tryz.results47, go_sem]) rfl ⟨D, m, cc, rfl, ⟨(by (try simp only [more_more] at hDr); (try simp only [drew_more] at hDr); (try simp only [more_drew] at hDr); (try simp only [Array.append_assoc] at hDr); exact Rd.swap hDr (by first | (simp; done) | (simp; omega) | omega) (by first | (simp; done) | (simp; omega) | omega) (by first | (simp; done) | (simp; omega) | omega)), hD.len, hD.cap, hD.small, hD.ok⟩, by with_reducible repeat (first | exact Ext.refl _ | apply Ext.drew | apply Ext.alloc | apply Ext.more_)⟩
        case rest =>
        obtain ⟨osx, dx, rfl, ha0, rfl⟩ := hcut
        clear osg dg
        go_upto_if 54 with (go_at_call 89; (with_reducible refine (v3 _ (H.out.ext (by with_reducible repeat (first | exact Ext.refl _ | apply Ext.drew | apply Ext.alloc | apply Ext.more_)))).mono ?_); rintro e w' ⟨rfl, hb⟩; obtain ⟨osg, dg, rfl⟩ := hb.more; clear hb)
        go_cut [4] (fun s4 wx => ∃ osy dy, s4 = .int .i64 0 ∧ s.2 = 0 ∧ wx = more ((((more (w.alloc (Obj.cells #[.int .i64 0, .int .i64 0, .slice none 0 0] 31)) (osa ++ (osb ++ osc)) dc).alloc (Obj.cells #[.int .i64 1, .int .i64 0] 41)).alloc (Obj.cells #[.int .i64 s.1.1, .int .i64 s.1.2] 41)).alloc (Obj.cells #[.int .i64 a.1.1, .int .i64 a.1.2] 41)) osy dy)
        case first =>
          cases hg : givenB xs 3 with
          | false =>
            obtain rfl : ((1, 0), 0) = s := by rw [← HS.out]; unfold tnO; rw [hg]; rfl
            clear hg
            go_wp2_with fail
            go_meet
            exact ⟨_, _, rfl, trivial, rfl⟩
          | true =>
            have hlt := given_lt H.out hg
            obtain ⟨R, C, l, b1, off1, n1', cap1, b, off, x, _, rfl, ⟨u0, u1, u2⟩, hn1, hc1, ⟨y0, y1, y2, y3, y4, y5⟩, _, hxr, hbl, hb1, hav, _, _, _⟩ := H.out.first hlt
            have hcap := H.out.cap
            simp only at u0 u1 u2
            obtain rfl : (tnP x, tnF x) = s := by rw [← HS.out]; unfold tnO; rw [hg, if_pos rfl, hav]
            have ht := fun W => toNum_any x W hxr
            clear hg hav
            by_cases hf : tnF x = 0
            · simp only [tnV, hf] at ht
              go_wp2_with (first | (go_at_call 97; (with_reducible refine (ht _).mono ?_); rintro e w' ⟨rfl, hb⟩; obtain ⟨ost, dt, rfl⟩ := hb.more; clear hb))
              go_meet
              exact ⟨_, _, rfl, hf, rfl⟩
            · have hf' : (tnF x != 0) = true := by simpa using hf
              obtain rfl : aloneO (tnF x) = X := by rw [← HX.out]; unfold seqT; rw [if_neg (by simp), if_neg (by simp), if_neg (by simp [ha0]), if_pos hf]
              go_wp2_with (first | (go_at_call 97; (with_reducible refine (ht _).mono ?_); rintro e w' ⟨rfl, hb⟩; obtain ⟨ost, dt, rfl⟩ := hb.more; clear hb) | (go_at_call 32; (with_reducible refine (galone_any _ _).mono ?_); rintro e w' ⟨D, m, cc, rfl, hD, hb⟩; obtain ⟨os5, d5, rfl⟩ := hb.more; clear hb; have hDr := hD.rd))
              exact bodyPost_ret (v := AV (aloneO (tnF x)).R (aloneO (tnF x)).C (.slice D m cc)) (by simp [results, Tryz.results47, go_sem]) rfl ⟨D, m, cc, rfl, ⟨(by (try simp only [more_more] at hDr); (try simp only [drew_more] at hDr); (try simp only [more_drew] at hDr); (try simp only [Array.append_assoc] at hDr); exact Rd.swap hDr (by first | (simp; done) | (simp; omega) | omega) (by first | (simp; done) | (simp; omega) | omega) (by first | (simp; done) | (simp; omega) | omega)), hD.len, hD.cap, hD.small, hD.ok⟩, by with_reducible repeat (first | exact Ext.refl _ | apply Ext.drew | apply Ext.alloc | apply Ext.more_)⟩
        case rest =>
        obtain ⟨osy, dy, rfl, hs0, rfl⟩ := hcut
        clear osx dx
        obtain ⟨⟨am, ae⟩, af⟩ := a
        obtain ⟨⟨sm, se⟩, sf⟩ := s
        simp only at ha0 hs0 har hsr
        subst ha0 hs0
        by_cases q1 : mi < 1
        · obtain rfl : aloneO 9 = X := by rw [← HX.out]; unfold seqT; rw [if_neg (by simp), if_neg (by simp), if_neg (by simp), if_neg (by simp), if_pos (Or.inl q1)]
          go_wp2_with (go_at_call 32; (with_reducible refine (galone_any _ _).mono ?_); rintro e w' ⟨D, m, cc, rfl, hD, hb⟩; obtain ⟨os5, d5, rfl⟩ := hb.more; clear hb; have hDr := hD.rd)
          exact bodyPost_ret (v := AV (aloneO 9).R (aloneO 9).C (.slice D m cc)) (by simp [results, Tryz.results47, go_sem]) rfl ⟨D, m, cc, rfl, ⟨(by (try simp only [more_more] at hDr); (try simp only [drew_more] at hDr); (try simp only [more_drew] at hDr); (try simp only [Array.append_assoc] at hDr); exact Rd.swap hDr (by first | (simp; done) | (simp; omega) | omega) (by first | (simp; done) | (simp; omega) | omega) (by first | (simp; done) | (simp; omega) | omega)), hD.len, hD.cap, hD.small, hD.ok⟩, by with_reducible repeat (first | exact Ext.refl _ | apply Ext.drew | apply Ext.alloc | apply Ext.more_)⟩
        · by_cases q2 : ki < 1
          · obtain rfl : aloneO 9 = X := by rw [← HX.out]; unfold seqT; rw [if_neg (by simp), if_neg (by simp), if_neg (by simp), if_neg (by simp), if_pos (Or.inr q2)]
            go_wp2_with (go_at_call 32; (with_reducible refine (galone_any _ _).mono ?_); rintro e w' ⟨D, m, cc, rfl, hD, hb⟩; obtain ⟨os5, d5, rfl⟩ := hb.more; clear hb; have hDr := hD.rd)
            exact bodyPost_ret (v := AV (aloneO 9).R (aloneO 9).C (.slice D m cc)) (by simp [results, Tryz.results47, go_sem]) rfl ⟨D, m, cc, rfl, ⟨(by (try simp only [more_more] at hDr); (try simp only [drew_more] at hDr); (try simp only [more_drew] at hDr); (try simp only [Array.append_assoc] at hDr); exact Rd.swap hDr (by first | (simp; done) | (simp; omega) | omega) (by first | (simp; done) | (simp; omega) | omega) (by first | (simp; done) | (simp; omega) | omega)), hD.len, hD.cap, hD.small, hD.ok⟩, by with_reducible repeat (first | exact Ext.refl _ | apply Ext.drew | apply Ext.alloc | apply Ext.more_)⟩
          · have hq := quo_lt (r := mi) (c := ki) (by omega)
            by_cases q3 : 4096 < mi * ki
            · obtain rfl : aloneO 5 = X := by rw [← HX.out]; unfold seqT; rw [if_neg (by simp), if_neg (by simp), if_neg (by simp), if_neg (by simp), if_neg (by omega), if_pos q3]
              have q4 : 4096 / ki < mi := hq.2 q3
              go_wp2_with (go_at_call 32; (with_reducible refine (galone_any _ _).mono ?_); rintro e w' ⟨D, m, cc, rfl, hD, hb⟩; obtain ⟨os5, d5, rfl⟩ := hb.more; clear hb; have hDr := hD.rd)
              exact bodyPost_ret (v := AV (aloneO 5).R (aloneO 5).C (.slice D m cc)) (by simp [results, Tryz.results47, go_sem]) rfl ⟨D, m, cc, rfl, ⟨(by (try simp only [more_more] at hDr); (try simp only [drew_more] at hDr); (try simp only [more_drew] at hDr); (try simp only [Array.append_assoc] at hDr); exact Rd.swap hDr (by first | (simp; done) | (simp; omega) | omega) (by first | (simp; done) | (simp; omega) | omega) (by first | (simp; done) | (simp; omega) | omega)), hD.len, hD.cap, hD.small, hD.ok⟩, by with_reducible repeat (first | exact Ext.refl _ | apply Ext.drew | apply Ext.alloc | apply Ext.more_)⟩
            · have q4 : ¬ 4096 / ki < mi := fun e => q3 (hq.1 e)
              clear hq
              obtain ⟨M, rfl⟩ : ∃ M : Nat, mi = M := ⟨mi.toNat, by omega⟩
              obtain ⟨K, rfl⟩ : ∃ K : Nat, ki = K := ⟨ki.toNat, by omega⟩
              have q5 : M * K ≤ 4096 := by rw [← Int.natCast_mul] at q3; omega
              have e1 : IntKind.i64.wrap ((M : Int) * (K : Int)) = ((M * K : Nat) : Int) := by rw [IntKind.wrap_i64, ← Int.natCast_mul]; omega
              have q6 : 1 ≤ M * K := Nat.mul_pos (by omega) (by omega)
              have hXe : seqT ((M : Int), 0) ((K : Int), 0) ((am, ae), 0) ((sm, se), 0) = match seqS (am, ae) (sm, se) (M * K - 1) with
                | none => aloneO 5
                | some (l, _) => ⟨M, K, l⟩ := by
                unfold seqT
                rw [if_neg (by simp), if_neg (by simp), if_neg (by simp), if_neg (by simp), if_neg (by omega), if_neg q3]
                rfl
              have HE := Lib.hid (hXe.symm.trans HX.out)
              generalize hT : M * K = T at *
              clear hXe HX q3 hT
              go_wp2_with (go_at_call 83; (with_reducible refine (of_any _ _ _).mono ?_); rintro e w' ⟨rfl, hb⟩; obtain ⟨oso, do_, rfl⟩ := hb.more; clear hb)
              go_loopw [10] (fun v wr => ∃ (k : Nat) (L : List Val) (p : Int × Int) (os : Array Obj) (d : Nat), k + 1 ≤ T ∧ wr = more ((((more (w.alloc (Obj.cells #[.int .i64 0, .int .i64 0, .slice none 0 0] 31)) (osa ++ (osb ++ osc)) dc).alloc (Obj.cells #[.int .i64 1, .int .i64 0] 41)).alloc (Obj.cells #[.int .i64 sm, .int .i64 se] 41)).alloc (Obj.cells #[.int .i64 p.1, .int .i64 p.2] 41)) os d ∧ Hid (seqS (am, ae) (sm, se) k = some (L, p)) ∧ Hid (wr.ownsRow (w.heap.size + 1 + (osa.size + (osb.size + osc.size)) + 1 + 1 + 1) 43 6 v (k + 1) (vcells L))) (fun v _ => T - slen v)
              case atStart => exact ⟨0, [⟨1, am, ae, ⟨#[]⟩, false, 0⟩], (am, ae), _, _, q6, more_alloc _ _ _ _, rfl, new_own6 ⟨1, am, ae, ⟨#[]⟩, false, 0⟩ rfl (by simp) (by omega)⟩
              case round =>
                obtain ⟨k, L, p, os, d, hk, rfl, HQ, HO⟩ := hrel
                obtain ⟨G, cp, rfl⟩ := own_slice HO.out
                obtain ⟨i1, i2, i3⟩ := seqS_some har hsr HQ.out
                obtain ⟨pm, pe⟩ := p
                simp only at i2
                by_cases hlt : k + 1 < T
                · have hlt' : ((k : Int) + 1) < (T : Int) := by omega
                  have had := fun W (hT : Tab W) => add_any pm pe sm se W hT (rt_i64 i2) (rt_i64 hsr)
                  cases hs : addS pm pe sm se with
                  | none =>
                    rw [hs] at had
                    simp only [rnV, rm, re, Option.getD_none, Option.isSome_none] at had
                    obtain rfl : aloneO 5 = X := by
                      have h1 : seqS (am, ae) (sm, se) (k + 1) = none := by unfold seqS; rw [HQ.out]; simp only; rw [hs]
                      have h2 := seqS_none h1 (T - 1 - (k + 1))
                      rw [show k + 1 + (T - 1 - (k + 1)) = T - 1 by omega] at h2
                      rw [← HE.out, h2]
                    go_wp2_with (first | (go_at_call 98; (with_reducible refine (had _ (HT.out.ext (by with_reducible repeat (first | exact Ext.refl _ | apply Ext.drew | apply Ext.alloc | apply Ext.more_)))).mono ?_); rintro e w' ⟨rfl, hb⟩; obtain ⟨ost, dt, rfl⟩ := hb.more; clear hb) | (go_at_call 32; (with_reducible refine (galone_any _ _).mono ?_); rintro e w' ⟨D, m, cc, rfl, hD, hb⟩; obtain ⟨os5, d5, rfl⟩ := hb.more; clear hb; have hDr := hD.rd))
                    exact bodyPost_ret (v := AV (aloneO 5).R (aloneO 5).C (.slice D m cc)) (by simp [results, Tryz.results47, go_sem]) rfl ⟨D, m, cc, rfl, ⟨(by (try simp only [more_more] at hDr); (try simp only [drew_more] at hDr); (try simp only [more_drew] at hDr); (try simp only [Array.append_assoc] at hDr); exact Rd.swap hDr (by first | (simp; done) | (simp; omega) | omega) (by first | (simp; done) | (simp; omega) | omega) (by first | (simp; done) | (simp; omega) | omega)), hD.len, hD.cap, hD.small, hD.ok⟩, by with_reducible repeat (first | exact Ext.refl _ | apply Ext.drew | apply Ext.alloc | apply Ext.more_)⟩
                  | some q =>
                    obtain ⟨qm, qe⟩ := q
                    have hq := addS_rt hs
                    rw [hs] at had
                    simp only [rnV, rm, re, Option.getD_some, Option.isSome_some] at had
                    have HQ2 : Hid (seqS (am, ae) (sm, se) (k + 1) = some (L ++ [⟨1, qm, qe, ⟨#[]⟩, false, 0⟩], (qm, qe))) := by
                      show _ = _
                      conv => lhs; unfold seqS
                      rw [HQ.out]; simp only; rw [hs]
                    clear hs HE
                    obtain ⟨j0, hi0, hz0, hz1, hz2⟩ := info_parts info_val
                    go_wp2_with (first | (go_at_call 98; (with_reducible refine (had _ (HT.out.ext (by with_reducible repeat (first | exact Ext.refl _ | apply Ext.drew | apply Ext.alloc | apply Ext.more_)))).mono ?_); rintro e w' ⟨rfl, hb⟩; obtain ⟨ost, dt, rfl⟩ := hb.more; clear hb) | (go_at_call 83; (with_reducible refine (of_any _ _ _).mono ?_); rintro e w' ⟨rfl, hb⟩; obtain ⟨osv, dv, rfl⟩ := hb.more; clear hb) | (at_builtin; refine wpList_append_own _ rfl _ _ _ rfl (w.heap.size + 1 + (osa.size + (osb.size + osc.size)) + 1 + 1 + 1) 43 j0 (VV 0 0 0 ⟨#[]⟩ false 0) 6 56 Tryz.underlying29 hi0 hz0 hz1 hz2 rfl (by decide) (.slice G (k + 1) cp) (k + 1) (vcells L) rfl (own_ext (own_two (Obj.cells #[.int .i64 sm, .int .i64 se] 41) (Obj.cells #[.int .i64 qm, .int .i64 qe] 41) HO.out (by simp)) (by repeat (first | (with_reducible (first | exact Ext.refl _ | exact ext_app _ _ _ _ _)) | ((with_reducible refine ext_suffix ⟨_, ?_⟩); (try simp only [Array.append_assoc]); rfl) | (with_reducible (first | apply Ext.drew | apply Ext.alloc | apply Ext.more_))))) _ 1 1 (Val.cells ⟨1, qm, qe, ⟨#[]⟩, false, 0⟩) rfl rfl (new_cells_at _ _ _ (by simp) rfl _) (fun u hu => vcells_one (l := [⟨1, qm, qe, ⟨#[]⟩, false, 0⟩]) u (by simpa [vcells] using hu)) (by simp only [maxLen]; omega) (by omega) (by simp; omega) ?_; intro v4 w4 ho4 hg4 _))
                    have hx0 : Ext ((((more (w.alloc (Obj.cells #[.int .i64 0, .int .i64 0, .slice none 0 0] 31)) (osa ++ (osb ++ osc)) dc).alloc (Obj.cells #[.int .i64 1, .int .i64 0] 41)).alloc (Obj.cells #[.int .i64 sm, .int .i64 se] 41)).alloc (Obj.cells #[.int .i64 qm, .int .i64 qe] 41)) w4 := ext_grownN (n := k + 1) (by repeat (first | (with_reducible (first | exact Ext.refl _ | exact ext_app _ _ _ _ _)) | ((with_reducible refine ext_suffix ⟨_, ?_⟩); (try simp only [Array.append_assoc]); rfl) | (with_reducible (first | apply Ext.drew | apply Ext.alloc | apply Ext.more_)))) (by simpa using own_ext (own_two (Obj.cells #[.int .i64 sm, .int .i64 se] 41) (Obj.cells #[.int .i64 qm, .int .i64 qe] 41) HO.out (by simp)) (by repeat (first | (with_reducible (first | exact Ext.refl _ | exact ext_app _ _ _ _ _)) | ((with_reducible refine ext_suffix ⟨_, ?_⟩); (try simp only [Array.append_assoc]); rfl) | (with_reducible (first | apply Ext.drew | apply Ext.alloc | apply Ext.more_))))) hg4
                    obtain ⟨os9, d9, he9⟩ := hx0.more
                    refine ⟨⟨k + 1, _, (qm, qe), os9, d9, by omega, he9, HQ2, ?_⟩, ?_⟩
                    · show World.ownsRow _ _ _ _ _ _ _
                      rw [vcells_append]; simpa [vcells] using ho4
                    · obtain ⟨G4, c4, rfl⟩ := own_slice ho4
                      simp [slen]; omega
                · obtain rfl : k + 1 = T := by omega
                  obtain rfl : (⟨M, K, L⟩ : NA) = X := by rw [← HE.out, show k + 1 - 1 = k by omega, HQ.out]
                  obtain ⟨D, cc, hv, hD⟩ := own_arrN (n := k + 1) (l := L) (v := .slice G (k + 1) cp) (w := ((((more (w.alloc (Obj.cells #[.int .i64 0, .int .i64 0, .slice none 0 0] 31)) (osa ++ (osb ++ osc)) dc).alloc (Obj.cells #[.int .i64 1, .int .i64 0] 41)).alloc (Obj.cells #[.int .i64 sm, .int .i64 se] 41)).alloc (Obj.cells #[.int .i64 pm, .int .i64 pe] 41))) (X := ((((more (w.alloc (Obj.cells #[.int .i64 0, .int .i64 0, .slice none 0 0] 31)) (osa ++ (osb ++ osc)) dc).alloc (Obj.cells #[.int .i64 1, .int .i64 0] 41)).alloc (Obj.cells #[.int .i64 sm, .int .i64 se] 41)).alloc (Obj.cells #[.int .i64 pm, .int .i64 pe] 41))) (by simpa using HO.out) (Nat.le_refl _) (by omega) (fun x hx => (i3 x hx).ok)
                  simp only [Value.slice.injEq, true_and] at hv
                  obtain ⟨rfl, rfl⟩ := hv
                  clear HE HQ HO hk
                  go_wp2_with (go_at_call 51; (with_reducible refine (made_any _ _ _ _ _ _).mono ?_); rintro e w' ⟨rfl, hb⟩; have hDr := Rd.ext hD.rd hb; obtain ⟨os6, d6, rfl⟩ := hb.more; clear hb)
                  exact bodyPost_ret (v := AV M K (.slice G (k + 1) cp)) (by simp [results, Tryz.results47, go_sem]) rfl ⟨G, k + 1, cp, rfl, ⟨(by (try simp only [more_more] at hDr); (try simp only [drew_more] at hDr); (try simp only [more_drew] at hDr); (try simp only [Array.append_assoc] at hDr); exact Rd.swap hDr (by first | (simp; done) | (simp; omega) | omega) (by first | (simp; done) | (simp; omega) | omega) (by first | (simp; done) | (simp; omega) | omega)), hD.len, hD.cap, hD.small, hD.ok⟩, by with_reducible repeat (first | exact Ext.refl _ | apply Ext.drew | apply Ext.alloc | apply Ext.more_)⟩
    · have hX : seqT (mi, 0) (ki, kf) (tnO xs 2) (tnO xs 3) = aloneO kf := by unfold seqT; rw [if_neg (by simp), if_pos hkf]
      rw [hX]
      have hf' : (kf != 0) = true := by simpa using hkf
      clear hX hkf
      go_enter Tryz.func47, Tryz.ntmps47
      go_wp2_with (first | (go_at_call 84; (with_reducible refine (n0 _ (H.out.ext (by with_reducible repeat (first | exact Ext.refl _ | apply Ext.drew | apply Ext.alloc | apply Ext.more_)))).mono ?_); rintro e w' ⟨rfl, hb⟩; obtain ⟨osa, da, rfl⟩ := hb.more; clear hb) | (go_at_call 84; (with_reducible refine (n1 _ (H.out.ext (by with_reducible repeat (first | exact Ext.refl _ | apply Ext.drew | apply Ext.alloc | apply Ext.more_)))).mono ?_); rintro e w' ⟨rfl, hb⟩; obtain ⟨osb, db, rfl⟩ := hb.more; clear hb) | (go_at_call 82; (with_reducible refine (make_one _ (HT.out.ext (by with_reducible repeat (first | exact Ext.refl _ | apply Ext.drew | apply Ext.alloc | apply Ext.more_)))).mono ?_); rintro e w' ⟨rfl, hb⟩; obtain ⟨osc, dc, rfl⟩ := hb.more; clear hb) | (go_at_call 32; (with_reducible refine (galone_any _ _).mono ?_); rintro e w' ⟨D, m, cc, rfl, hD, hb⟩; obtain ⟨os5, d5, rfl⟩ := hb.more; clear hb; have hDr := hD.rd))
      exact bodyPost_ret (v := AV (aloneO kf).R (aloneO kf).C (.slice D m cc)) (by simp [results, Tryz.results47, go_sem]) rfl ⟨D, m, cc, rfl, ⟨(by (try simp only [more_more] at hDr); (try simp only [drew_more] at hDr); (try simp only [more_drew] at hDr); (try simp only [Array.append_assoc] at hDr); exact Rd.swap hDr (by first | (simp; done) | (simp; omega) | omega) (by first | (simp; done) | (simp; omega) | omega) (by first | (simp; done) | (simp; omega) | omega)), hD.len, hD.cap, hD.small, hD.ok⟩, by with_reducible repeat (first | exact Ext.refl _ | apply Ext.drew | apply Ext.alloc | apply Ext.more_)⟩
  · have hX : seqT (mi, mf) (ki, kf) (tnO xs 2) (tnO xs 3) = aloneO mf := by unfold seqT; rw [if_pos hmf]
    rw [hX]
    have hf' : (mf != 0) = true := by simpa using hmf
    clear hX hmf
    go_enter Tryz.func47, Tryz.ntmps47
    go_wp2_with (first | (go_at_call 84; (with_reducible refine (n0 _ (H.out.ext (by with_reducible repeat (first | exact Ext.refl _ | apply Ext.drew | apply Ext.alloc | apply Ext.more_)))).mono ?_); rintro e w' ⟨rfl, hb⟩; obtain ⟨osa, da, rfl⟩ := hb.more; clear hb) | (go_at_call 84; (with_reducible refine (n1 _ (H.out.ext (by with_reducible repeat (first | exact Ext.refl _ | apply Ext.drew | apply Ext.alloc | apply Ext.more_)))).mono ?_); rintro e w' ⟨rfl, hb⟩; obtain ⟨osb, db, rfl⟩ := hb.more; clear hb) | (go_at_call 82; (with_reducible refine (make_one _ (HT.out.ext (by with_reducible repeat (first | exact Ext.refl _ | apply Ext.drew | apply Ext.alloc | apply Ext.more_)))).mono ?_); rintro e w' ⟨rfl, hb⟩; obtain ⟨osc, dc, rfl⟩ := hb.more; clear hb) | (go_at_call 32; (with_reducible refine (galone_any _ _).mono ?_); rintro e w' ⟨D, m, cc, rfl, hD, hb⟩; obtain ⟨os5, d5, rfl⟩ := hb.more; clear hb; have hDr := hD.rd))
    exact bodyPost_ret (v := AV (aloneO mf).R (aloneO mf).C (.slice D m cc)) (by simp [results, Tryz.results47, go_sem]) rfl ⟨D, m, cc, rfl, ⟨(by (try simp only [more_more] at hDr); (try simp only [drew_more] at hDr); (try simp only [more_drew] at hDr); (try simp only [Array.append_assoc] at hDr); exact Rd.swap hDr (by first | (simp; done) | (simp; omega) | omega) (by first | (simp; done) | (simp; omega) | omega) (by first | (simp; done) | (simp; omega) | omega)), hD.len, hD.cap, hD.small, hD.ok⟩, by with_reducible repeat (first | exact Ext.refl _ | apply Ext.drew | apply Ext.alloc | apply Ext.more_)⟩
end Go.Proofs.YtfpaalkllfbeoaaGreatDoor
namespace Go.Proofs.YtfpaalkllfbeoaaGreatDoor
open Go.RowKit NM
theorem rof15_any (m e : Int) (w : World) :
    Calls Tryz.prog 60 #[NV m e] w fun r w' => r = .returned (VV 1 m e ⟨#[]⟩ false 0) ∧ Ext w w' := by
  go_enter Tryz.func60, Tryz.ntmps60
  go_wp2
  exact bodyPost_ret (v := VV 1 m e ⟨#[]⟩ false 0) (by simp [results, Tryz.results60, go_sem]) rfl ⟨rfl, by with_reducible repeat (first | exact Ext.refl _ | apply Ext.drew | apply Ext.alloc | apply Ext.more_)⟩
theorem rbad_res (f : Int) (hf : 1 ≤ f ∧ f ≤ 9) (w : World) : Calls Tryz.prog 23 #[.int .i64 f] w fun e w' => ResA w (aloneO f) e w' := by
  refine (refBad_any f w).mono ?_
  rintro e w' ⟨h1, h2⟩
  have hb : bad_ f = badV f := by unfold bad_ badF; rw [if_neg (by omega)]
  refine ArrO.res (x := aloneO f) ?_ (by simp [aloneO, oneA]) (fun y hy => by rw [show y = bad_ f by simpa [aloneO, oneA] using hy]; exact ok_bad f) h2
  show ArrO w.heap.size w' e 1 1 [bad_ f]
  rw [hb]; exact h1
abbrev CallI (w : World) (X : NA) : Ending → World → Prop := fun e w' => ∃ D m cc, e = .returned (.tuple #[AV X.R X.C (.slice D m cc), .bool true]) ∧ ArrIn w' D m cc X.l ∧ Ext w w'
set_option maxHeartbeats 2000000 in
/-- So many arguments as it doesn't take. -/
theorem rcall_few (s : ByteArray) (lo hi : Nat) (h1 : lo ≤ 100) (h2 : 1 ≤ hi) (h3 : hi ≤ 100) (hc : ∀ W, Calls Tryz.prog 58 #[.string s] W fun e w' => e = .returned (.tuple #[.int .i64 lo, .int .i64 hi]) ∧ Ext W w')
    (A : Option Addr) (n cap : Nat) (gs : List GA) (w : World) (h : ArgsG w A n cap gs) (hn : n < lo ∨ hi < n) :
    Calls Tryz.prog 29 #[.string s, .slice A n cap] w (CallI w (aloneO 2)) := by
  have hsm := h.small
  have h0 : ((hi : Int) == 0) = false := by simp; omega
  by_cases q1 : n < lo
  · clear hn h
    go_enter Tryz.func29, Tryz.ntmps29
    go_wp2_with (first | (go_at_call 58; (with_reducible refine (hc _).mono ?_); rintro e w' ⟨rfl, hb⟩; obtain ⟨os1, d1, rfl⟩ := hb.more; clear hb) | (go_at_call 23; (with_reducible refine (rbad_res 2 (by omega) _).mono ?_); rintro e w' ⟨D, m, cc, rfl, hD, hb⟩; obtain ⟨os5, d5, rfl⟩ := hb.more; clear hb; have hDr := hD.rd))
    exact bodyPost_ret (v := .tuple #[AV (aloneO 2).R (aloneO 2).C (.slice D m cc), .bool true]) (by simp [results, Tryz.results29, go_sem]) rfl ⟨D, m, cc, rfl, ArrN.arr (base := w.heap.size) ⟨(by (try simp only [more_more] at hDr); (try simp only [drew_more] at hDr); (try simp only [more_drew] at hDr); (try simp only [Array.append_assoc] at hDr); exact Rd.swap hDr (by first | (simp; done) | (simp; omega) | omega) (by first | (simp; done) | (simp; omega) | omega) (by first | (simp; done) | (simp; omega) | omega)), hD.len, hD.cap, hD.small, hD.ok⟩, by with_reducible repeat (first | exact Ext.refl _ | apply Ext.drew | apply Ext.alloc | apply Ext.more_)⟩
  · have q2 : hi < n := by omega
    clear hn h
    go_enter Tryz.func29, Tryz.ntmps29
    go_wp2_with (first | (go_at_call 58; (with_reducible refine (hc _).mono ?_); rintro e w' ⟨rfl, hb⟩; obtain ⟨os1, d1, rfl⟩ := hb.more; clear hb) | (go_at_call 23; (with_reducible refine (rbad_res 2 (by omega) _).mono ?_); rintro e w' ⟨D, m, cc, rfl, hD, hb⟩; obtain ⟨os5, d5, rfl⟩ := hb.more; clear hb; have hDr := hD.rd))
    exact bodyPost_ret (v := .tuple #[AV (aloneO 2).R (aloneO 2).C (.slice D m cc), .bool true]) (by simp [results, Tryz.results29, go_sem]) rfl ⟨D, m, cc, rfl, ArrN.arr (base := w.heap.size) ⟨(by (try simp only [more_more] at hDr); (try simp only [drew_more] at hDr); (try simp only [more_drew] at hDr); (try simp only [Array.append_assoc] at hDr); exact Rd.swap hDr (by first | (simp; done) | (simp; omega) | omega) (by first | (simp; done) | (simp; omega) | omega) (by first | (simp; done) | (simp; omega) | omega)), hD.len, hD.cap, hD.small, hD.ok⟩, by with_reducible repeat (first | exact Ext.refl _ | apply Ext.drew | apply Ext.alloc | apply Ext.more_)⟩
set_option maxHeartbeats 2000000 in
/-- One that may not be. -/
theorem rcall_bad (s : ByteArray) (lo hi : Nat) (h1 : lo ≤ 100) (h2 : 1 ≤ hi) (h3 : hi ≤ 100) (hc : ∀ W, Calls Tryz.prog 58 #[.string s] W fun e w' => e = .returned (.tuple #[.int .i64 lo, .int .i64 hi]) ∧ Ext W w')
    (A : Option Addr) (n cap : Nat) (gs : List GA) (w : World) (h : ArgsG w A n cap gs) (hn1 : lo ≤ n) (hn2 : n ≤ hi) (hb : ¬ ∀ g ∈ gs, g.right = true) :
    Calls Tryz.prog 29 #[.string s, .slice A n cap] w (CallI w (aloneO 9)) := by
  have hsm := h.small
  have h0 : ((hi : Int) == 0) = false := by simp; omega
  have q1 : ¬ n < lo := by omega
  have q2 : ¬ hi < n := by omega
  have HB := Lib.hid hb
  clear hb hn1 hn2
  go_enter Tryz.func29, Tryz.ntmps29
  go_wp2_with (go_at_call 58; (with_reducible refine (hc _).mono ?_); rintro e w' ⟨rfl, hb⟩; obtain ⟨os1, d1, rfl⟩ := hb.more; clear hb)
  go_loopw [8] (fun i wr => ∃ k : Nat, k ≤ n ∧ i = .int .i64 k ∧ Ext (more (w.alloc (Obj.cells #[.int .i64 0, .int .i64 0, .slice none 0 0] 31)) os1 d1) wr ∧ Hid (∀ j g, j < k → gs[j]? = some g → g.right = true)) (fun i _ => n - (intOf i).toNat)
  case atStart => exact ⟨0, Nat.zero_le _, rfl, Ext.refl _, fun j g hj => absurd hj (Nat.not_lt_zero _)⟩
  case round =>
    obtain ⟨k, hk, rfl, hX, HR⟩ := hrel
    obtain ⟨os, d, rfl⟩ := hX.more
    clear hX
    by_cases hlt : k < n
    · obtain ⟨g, b, off, hg, rfl, hat, harr⟩ := h.at hlt
      obtain ⟨v0, v1, v2⟩ := hat
      have hbl : b < w.heap.size := lt_of_cell v0
      have hcap := h.cap
      have hra := fun W (hW : ArrIn W g.A g.n g.cap g.l) => refRightA_any g.r g.c g.A g.n g.cap g.l W hW
      rw [← rightA_eq g.r g.c g.l harr.ok] at hra
      cases hr : rightA g.r g.c g.l with
      | true =>
        rw [hr] at hra
        go_wp2_with (go_at_call 16; refine (hra _ (harr.ext (by with_reducible repeat (first | exact Ext.refl _ | apply Ext.drew | apply Ext.alloc | apply Ext.more_)))).mono ?_; rintro e w' ⟨rfl, hb⟩; obtain ⟨os', d', rfl⟩ := hb.more; clear hb)
        refine ⟨⟨k + 1, by omega, by go_num, by repeat (first | (with_reducible (first | exact Ext.refl _ | exact ext_app _ _ _ _ _ | exact ext_app2 _ _ _ _ _ _)) | ((with_reducible refine ext_suffix ⟨_, ?_⟩); (try simp only [Array.append_assoc]); rfl) | (with_reducible (first | apply Ext.drew | apply Ext.alloc | apply Ext.more_))), ?_⟩, by simp [intOf]; omega⟩
        intro j g' hj hg'
        by_cases hjk : j = k
        · subst hjk
          obtain rfl : g = g' := by rw [hg] at hg'; simpa using hg'
          exact hr
        · exact HR.out j g' (by omega) hg'
      | false =>
        rw [hr] at hra
        go_wp2_with (first | (go_at_call 16; refine (hra _ (harr.ext (by with_reducible repeat (first | exact Ext.refl _ | apply Ext.drew | apply Ext.alloc | apply Ext.more_)))).mono ?_; rintro e w' ⟨rfl, hb⟩; obtain ⟨os', d', rfl⟩ := hb.more; clear hb) | (go_at_call 23; (with_reducible refine (rbad_res 9 (by omega) _).mono ?_); rintro e w' ⟨D, m, cc, rfl, hD, hb⟩; obtain ⟨os5, d5, rfl⟩ := hb.more; clear hb; have hDr := hD.rd))
        exact bodyPost_ret (v := .tuple #[AV (aloneO 9).R (aloneO 9).C (.slice D m cc), .bool true]) (by simp [results, Tryz.results29, go_sem]) rfl ⟨D, m, cc, rfl, ArrN.arr (base := w.heap.size) ⟨(by (try simp only [more_more] at hDr); (try simp only [drew_more] at hDr); (try simp only [more_drew] at hDr); (try simp only [Array.append_assoc] at hDr); exact Rd.swap hDr (by first | (simp; done) | (simp; omega) | omega) (by first | (simp; done) | (simp; omega) | omega) (by first | (simp; done) | (simp; omega) | omega)), hD.len, hD.cap, hD.small, hD.ok⟩, by with_reducible repeat (first | exact Ext.refl _ | apply Ext.drew | apply Ext.alloc | apply Ext.more_)⟩
    · exfalso
      have hlen := h.len
      refine HB.out fun g hg => ?_
      obtain ⟨j, hj, rfl⟩ := List.mem_iff_getElem.1 hg
      exact HR.out j _ (by omega) (List.getElem?_eq_getElem hj)
theorem rcount_mmult (w : World) : Calls Tryz.prog 58 #[.string ⟨#[77, 77, 85, 76, 84]⟩] w fun e w' => e = .returned (.tuple #[.int .i64 2, .int .i64 2]) ∧ Ext w w' := by
  go_enter Tryz.func58, Tryz.ntmps58
  go_wp2
  exact bodyPost_ret (v := .tuple #[.int .i64 2, .int .i64 2]) (by simp [results, Tryz.results58, go_sem]) rfl ⟨rfl, by with_reducible repeat (first | exact Ext.refl _ | apply Ext.drew | apply Ext.alloc | apply Ext.more_)⟩
end Go.Proofs.YtfpaalkllfbeoaaGreatDoor
namespace Go.Proofs.YtfpaalkllfbeoaaGreatDoor
open Go.RowKit NM
theorem gheap_new (w : World) (o : Obj) : (w.alloc o).heap[w.heap.size]? = some o := Array.getElem?_push_size
theorem argsG_new {w : World} {t : TypeId} {p : Nat} {cs : Array Value} (xs : List Ar) (hp : p = w.heap.size) (hc : cs = (acells xs).toArray) {n : Nat} (hn : xs.length = n) (hs : n ≤ 9223372036854775807) (h : ∀ a ∈ xs, ArOk w a) :
    ArgsIn (w.alloc (.cells cs t)) (some ⟨p, 0, none⟩) n n xs :=
  ⟨by subst hp hc; exact Rd.of_row (gheap_new _ _) 0 (Nat.zero_le _), hn, Nat.le_refl _, hs, fun a ha => (h a ha).ext ((Ext.refl _).alloc _)⟩
/-- An array of one value at a place. -/
def arAt (x : NA) (D : Option Addr) (m c : Nat) : Ar := ⟨x, D, m, c⟩
theorem one_right_ {y : Val} (h : y.right) : (oneA y).right := rightA_nat.2 ⟨Nat.le_refl _, Nat.le_refl _, (by show 1 * 1 ≤ 4096; decide), rfl, fun x hx => by rw [List.mem_singleton.1 hx]; exact h⟩
theorem gvar_at (w : World) (o : Obj) (osa osb : Array Obj) (da db : Nat) : (more ((more w osa da).alloc o) osb db).heap[w.heap.size + osa.size]? = some o := by
  have h := gheap_new (more w osa da) o
  rw [show (more w osa da).heap.size = w.heap.size + osa.size by simp] at h
  have x0 : Ext ((more w osa da).alloc o) (more ((more w osa da).alloc o) osb db) := by with_reducible repeat (first | exact Ext.refl _ | apply Ext.drew | apply Ext.alloc | apply Ext.more_)
  rw [x0.block (b := w.heap.size + osa.size) (by simp)]
  exact h
end Go.Proofs.YtfpaalkllfbeoaaGreatDoor
namespace Go.Proofs.YtfpaalkllfbeoaaGreatDoor
open Go.RowKit NM
set_option maxHeartbeats 1000000 in
theorem num15_any (n : Int) (w : World) (hn : n.natAbs < T 15) :
    Calls Tryz.prog 17 #[.int .i64 n] w fun e w' => ResA w (oneA (cntV n)) e w' := by
  have hi : I64 n := by have : T 15 = 1000000000000000 := (by decide); unfold I64; omega
  have hm := fun W => rmake_any n 0 W hi
  rw [show rnd (decide (n < 0)) n.natAbs false 0 = some (wholeN n) from (wholex hn).1] at hm
  simp only [rnV, rm, re, Option.getD_some, Option.isSome_some] at hm
  have hok := cnt_ok hn
  have hcv : cntV n = ⟨1, (wholeN n).1, (wholeN n).2, ⟨#[]⟩, false, 0⟩ := rfl
  clear hi hn
  generalize cntV n = y at *
  generalize (wholeN n).1 = m1 at *
  generalize (wholeN n).2 = m2 at *
  subst hcv
  go_enter Tryz.func17, Tryz.ntmps17
  go_wp2_with (first | (go_at_call 31; (with_reducible refine (hm _).mono ?_); rintro e w' ⟨rfl, hb⟩; obtain ⟨os, d, rfl⟩ := hb.more; clear hb))
  refine bodyPost_ret (v := AV 1 1 (.slice (some ⟨w.heap.size + 1 + os.size + 1, 0, none⟩) 1 1)) (by simp [results, Tryz.results17, go_sem]) rfl ⟨_, 1, 1, rfl, ⟨?_, rfl, Nat.le_refl _, by decide, fun x hx => by rw [List.mem_singleton.1 hx]; exact hok⟩, by with_reducible repeat (first | exact Ext.refl _ | apply Ext.drew | apply Ext.alloc | apply Ext.more_)⟩
  exact SlV.one (by simp) (by omega)
set_option maxHeartbeats 1000000 in
theorem call15_any (s : ByteArray) (A : Option Addr) (n cap : Nat) (w : World) (X : NA) (hp : ∀ W, Ext w W → Calls Tryz.prog 18 #[.string s, .slice A n cap] W (CallG W X)) (hr : ∀ W, Ext w W → Calls Tryz.prog 29 #[.string s, .slice A n cap] W (CallI W X)) :
    Calls Tryz.prog 15 #[.string s, .slice A n cap] w fun e w' => e = .returned (.bool true) ∧ Ext w w' := by
  go_enter Tryz.func15, Tryz.ntmps15
  go_wp2_with (first | (go_at_call 18; (with_reducible refine (hp _ (by with_reducible repeat (first | exact Ext.refl _ | apply Ext.drew | apply Ext.alloc | apply Ext.more_))).mono ?_); rintro e w' ⟨D1, m1, c1, rfl, hD1, hb⟩; have a1 := hD1.arr; obtain ⟨os1, d1, rfl⟩ := hb.more; clear hb) | (go_at_call 29; (with_reducible refine (hr _ (by with_reducible repeat (first | exact Ext.refl _ | apply Ext.drew | apply Ext.alloc | apply Ext.more_))).mono ?_); rintro e w' ⟨D2, m2, c2, rfl, a2, hb⟩; obtain ⟨os2, d2, rfl⟩ := hb.more; clear hb))
  refine (refSame_any X.R X.C X.R X.C D1 D2 m1 c1 m2 c2 X.l X.l _ (a1.ext (by with_reducible repeat (first | exact Ext.refl _ | apply Ext.drew | apply Ext.alloc | apply Ext.more_))) (a2.ext (by with_reducible repeat (first | exact Ext.refl _ | apply Ext.drew | apply Ext.alloc | apply Ext.more_)))).mono ?_
  rintro e w' ⟨rfl, hb⟩
  obtain ⟨os3, d3, rfl⟩ := hb.more
  clear hb
  rw [show sameA X.R X.C X.l X.R X.C X.l = true by simp [sameA]]
  go_wp2_with fail
  go_ret
  exact ⟨rfl, by with_reducible repeat (first | exact Ext.refl _ | apply Ext.drew | apply Ext.alloc | apply Ext.more_)⟩
set_option maxHeartbeats 2000000 in
theorem small15_any (A : Option Addr) (n cap : Nat) (gs : List GA) (w : World) (h : ArgsG w A n cap gs) :
    Calls Tryz.prog 14 #[.slice A n cap] w fun e w' => ∃ s : Int, e = .returned (.int .i64 s) ∧ (s = 0 ∨ s = 1) ∧ Ext w w' := by
  have hsm := h.small
  by_cases q : 40 < n
  · go_enter Tryz.func14, Tryz.ntmps14
    go_wp2_with fail
    go_ret
    exact ⟨0, rfl, Or.inl rfl, by with_reducible repeat (first | exact Ext.refl _ | apply Ext.drew | apply Ext.alloc | apply Ext.more_)⟩
  · go_enter Tryz.func14, Tryz.ntmps14
    go_wp2_with fail
    go_loopw [3, 11] (fun c i wr => ∃ (k : Nat) (t : Int), k ≤ n ∧ i = .int .i64 k ∧ c = .int .i64 t ∧ 0 ≤ t ∧ t ≤ 400 ∧ Ext w wr) (fun _ i _ => n - (intOf i).toNat)
    case atStart => exact ⟨0, 0, Nat.zero_le _, rfl, rfl, Int.le_refl _, by omega, Ext.refl _⟩
    case round =>
      obtain ⟨k, t, hk, rfl, rfl, ht0, ht1, hX⟩ := hrel
      obtain ⟨os, d, rfl⟩ := hX.more
      clear hX
      by_cases hlt : k < n
      · obtain ⟨g, b, off, hg, rfl, ⟨v0, v1, v2⟩, harr⟩ := h.at hlt
        have hbl : b < w.heap.size := lt_of_cell v0
        have hcap := h.cap
        have hgs := harr.small
        have hsa := fun W (hW : ArrIn W g.A g.n g.cap g.l) => small_any g.r g.c g.A g.n g.cap g.l W hW
        have HA := Lib.hid harr
        clear h harr hg
        by_cases hq : t + g.n ≤ 400
        · have hw : IntKind.i64.wrap (t + (g.n : Int)) = t + (g.n : Int) := by rw [IntKind.wrap_i64]; omega
          go_wp2_with (go_at_call 28; (with_reducible refine (hsa _ (HA.out.ext (by with_reducible repeat (first | exact Ext.refl _ | apply Ext.drew | apply Ext.alloc | apply Ext.more_)))).mono ?_); rintro e w' ⟨sm, rfl, hsm', hb⟩; obtain ⟨os2, d2, rfl⟩ := hb.more; clear hb; rcases hsm' with rfl | ⟨rfl, hn3, htx⟩)
          · go_ret
            exact ⟨0, rfl, Or.inl rfl, by with_reducible repeat (first | exact Ext.refl _ | apply Ext.drew | apply Ext.alloc | apply Ext.more_)⟩
          · exact ⟨⟨k + 1, t + (g.n : Int), by omega, by go_num, rfl, by omega, by omega, by with_reducible repeat (first | exact Ext.refl _ | apply Ext.drew | apply Ext.alloc | apply Ext.more_)⟩, by simp [intOf]; omega⟩
        · by_cases hn3 : g.n ≤ 300
          · have hw : IntKind.i64.wrap (t + (g.n : Int)) = t + (g.n : Int) := by rw [IntKind.wrap_i64]; omega
            have hq' : 400 < t + (g.n : Int) := by omega
            go_wp2_with (go_at_call 28; (with_reducible refine (hsa _ (HA.out.ext (by with_reducible repeat (first | exact Ext.refl _ | apply Ext.drew | apply Ext.alloc | apply Ext.more_)))).mono ?_); rintro e w' ⟨sm, rfl, hsm', hb⟩; obtain ⟨os2, d2, rfl⟩ := hb.more; clear hb; rcases hsm' with rfl | ⟨rfl, hn3, htx⟩)
            all_goals
              go_ret
              exact ⟨0, rfl, Or.inl rfl, by with_reducible repeat (first | exact Ext.refl _ | apply Ext.drew | apply Ext.alloc | apply Ext.more_)⟩
          · go_wp2_with (go_at_call 28; (with_reducible refine (hsa _ (HA.out.ext (by with_reducible repeat (first | exact Ext.refl _ | apply Ext.drew | apply Ext.alloc | apply Ext.more_)))).mono ?_); rintro e w' ⟨sm, rfl, hsm', hb⟩; obtain ⟨os2, d2, rfl⟩ := hb.more; clear hb; obtain rfl : sm = 0 := by rcases hsm' with h0 | ⟨_, h1, _⟩; exact h0; exact absurd h1 hn3)
            go_ret
            exact ⟨0, rfl, Or.inl rfl, by with_reducible repeat (first | exact Ext.refl _ | apply Ext.drew | apply Ext.alloc | apply Ext.more_)⟩
      · go_wp2_with fail
        go_ret
        exact ⟨1, rfl, Or.inr rfl, by with_reducible repeat (first | exact Ext.refl _ | apply Ext.drew | apply Ext.alloc | apply Ext.more_)⟩
end Go.Proofs.YtfpaalkllfbeoaaGreatDoor
namespace Go.Proofs.YtfpaalkllfbeoaaGreatDoor
open Go.RowKit NM
def GA.toAr (g : GA) : Ar := ⟨⟨g.r.toNat, g.c.toNat, g.l⟩, g.A, g.n, g.cap⟩
def arsOf (gs : List GA) : List Ar := gs.map GA.toAr
theorem toAr_toG {g : GA} (h : g.right = true) : (GA.toAr g).toG = g ∧ (GA.toAr g).x.right := by
  have h' : rightA g.r g.c g.l = true := h
  obtain ⟨R, C, e1, e2⟩ := rightA_shape h'
  obtain ⟨r, c, A, n, cap, l⟩ := g
  simp only at e1 e2 h'
  subst e1 e2
  exact ⟨rfl, h'⟩
theorem arsOf_in {w : World} {A : Option Addr} {n cap : Nat} {gs : List GA} (h : ArgsG w A n cap gs) (hr : ∀ g ∈ gs, g.right = true) : ArgsIn w A n cap (arsOf gs) := by
  have e : (arsOf gs).map Ar.toG = gs := by
    unfold arsOf
    rw [List.map_map]
    conv => rhs; rw [← List.map_id gs]
    exact List.map_congr_left fun g hg => (toAr_toG (hr g hg)).1
  refine ArgsG.toIn (xs := arsOf gs) (by rw [e]; exact h) fun a ha => ?_
  obtain ⟨g, hg, rfl⟩ := List.mem_map.1 ha
  exact (toAr_toG (hr g hg)).2
def turnO (xs : List Ar) : NA := turnN (argN xs 0)
theorem one_arg {w : World} {A : Option Addr} {cap n : Nat} {xs : List Ar} (h : ArgsIn w A n cap xs) (h1 : 1 ≤ n) (h2 : n ≤ 1) : ∃ a, xs = [a] ∧ n = 1 ∧ argN xs 0 = a.x := by
  have hl := h.len
  obtain rfl : n = 1 := by omega
  obtain ⟨a, rfl⟩ := List.length_eq_one_iff.1 hl
  exact ⟨a, rfl, rfl, rfl⟩
theorem pcall_transpose (A : Option Addr) (n cap : Nat) (gs : List GA) (w : World) (htab : Tab w) (h : ArgsG w A n cap gs) : Calls Tryz.prog 18 #[.string ⟨#[84, 82, 65, 78, 83, 80, 79, 83, 69]⟩, .slice A n cap] w (CallG w (callX 1 1 gs (turnO (arsOf gs)))) :=   gcall_any ⟨#[84, 82, 65, 78, 83, 80, 79, 83, 69]⟩ 1 1 54 (fun _ _ => #[]) (by decide) (fun _ _ => rfl) (fun args W => by go_simp) (by decide) (by decide) A n cap gs w h _ (fun hr h1 h2 p1 p2 W hW _ => by (obtain ⟨a, hx, hn, ha⟩ := one_arg (arsOf_in h hr) h1 h2); (have hi := (arsOf_in h hr).ext hW); (have hT := htab.ext hW); unfold turnO; rw [ha]; rw [hx] at hi; subst hn; exact gturn_any A cap a W hi)
theorem pcall_sequence (A : Option Addr) (n cap : Nat) (gs : List GA) (w : World) (htab : Tab w) (h : ArgsG w A n cap gs) : Calls Tryz.prog 18 #[.string ⟨#[83, 69, 81, 85, 69, 78, 67, 69]⟩, .slice A n cap] w (CallG w (callX 1 4 gs (sequenceO (arsOf gs)))) :=
  gcall_any ⟨#[83, 69, 81, 85, 69, 78, 67, 69]⟩ 1 4 47 (fun _ _ => #[]) (by decide) (fun _ _ => rfl) (fun args W => by go_simp) (by decide) (by decide) A n cap gs w h _ (fun hr _ _ p1 p2 W hW _ => gseq_any A n cap _ W (htab.ext hW) ((arsOf_in h hr).ext hW))
/-- Arguments that may be. -/
theorem arsOf_toG {xs : List Ar} : arsOf (xs.map Ar.toG) = xs := by
  unfold arsOf
  rw [List.map_map]
  conv => rhs; rw [← List.map_id xs]
  refine List.map_congr_left fun a _ => ?_
  obtain ⟨⟨R, C, l⟩, A, n, cap⟩ := a
  rfl
theorem callX_in {lo hi : Nat} {xs : List Ar} (F : NA) (h1 : lo ≤ xs.length) (h2 : xs.length ≤ hi) (hr : ∀ a ∈ xs, a.x.right) : callX lo hi (xs.map Ar.toG) F = F := by
  unfold callX
  rw [if_neg (by rw [List.length_map]; omega), if_pos]
  rw [List.all_eq_true]
  intro g hg
  obtain ⟨a, ha, rfl⟩ := List.mem_map.1 hg
  exact hr a ha
end Go.Proofs.YtfpaalkllfbeoaaGreatDoor
namespace Go.Proofs.YtfpaalkllfbeoaaGreatDoor
open Go.RowKit NM
theorem heap_one (Z : World) (o o' : Obj) (os : Array Obj) (d : Nat) {g : Nat} (hg : Z.heap.size + 1 ≤ g) : (more (Z.alloc o) os d).heap[g]? = (more (Z.alloc o') os d).heap[g]? := by
  simp only [more, World.alloc, Array.getElem?_append, Array.getElem?_push, Array.size_push]
  by_cases h : g < Z.heap.size + 1
  · omega
  · rw [if_neg h, if_neg h]
theorem own_one {Z : World} {o : Obj} (o' : Obj) {os : Array Obj} {d base size n : Nat} {ty : TypeId} {v : Value} {xs : List Value} (h : (more (Z.alloc o) os d).ownsRow base ty size v n xs) (hb : Z.heap.size + 1 ≤ base) : (more (Z.alloc o') os d).ownsRow base ty size v n xs := by
  refine ⟨h.1, ?_⟩
  rcases h.2 with h2 | ⟨g, cap, cur, hv, hg, hh, r⟩
  · exact .inl h2
  · exact .inr ⟨g, cap, cur, hv, hg, by rw [heap_one Z o' o os d (by omega)]; exact hh, r⟩
end Go.Proofs.YtfpaalkllfbeoaaGreatDoor
namespace Go.Proofs.YtfpaalkllfbeoaaGreatDoor
open Go.RowKit NM
theorem rndI_right {m e : Int} (h : Rt m e) : rndI m e = some (m, e) := rnd_of_right false h
theorem rndI_scale (x e : Int) (i : Nat) : rndI (x * (T i : Nat)) (e - i) = rndI x e := by
  unfold rndI
  have h0 := T_pos i
  have h1 : decide (x * ((T i : Nat) : Int) < 0) = decide (x < 0) := by
    by_cases hx : x < 0
    · rw [decide_eq_true hx, decide_eq_true (Int.mul_neg_of_neg_of_pos hx (by omega))]
    · rw [decide_eq_false hx, decide_eq_false (Int.not_lt.2 (Int.mul_nonneg (by omega) (by omega)))]
  rw [h1, Int.natAbs_mul, Int.natAbs_natCast, rnd_scale]
theorem add_nought {m e : Int} (h : Rt m e) : addS m e 0 0 = some (m, e) := by
  unfold addS
  rw [if_pos ⟨h, rt_zero⟩]
  unfold sumI
  rw [Int.zero_mul, Int.add_zero]
  have := rndI_scale m e (e - min e 0).toNat
  rw [show e - ((e - min e 0).toNat : Int) = min e 0 by omega] at this
  rw [this, rndI_right h]
theorem mul_one_ {m e : Int} (h : Rt m e) : mulS m e 1 0 = some (m, e) := by
  unfold mulS
  rw [if_pos ⟨h, rt_one⟩, Int.mul_one, Int.add_zero, rndI_right h]
theorem add_comm_ (ma ea mb eb : Int) : addS mb eb ma ea = addS ma ea mb eb := by
  unfold addS
  rw [sum_comm mb eb ma ea, Int.min_comm eb ea]
  exact ite_iff _ _ And.comm
theorem mul_comm_ (ma ea mb eb : Int) : mulS mb eb ma ea = mulS ma ea mb eb := by
  unfold mulS
  rw [Int.mul_comm mb ma, Int.add_comm eb ea]
  exact ite_iff _ _ And.comm
end Go.Proofs.YtfpaalkllfbeoaaGreatDoor
namespace Go.Proofs.YtfpaalkllfbeoaaGreatDoor
open Go.RowKit NM
def oneN : Val := ⟨1, 1, 0, ⟨#[]⟩, false, 0⟩
def nilN : Val := ⟨1, 0, 0, ⟨#[]⟩, false, 0⟩
def unitN (n : Nat) : NA := ⟨n, n, vals (fun i j => if i = j then oneN else nilN) n (n * n)⟩
theorem mul_zero_ {m e : Int} (h : Rt m e) : mulS m e 0 0 = some (0, 0) := by
  unfold mulS
  rw [if_pos ⟨h, rt_zero⟩, Int.mul_zero]
  exact rnd_nought _ _ _
theorem unit_at {n i j : Nat} (hi : i < n) (hj : j < n) : getV (unitN n).l (i * n + j) = if i = j then oneN else nilN := by
  show getV (vals (fun i j => if i = j then oneN else nilN) n (n * n)) (i * n + j) = _
  rw [getV_vals _ hi hj]
theorem nums_rt {a : NA} (ha : a.right) (hn : ∀ x ∈ a.l, x.kind = 1) {k : Nat} (hk : k < a.l.length) : Rt (getV a.l k).mant (getV a.l k).exp :=
  Val.right.rt ((rightA_nat.1 ha).2.2.2.2 _ (getV_mem hk)) (hn _ (getV_mem hk))
theorem dot_right {a : NA} (ha : a.right) (hn : ∀ x ∈ a.l, x.kind = 1) {i j : Nat} (hi : i < a.R) (hj : j < a.C) : ∀ k, k < a.C →
    dotS a (unitN a.C) i j k = some (if j ≤ k then ((getV a.l (i * a.C + j)).mant, (getV a.l (i * a.C + j)).exp) else (0, 0))
  | 0, hk => by
    obtain ⟨a1, a2, a3, a4, a5⟩ := rightA_nat.1 ha
    have hr : Rt (getV a.l (i * a.C)).mant (getV a.l (i * a.C)).exp := nums_rt ha hn (by rw [a4]; exact cell_lt (j := 0) hi hk)
    have hu := unit_at hk hj
    rw [Nat.zero_mul, Nat.zero_add] at hu
    unfold dotS
    rw [hu]
    by_cases h0 : j = 0
    · subst h0
      rw [if_pos rfl, if_pos (Nat.le_refl 0)]
      exact mul_one_ hr
    · rw [if_neg (fun e => h0 e.symm), if_neg (by omega)]
      exact mul_zero_ hr
  | k + 1, hk => by
    obtain ⟨a1, a2, a3, a4, a5⟩ := rightA_nat.1 ha
    have hr : Rt (getV a.l (i * a.C + (k + 1))).mant (getV a.l (i * a.C + (k + 1))).exp := nums_rt ha hn (by rw [a4]; exact cell_lt hi hk)
    have hj0 : Rt (getV a.l (i * a.C + j)).mant (getV a.l (i * a.C + j)).exp := nums_rt ha hn (by rw [a4]; exact cell_lt hi hj)
    unfold dotS
    rw [dot_right ha hn hi hj k (by omega), Option.bind_some]
    rw [show (unitN a.C).C = a.C from rfl, unit_at hk hj]
    by_cases h0 : j = k + 1
    · subst h0
      rw [if_pos rfl, if_neg (by omega), if_pos (Nat.le_refl _)]
      rw [show mulS (getV a.l (i * a.C + (k + 1))).mant (getV a.l (i * a.C + (k + 1))).exp oneN.mant oneN.exp = some ((getV a.l (i * a.C + (k + 1))).mant, (getV a.l (i * a.C + (k + 1))).exp) from mul_one_ hr, Option.bind_some]
      rw [add_comm_]
      exact add_nought hr
    · rw [if_neg (fun e => h0 e.symm)]
      rw [show mulS (getV a.l (i * a.C + (k + 1))).mant (getV a.l (i * a.C + (k + 1))).exp nilN.mant nilN.exp = some (0, 0) from mul_zero_ hr, Option.bind_some]
      by_cases h1 : j ≤ k
      · rw [if_pos h1, if_pos (by omega)]
        exact add_nought hj0
      · rw [if_neg h1, if_neg (by omega)]
        exact add_nought rt_zero
theorem dot_left {a : NA} (ha : a.right) (hn : ∀ x ∈ a.l, x.kind = 1) {i j : Nat} (hi : i < a.R) (hj : j < a.C) : ∀ k, k < a.R →
    dotS (unitN a.R) a i j k = some (if i ≤ k then ((getV a.l (i * a.C + j)).mant, (getV a.l (i * a.C + j)).exp) else (0, 0))
  | 0, hk => by
    obtain ⟨a1, a2, a3, a4, a5⟩ := rightA_nat.1 ha
    have hr : Rt (getV a.l j).mant (getV a.l j).exp := nums_rt ha hn (by rw [a4]; have := cell_lt (i := 0) hk hj; simpa using this)
    have hu := unit_at hi hk
    rw [Nat.add_zero] at hu
    unfold dotS
    rw [show (unitN a.R).C = a.R from rfl, hu]
    by_cases h0 : i = 0
    · subst h0
      rw [if_pos rfl, if_pos (Nat.le_refl 0), Nat.zero_mul, Nat.zero_add]
      rw [mul_comm_]
      exact mul_one_ hr
    · rw [if_neg h0, if_neg (by omega)]
      rw [mul_comm_]
      exact mul_zero_ hr
  | k + 1, hk => by
    obtain ⟨a1, a2, a3, a4, a5⟩ := rightA_nat.1 ha
    have hr : Rt (getV a.l ((k + 1) * a.C + j)).mant (getV a.l ((k + 1) * a.C + j)).exp := nums_rt ha hn (by rw [a4]; exact cell_lt hk hj)
    have hj0 : Rt (getV a.l (i * a.C + j)).mant (getV a.l (i * a.C + j)).exp := nums_rt ha hn (by rw [a4]; exact cell_lt hi hj)
    unfold dotS
    rw [dot_left ha hn hi hj k (by omega), Option.bind_some]
    rw [show (unitN a.R).C = a.R from rfl, unit_at hi hk]
    by_cases h0 : i = k + 1
    · subst h0
      rw [if_pos rfl, if_neg (by omega), if_pos (Nat.le_refl _)]
      rw [mul_comm_ (getV a.l ((k + 1) * a.C + j)).mant (getV a.l ((k + 1) * a.C + j)).exp oneN.mant oneN.exp]
      rw [show mulS (getV a.l ((k + 1) * a.C + j)).mant (getV a.l ((k + 1) * a.C + j)).exp oneN.mant oneN.exp = some ((getV a.l ((k + 1) * a.C + j)).mant, (getV a.l ((k + 1) * a.C + j)).exp) from mul_one_ hr, Option.bind_some]
      rw [add_comm_]
      exact add_nought hr
    · rw [if_neg h0]
      rw [mul_comm_ (getV a.l ((k + 1) * a.C + j)).mant (getV a.l ((k + 1) * a.C + j)).exp nilN.mant nilN.exp]
      rw [show mulS (getV a.l ((k + 1) * a.C + j)).mant (getV a.l ((k + 1) * a.C + j)).exp nilN.mant nilN.exp = some (0, 0) from mul_zero_ hr, Option.bind_some]
      by_cases h1 : i ≤ k
      · rw [if_pos h1, if_pos (by omega)]
        exact add_nought hj0
      · rw [if_neg h1, if_neg (by omega)]
        exact add_nought rt_zero
theorem num_form {x : Val} (h : x.right) (h1 : x.kind = 1) : x = ⟨1, x.mant, x.exp, ⟨#[]⟩, false, 0⟩ := by
  rcases h.form with rfl | ⟨m, e, rfl, hr⟩ | ⟨t, rfl, ht⟩ | ⟨b, rfl⟩ | ⟨f, rfl, hf⟩
  · cases h1
  · rfl
  · cases h1
  · cases h1
  · cases h1
theorem prod_all {a b : NA} {L : List Val} (hd : ∀ t, t < L.length → dotS a b (t / b.C) (t % b.C) (a.C - 1) = some ((getV L t).mant, (getV L t).exp)) (hk : ∀ t, t < L.length → getV L t = ⟨1, (getV L t).mant, (getV L t).exp, ⟨#[]⟩, false, 0⟩) :
    ∀ t, t ≤ L.length → prodO a b t = some (L.take t)
  | 0, _ => by simp [prodO]
  | t + 1, h => by
    unfold prodO
    rw [prod_all hd hk t (by omega), Option.bind_some, hd t (by omega), Option.map_some, ← hk t (by omega)]
    have : L[t]? = some (getV L t) := by unfold getV; rw [List.getElem?_eq_getElem (by omega)]; rfl
    rw [List.take_add_one, this]; rfl
theorem firstF_nums : ∀ {l : List Val}, (∀ x ∈ l, x.kind = 1) → firstF l = none
  | [], _ => rfl
  | y :: l, h => by
    have h0 := h y (by simp)
    unfold firstF
    rw [if_neg (by rw [h0]; decide)]
    exact firstF_nums fun x hx => h x (List.mem_cons_of_mem _ hx)
theorem unit_kind (n : Nat) : ∀ x ∈ (unitN n).l, x.kind = 1 := by
  intro x hx
  obtain ⟨i, j, rfl⟩ := vals_mem (g := fun i j => if i = j then oneN else nilN) (C := n) (k := n * n) hx
  split <;> rfl
theorem unit_right {n : Nat} (h1 : 1 ≤ n) (h2 : n ≤ 60) : (unitN n).right := by
  refine rightA_nat.2 ⟨h1, h1, ?_, vals_length (fun i j => if i = j then oneN else nilN) n (n * n), ?_⟩
  · exact Nat.le_trans (Nat.mul_le_mul h2 h2) (by decide)
  · intro x hx
    obtain ⟨i, j, rfl⟩ := vals_mem (g := fun i j => if i = j then oneN else nilN) (C := n) (k := n * n) hx
    split
    · exact right_num rt_one
    · exact right_num rt_zero
theorem mult_unit {a : NA} (ha : a.right) (hn : ∀ x ∈ a.l, x.kind = 1) : multT a (unitN a.C) = a := by
  obtain ⟨a1, a2, a3, a4, a5⟩ := rightA_nat.1 ha
  have hall : (a.l ++ (unitN a.C).l).any (fun v => decide (v.kind ≠ 1)) = false := by
    rw [List.any_eq_false]
    intro x hx
    rcases List.mem_append.1 hx with hx | hx
    · simp [hn x hx]
    · simp [unit_kind _ x hx]
  have hp := prod_all (a := a) (b := unitN a.C) (L := a.l) (fun t ht => by
    rw [a4] at ht
    have hi : t / a.C < a.R := Nat.div_lt_of_lt_mul (by rw [Nat.mul_comm]; exact ht)
    have hj : t % a.C < a.C := Nat.mod_lt _ a2
    have := dot_right ha hn hi hj (a.C - 1) (by omega)
    rw [if_pos (by omega), show t / a.C * a.C + t % a.C = t by rw [Nat.mul_comm]; exact Nat.div_add_mod t a.C] at this
    exact this) (fun t ht => num_form (a5 _ (getV_mem ht)) (hn _ (getV_mem ht))) a.l.length (Nat.le_refl _)
  rw [List.take_length, a4] at hp
  unfold multT
  rw [if_neg (by show ¬ a.C ≠ a.C; simp), firstF_nums hn]
  simp only
  rw [firstF_nums (unit_kind _)]
  simp only
  rw [hall, if_neg (by simp), if_neg (by show ¬ 4096 < a.R * a.C; omega)]
  rw [show a.R * (unitN a.C).C = a.R * a.C from rfl, hp]
  rfl
theorem unit_mult {a : NA} (ha : a.right) (hn : ∀ x ∈ a.l, x.kind = 1) : multT (unitN a.R) a = a := by
  obtain ⟨a1, a2, a3, a4, a5⟩ := rightA_nat.1 ha
  have hall : ((unitN a.R).l ++ a.l).any (fun v => decide (v.kind ≠ 1)) = false := by
    rw [List.any_eq_false]
    intro x hx
    rcases List.mem_append.1 hx with hx | hx
    · simp [unit_kind _ x hx]
    · simp [hn x hx]
  have hp := prod_all (a := unitN a.R) (b := a) (L := a.l) (fun t ht => by
    rw [a4] at ht
    have hi : t / a.C < a.R := Nat.div_lt_of_lt_mul (by rw [Nat.mul_comm]; exact ht)
    have hj : t % a.C < a.C := Nat.mod_lt _ a2
    have := dot_left ha hn hi hj (a.R - 1) (by omega)
    rw [if_pos (by omega), show t / a.C * a.C + t % a.C = t by rw [Nat.mul_comm]; exact Nat.div_add_mod t a.C] at this
    exact this) (fun t ht => num_form (a5 _ (getV_mem ht)) (hn _ (getV_mem ht))) a.l.length (Nat.le_refl _)
  rw [List.take_length, a4] at hp
  unfold multT
  rw [if_neg (by show ¬ a.R ≠ a.R; simp), firstF_nums (unit_kind _)]
  simp only
  rw [firstF_nums hn]
  simp only
  rw [hall, if_neg (by simp), if_neg (by show ¬ 4096 < a.R * a.C; omega)]
  rw [show (unitN a.R).R * a.C = a.R * a.C from rfl, hp]
  rfl
end Go.Proofs.YtfpaalkllfbeoaaGreatDoor
namespace Go.Proofs.YtfpaalkllfbeoaaGreatDoor
open Go.RowKit NM
theorem prodO_succ (a b : NA) (t : Nat) : prodO a b (t + 1) = (prodO a b t).bind fun l => (dotS a b (t / b.C) (t % b.C) (a.C - 1)).map fun p => l ++ [(⟨1, p.1, p.2, ⟨#[]⟩, false, 0⟩ : Val)] := rfl
theorem prodO_none {a b : NA} {t : Nat} (h : prodO a b t = none) : ∀ u, prodO a b (t + u) = none
  | 0 => h
  | u + 1 => by
    rw [← Nat.add_assoc]
    show (prodO a b (t + u)).bind _ = none
    rw [prodO_none h u]; rfl
theorem prod_place {b : NA} {i j : Nat} (hj : j < b.C) : (i * b.C + j) / b.C = i ∧ (i * b.C + j) % b.C = j := by
  have hC : 0 < b.C := by omega
  constructor
  · rw [Nat.mul_comm, Nat.mul_add_div hC, Nat.div_eq_of_lt hj, Nat.add_zero]
  · rw [Nat.mul_comm, Nat.mul_add_mod, Nat.mod_eq_of_lt hj]
theorem prod_some {a b : NA} {i j : Nat} {L : List Val} {p : Int × Int} (hj : j < b.C) (h : prodO a b (i * b.C + j) = some L) (hd : dotS a b i j (a.C - 1) = some p) :
    prodO a b (i * b.C + (j + 1)) = some (L ++ [⟨1, p.1, p.2, ⟨#[]⟩, false, 0⟩]) := by
  obtain ⟨e1, e2⟩ := prod_place (b := b) (i := i) hj
  rw [← Nat.add_assoc, prodO_succ, h, Option.bind_some, e1, e2, hd]; rfl
theorem prod_none {a b : NA} {i j : Nat} {L : List Val} (hj : j < b.C) (hi : i < a.R) (h : prodO a b (i * b.C + j) = some L) (hd : dotS a b i j (a.C - 1) = none) : prodO a b (a.R * b.C) = none := by
  obtain ⟨e1, e2⟩ := prod_place (b := b) (i := i) hj
  have h1 : prodO a b (i * b.C + j + 1) = none := by
    rw [prodO_succ, h, Option.bind_some, e1, e2, hd]; rfl
  have hlt := cell_lt hi hj
  have := prodO_none h1 (a.R * b.C - (i * b.C + j + 1))
  rw [show i * b.C + j + 1 + (a.R * b.C - (i * b.C + j + 1)) = a.R * b.C by omega] at this
  exact this
/-- What MMULT tells where there is no fault, and numbers alone. -/
theorem mult_fault1 {a b : NA} {f : Int} (h0 : a.C = b.R) (h1 : firstF a.l = some f) : multT a b = aloneO f := by
  unfold multT; rw [if_neg (by simpa using h0), h1]
theorem mult_fault2 {a b : NA} {f : Int} (h0 : a.C = b.R) (h1 : firstF a.l = none) (h2 : firstF b.l = some f) : multT a b = aloneO f := by
  unfold multT; rw [if_neg (by simpa using h0), h1]; simp only; rw [h2]
theorem mult_kind {a b : NA} (h0 : a.C = b.R) (h1 : firstF a.l = none) (h2 : firstF b.l = none) {x : Val} (hx : x ∈ a.l ++ b.l) (hk : x.kind ≠ 1) : multT a b = aloneO 2 := by
  unfold multT; rw [if_neg (by simpa using h0), h1]; simp only; rw [h2]; simp only
  rw [if_pos (List.any_eq_true.2 ⟨x, hx, by simpa using hk⟩)]
theorem mult_great {a b : NA} (h0 : a.C = b.R) (h1 : firstF a.l = none) (h2 : firstF b.l = none) (hn : ∀ x ∈ a.l ++ b.l, x.kind = 1) (hg : 4096 < a.R * b.C) : multT a b = aloneO 5 := by
  unfold multT; rw [if_neg (by simpa using h0), h1]; simp only; rw [h2]; simp only
  rw [if_neg (by rw [List.any_eq_true]; rintro ⟨x, hx, hk⟩; simp [hn x hx] at hk), if_pos hg]
theorem mult_prod {a b : NA} (h0 : a.C = b.R) (h1 : firstF a.l = none) (h2 : firstF b.l = none) (hn : ∀ x ∈ a.l ++ b.l, x.kind = 1) (hg : ¬ 4096 < a.R * b.C) :
    multT a b = match prodO a b (a.R * b.C) with
      | none => aloneO 5
      | some l => ⟨a.R, b.C, l⟩ := by
  unfold multT; rw [if_neg (by simpa using h0), h1]; simp only; rw [h2]; simp only
  rw [if_neg (by rw [List.any_eq_true]; rintro ⟨x, hx, hk⟩; simp [hn x hx] at hk), if_neg hg]
  try (cases prodO a b (a.R * b.C) <;> rfl)
theorem mulS_rt {a b c d : Int} {p : Int × Int} (h : mulS a b c d = some p) : Rt p.1 p.2 := by
  unfold mulS at h
  split at h
  · exact rnd_right h
  · cases h
theorem dotS_rt {a b : NA} {i j : Nat} {p : Int × Int} : ∀ {k : Nat}, dotS a b i j k = some p → Rt p.1 p.2
  | 0, h => mulS_rt h
  | k + 1, h => by
    unfold dotS at h
    cases h1 : dotS a b i j k with
    | none => rw [h1] at h; cases h
    | some s =>
      rw [h1, Option.bind_some] at h
      cases h2 : mulS (getV a.l (i * a.C + (k + 1))).mant (getV a.l (i * a.C + (k + 1))).exp (getV b.l ((k + 1) * b.C + j)).mant (getV b.l ((k + 1) * b.C + j)).exp with
      | none => rw [h2] at h; cases h
      | some q => rw [h2, Option.bind_some] at h; exact addS_rt h
theorem prod_right {a b : NA} : ∀ {t : Nat} {L : List Val}, prodO a b t = some L → ∀ x ∈ L, x.right
  | 0, L, h, x, hx => by
    obtain rfl : [] = L := by simpa [prodO] using h
    cases hx
  | t + 1, L, h, x, hx => by
    rw [prodO_succ] at h
    cases h1 : prodO a b t with
    | none => rw [h1] at h; cases h
    | some l1 =>
      rw [h1, Option.bind_some] at h
      cases h2 : dotS a b (t / b.C) (t % b.C) (a.C - 1) with
      | none => rw [h2] at h; cases h
      | some p =>
        rw [h2, Option.map_some, Option.some.injEq] at h
        subst h
        rcases List.mem_append.1 hx with hx | hx
        · exact prod_right h1 x hx
        · obtain rfl := List.mem_singleton.1 hx
          exact right_num (dotS_rt h2)
end Go.Proofs.YtfpaalkllfbeoaaGreatDoor
namespace Go.Proofs.YtfpaalkllfbeoaaGreatDoor
open Go.RowKit NM
theorem flat5 (V : World) (os os2 : Array Obj) (d d2 : Nat) (o : Obj) : more ((more V os d).alloc o) os2 d2 = more V (os.push o ++ os2) d2 := by rw [more_alloc, more_more]
/-- A sum of products on its way: so far so good, or there is none. -/
def DotIs (a b : NA) (i j k : Nat) (ok : Bool) (m e : Int) : Prop := (ok = true ∧ dotS a b i j (k - 1) = some (m, e)) ∨ (ok = false ∧ dotS a b i j (a.C - 1) = none)
theorem dot_none {a b : NA} {i j k : Nat} (h : dotS a b i j k = none) : ∀ t, dotS a b i j (k + t) = none
  | 0 => h
  | t + 1 => by
    rw [← Nat.add_assoc]
    show (dotS a b i j (k + t)).bind _ = none
    rw [dot_none h t]; rfl
theorem dot_none_at {a b : NA} {i j k : Nat} (h : dotS a b i j k = none) (hk : k < a.C) : dotS a b i j (a.C - 1) = none := by
  have := dot_none h (a.C - 1 - k)
  rw [show k + (a.C - 1 - k) = a.C - 1 by omega] at this
  exact this
set_option maxHeartbeats 8000000 in
theorem gprod_any (a b : NA) (A B : Option Addr) (n cap n' cap' i j : Nat) (w : World) (htab : Tab w) (ha : ArrIn w A n cap a.l) (hb : ArrIn w B n' cap' b.l) (har : a.right) (hbr : b.right) (hab : a.C = b.R) (hi : i < a.R) (hj : j < b.C) :
    Calls Tryz.prog 96 #[AV a.R a.C (.slice A n cap), AV b.R b.C (.slice B n' cap'), .int .i64 (i : Int), .int .i64 (j : Int)] w fun e w' => (∃ m ex ok, e = .returned (.tuple #[NV m ex, .bool ok]) ∧ DotIs a b i j a.C ok m ex) ∧ Ext w w' := by
  obtain ⟨r1, r2, r3, r4, r5⟩ := rightA_nat.1 har
  obtain ⟨s1, s2, s3, s4, s5⟩ := rightA_nat.1 hbr
  have hln := ha.len
  have hln' := hb.len
  obtain ⟨m1, m2⟩ := lt_mul hi r3
  have hb4 : b.C ≤ 4096 := Nat.le_trans (Nat.le_mul_of_pos_left b.C s1) s3
  have ha4 : a.C ≤ 4096 := Nat.le_trans (Nat.le_mul_of_pos_left a.C r1) r3
  obtain ⟨x, b1, off1, hx, hxo, hA, hxat⟩ := ha.at (k := i * a.C) (by omega)
  obtain ⟨y, b2, off2, hy, hyo, hB, hyat⟩ := hb.at (k := j) (by
    have := Nat.mul_le_mul_right b.C s1
    rw [Nat.one_mul] at this; omega)
  subst hA hB
  obtain ⟨x0, x1, x2, x3, x4, x5⟩ := hxat
  obtain ⟨y0, y1, y2, y3, y4, y5⟩ := hyat
  have hcap := ha.cap
  have hcap' := hb.cap
  have lb1 := lt_of_cell x0
  have lb2 := lt_of_cell y0
  have e1 : IntKind.i64.wrap ((i : Int) * (a.C : Int)) = ((i * a.C : Nat) : Int) := by rw [IntKind.wrap_i64, ← Int.natCast_mul]; omega
  have l1 : i * a.C < n := by omega
  have l2 : j < n' := by
    have := Nat.mul_le_mul_right b.C s1
    rw [Nat.one_mul] at this; omega
  have hd0 : dotS a b i j 0 = mulS x.mant x.exp y.mant y.exp := by
    show mulS (getV a.l (i * a.C)).mant (getV a.l (i * a.C)).exp (getV b.l j).mant (getV b.l j).exp = _
    rw [show getV a.l (i * a.C) = x by unfold getV; rw [hx]; rfl, show getV b.l j = y by unfold getV; rw [hy]; rfl]
  have hmu := fun W (hT : Tab W) => mul_any x.mant x.exp y.mant y.exp W hT hxo.2.1 hyo.2.1
  rw [← hd0] at hmu
  have HT := Lib.hid htab
  have HA := Lib.hid ha
  have HB := Lib.hid hb
  have HD : Hid (DotIs a b i j 1 (dotS a b i j 0).isSome (rm (dotS a b i j 0)) (re (dotS a b i j 0))) := by
    show DotIs _ _ _ _ _ _ _ _
    cases hs : dotS a b i j 0 with
    | none => exact Or.inr ⟨rfl, dot_none_at hs r2⟩
    | some p => exact Or.inl ⟨rfl, hs⟩
  have HI : Hid (I64 (rm (dotS a b i j 0))) := by
    show I64 _
    rw [hd0]
    cases hs : mulS x.mant x.exp y.mant y.exp with
    | none => show I64 0; unfold I64; omega
    | some p => exact rt_i64 (mulS_rt hs)
  generalize dotS a b i j 0 = r0 at *
  have HAB := Lib.hid hab
  clear htab ha hb hx hy hd0 hab
  generalize hP : i * a.C = P at *
  have HP := Lib.hid hP
  clear hP
  go_enter Tryz.func96, Tryz.ntmps96
  go_upto_region 1 with fail
  refine wp_world fun U hU => ?_
  have hx0 : Ext w U := by rw [hU]; exact (by with_reducible repeat (first | exact Ext.refl _ | apply Ext.drew | apply Ext.alloc | apply Ext.more_))
  have c1 : U.cell? ⟨w.heap.size, 1, none⟩ = some (.int .i64 (a.C : Int)) := by rw [hU]; go_simp
  have c2 : U.cell? ⟨w.heap.size, 2, none⟩ = some (.slice (some ⟨b1, off1, none⟩) n cap) := by rw [hU]; go_simp
  have c3 : U.cell? ⟨w.heap.size + 1, 1, none⟩ = some (.int .i64 (b.C : Int)) := by rw [hU]; go_simp
  have c4 : U.cell? ⟨w.heap.size + 1, 2, none⟩ = some (.slice (some ⟨b2, off2, none⟩) n' cap') := by rw [hU]; go_simp
  have lc := lt_of_cell c1
  have lc' := lt_of_cell c3
  have HU : Hid (∃ os d, U = more ((((w.alloc (Obj.cells #[.int .i64 (a.R : Int), .int .i64 (a.C : Int), .slice (some ⟨b1, off1, none⟩) n cap] 31)).alloc (Obj.cells #[.int .i64 (b.R : Int), .int .i64 (b.C : Int), .slice (some ⟨b2, off2, none⟩) n' cap'] 31)).alloc (Obj.cells #[.int .i64 0, .int .i64 0] 41))) os d) := Lib.hid ((show Ext ((((w.alloc (Obj.cells #[.int .i64 (a.R : Int), .int .i64 (a.C : Int), .slice (some ⟨b1, off1, none⟩) n cap] 31)).alloc (Obj.cells #[.int .i64 (b.R : Int), .int .i64 (b.C : Int), .slice (some ⟨b2, off2, none⟩) n' cap'] 31)).alloc (Obj.cells #[.int .i64 0, .int .i64 0] 41))) U by rw [hU]; exact (by with_reducible repeat (first | exact Ext.refl _ | apply Ext.drew | apply Ext.alloc | apply Ext.more_))).more)
  clear hU
  have z1 := hx0.cell_some x1
  have z2 := hx0.cell_some x2
  have v1 := hx0.cell_some y1
  have v2 := hx0.cell_some y2
  have lz := lt_of_cell z1
  have lv := lt_of_cell v1
  refine wp_float [(19, 10, (.cells #[.int .i64 0, .int .i64 0] 41))] [(0, 0), (1, 0), (2, 0), (3, 0), (4, 0), (5, 0), (6, 0), (7, 0), (8, 0), (9, 0), (10, 0), (11, 0), (12, 0), (13, 0), (14, 0), (15, 1), (16, 0), (17, 0), (18, 2)] [20, 21] [20, 21] [18] (by kernel_rfl) (by kernel_rfl) (by kernel_rfl) (fun _ _ d _ _ h => by cases d <;> exact h) (fun _ _ d _ _ h => by cases d <;> exact h) (fun x hx o ho a w => by (obtain rfl := List.mem_singleton.1 hx); (obtain rfl := Option.some.inj ho); (first | rfl | (simp [go_sem, ptrB]; done) | (go_simp; rfl))) ?_
  iterate 15 ((refine wpFp_read (v := ?_) rfl ?_ (fun w1 h1 => ?_) ?_; rotate_left 1; rfl; (obtain ⟨os1, d1, rfl⟩ := h1.more; go_simp; first | done | rfl)); try simp only [Act.put, zqA, zqB, zqC])
  (refine wpFp_eff rfl ?_ (fun wf hXf hE K hK => ?_); rfl; obtain ⟨osf, df, rfl⟩ := hXf.more; go_simp; refine (hmu _ ((HT.out.ext hx0).ext (by with_reducible repeat (first | exact Ext.refl _ | exact ext_d _ _ _ _ | exact ext_app _ _ _ _ _ | exact ext_app2 _ _ _ _ _ _ | exact ext_app3 _ _ _ _ _ _ _ | apply Ext.drew | apply Ext.alloc | apply Ext.more_)))).mono ?_; rintro e w' ⟨rfl, hb⟩; refine hK _ _ (fun _ => True) (by (try simp only [more_drew, more_more, Array.append_assoc]); exact hb) (fun _ _ _ _ => trivial) trivial ?_)
  try simp only [Act.put, zqA, zqB, zqC]
  iterate 2 ((refine wpFp_read (v := ?_) rfl ?_ (fun w1 h1 => ?_) ?_; rotate_left 1; rfl; (obtain ⟨os1, d1, rfl⟩ := h1.more; go_simp; first | done | rfl)); try simp only [Act.put, zqA, zqB, zqC])
  (refine wpFp_pure (v := ?_) rfl ?_ (fun w1 => ?_) ?_; rotate_left 1; rfl; (go_simp; first | done | rfl))
  try simp only [Act.put, zqA, zqB, zqC]
  refine wpFp_one fun osa da osb db hE => ?_
  try simp only [Act.put, zqA, zqB, zqC]
  iterate 2 ((refine wpTl_op rfl ?_ (fun K hK => ?_); rfl; go_simp; refine hK _ _ ?_); try simp only [Act.put, zqA, zqB, zqC])
  refine wpTl_nil ?_
  clear hE hmu
  obtain ⟨V, hV⟩ : ∃ V, more U osa da = V := ⟨_, rfl⟩
  have hxV : Ext U V := by rw [← hV]; exact ext_more _ _ _
  have hps : U.heap.size + osa.size = V.heap.size := by rw [← hV]; simp
  rw [hV, hps]
  replace HU := Lib.hid (show ∃ os d, V = more ((((w.alloc (Obj.cells #[.int .i64 (a.R : Int), .int .i64 (a.C : Int), .slice (some ⟨b1, off1, none⟩) n cap] 31)).alloc (Obj.cells #[.int .i64 (b.R : Int), .int .i64 (b.C : Int), .slice (some ⟨b2, off2, none⟩) n' cap'] 31)).alloc (Obj.cells #[.int .i64 0, .int .i64 0] 41))) os d by obtain ⟨o1, d1, h1⟩ := HU.out; exact ⟨o1 ++ osa, da, by rw [← hV, h1, more_more]⟩)
  clear hV hps
  replace c1 := hxV.cell_some c1
  replace c2 := hxV.cell_some c2
  replace c3 := hxV.cell_some c3
  replace c4 := hxV.cell_some c4
  replace lc := lt_of_cell c1
  replace lc' := lt_of_cell c3
  replace hx0 := hx0.trans hxV
  clear hxV z1 z2 v1 v2 lz lv x0 x1 x2 x3 x4 x5 y0 y1 y2 y3 y4 y5
  go_wp2_with fail
  go_loopw [11, 12] (fun s11 s12 wr => ∃ (k : Nat) (ok : Bool) (m ex : Int) (os : Array Obj) (d : Nat), 1 ≤ k ∧ k ≤ a.C ∧ s11 = .bool ok ∧ s12 = .int .i64 (k : Int) ∧ wr = more (V.alloc (Obj.cells #[.int .i64 m, .int .i64 ex] 41)) os d ∧ Hid (DotIs a b i j k ok m ex) ∧ Hid (I64 m)) (fun _ s12 _ => a.C - (intOf s12).toNat)
  case atStart => exact ⟨1, r0.isSome, rm r0, re r0, _, _, Nat.le_refl _, r2, rfl, rfl, rfl, HD, HI⟩
  case round =>
    clear HD HI
    obtain ⟨k, ok, m, ex, os, d, hk1, hkC, rfl, rfl, rfl, HD, HI⟩ := hrel
    by_cases hgo : ok = true ∧ k < a.C
    · obtain ⟨rfl, hlt⟩ := hgo
      have hlt' : (k : Int) < (a.C : Int) := by omega
      have hds : dotS a b i j (k - 1) = some (m, ex) := by
        rcases HD.out with ⟨_, h⟩ | ⟨h, _⟩
        · exact h
        · cases h
      have hP := HP.out
      have hkR : k < b.R := by have := HAB.out; omega
      obtain ⟨q1, q2⟩ := lt_mul hkR s3
      obtain ⟨x', b', off', hx', hxo', hA', hxat⟩ := HA.out.at (k := P + k) (by omega)
      obtain ⟨y', b'', off'', hy', hyo', hB', hyat⟩ := HB.out.at (k := k * b.C + j) (by omega)
      simp only [Option.some.injEq, Addr.mk.injEq, and_true] at hA' hB'
      obtain ⟨rfl, rfl⟩ := hA'
      obtain ⟨rfl, rfl⟩ := hB'
      obtain ⟨_, z1, z2, _, _, _⟩ := hxat.ext hx0
      obtain ⟨_, v1, v2, _, _, _⟩ := hyat.ext hx0
      have lz := lt_of_cell z1
      have lv := lt_of_cell v1
      have e2 : IntKind.i64.wrap ((P : Int) + (k : Int)) = ((P + k : Nat) : Int) := by rw [IntKind.wrap_i64]; omega
      have e3 : IntKind.i64.wrap ((k : Int) * (b.C : Int)) = ((k * b.C : Nat) : Int) := by rw [IntKind.wrap_i64, ← Int.natCast_mul]; omega
      have e4 : IntKind.i64.wrap (((k * b.C : Nat) : Int) + (j : Int)) = ((k * b.C + j : Nat) : Int) := by rw [IntKind.wrap_i64]; omega
      have t1 : P + k < n := by omega
      have t2 : k * b.C + j < n' := by omega
      have hdk : dotS a b i j k = (mulS x'.mant x'.exp y'.mant y'.exp).bind fun z => addS m ex z.1 z.2 := by
        obtain ⟨k', rfl⟩ : ∃ k', k = k' + 1 := ⟨k - 1, by omega⟩
        show (dotS a b i j k').bind _ = _
        rw [show dotS a b i j k' = some (m, ex) from hds, Option.bind_some, show i * a.C + (k' + 1) = P + (k' + 1) by omega]
        rw [show getV a.l (P + (k' + 1)) = x' by unfold getV; rw [hx']; rfl, show getV b.l ((k' + 1) * b.C + j) = y' by unfold getV; rw [hy']; rfl]
      have hm := fun W (hT : Tab W) => mul_any x'.mant x'.exp y'.mant y'.exp W hT hxo'.2.1 hyo'.2.1
      have hIm := HI.out
      clear hx' hy' hds hP hkR q1 q2 hxat hyat hxo' hyo' HD HI
      generalize hK2 : k * b.C + j = K2 at *
      generalize hK3 : k * b.C = K3 at *
      generalize hK1 : P + k = K1 at *
      generalize x'.mant = xm at *
      generalize x'.exp = xe at *
      generalize y'.mant = ym at *
      generalize y'.exp = ye at *
      clear hK1 hK2 hK3
      cases hs : mulS xm xe ym ye with
      | none =>
        rw [hs] at hm hdk
        simp only [rnV, rm, re, Option.getD_none, Option.isSome_none, Option.bind_none] at hm hdk
        have HD2 : Hid (DotIs a b i j (k + 1) false m ex) := Lib.hid (Or.inr ⟨rfl, dot_none_at hdk hlt⟩)
        clear hdk hs
        go_upto_region 6 with fail
        refine wp_float [] [(0, 0), (1, 0), (2, 0), (3, 0), (4, 0), (5, 0), (6, 0), (7, 0), (8, 0), (9, 0), (10, 0), (11, 0), (12, 0), (13, 0), (14, 0), (15, 0), (16, 0), (17, 0), (18, 0), (19, 0), (20, 0), (21, 0), (22, 1), (23, 0), (24, 0), (25, 2)] [26, 27] [26, 27] [25] (by kernel_rfl) (by kernel_rfl) (by kernel_rfl) (fun _ _ d _ _ h => by cases d <;> exact h) (fun _ _ d _ _ h => by cases d <;> exact h) (fun x hx => by cases hx) ?_
        iterate 22 ((refine wpFp_read (v := ?_) rfl ?_ (fun w1 h1 => ?_) ?_; rotate_left 1; rfl; (obtain ⟨os1, d1, rfl⟩ := h1.more; go_simp; first | done | rfl)); try simp only [Act.put, zqA, zqB, zqC])
        (refine wpFp_eff rfl ?_ (fun wf hXf hE K hK => ?_); rfl; obtain ⟨osf, df, rfl⟩ := hXf.more; go_simp; refine (hm _ (HT.out.ext (hx0.trans (by with_reducible repeat (first | exact Ext.refl _ | apply Ext.drew | apply Ext.alloc | apply Ext.more_))))).mono ?_; rintro e w' ⟨rfl, hb⟩; refine hK _ _ (fun _ => True) (by (try simp only [more_drew, more_more, Array.append_assoc]); exact hb) (fun _ _ _ _ => trivial) trivial ?_)
        try simp only [Act.put, zqA, zqB, zqC]
        iterate 2 ((refine wpFp_read (v := ?_) rfl ?_ (fun w1 h1 => ?_) ?_; rotate_left 1; rfl; (obtain ⟨os1, d1, rfl⟩ := h1.more; go_simp; first | done | rfl)); try simp only [Act.put, zqA, zqB, zqC])
        (refine wpFp_pure (v := ?_) rfl ?_ (fun w1 => ?_) ?_; rotate_left 1; rfl; (go_simp; first | done | rfl))
        try simp only [Act.put, zqA, zqB, zqC]
        refine wpFp_zero fun osa da hE => ?_
        try simp only [Act.put, zqA, zqB, zqC]
        iterate 2 ((refine wpTl_op rfl ?_ (fun K hK => ?_); rfl; go_simp; refine hK _ _ ?_); try simp only [Act.put, zqA, zqB, zqC])
        refine wpTl_nil ?_
        clear hE hm
        go_wp2_with fail
        exact ⟨⟨k + 1, false, m, ex, _, _, by omega, by omega, rfl, by go_num, flat5 _ _ _ _ _ _, HD2, hIm⟩, by simp [intOf]; omega⟩
      | some q =>
        obtain ⟨qm, qe⟩ := q
        have hqr := mulS_rt hs
        rw [hs] at hm hdk
        simp only [rnV, rm, re, Option.getD_some, Option.isSome_some, Option.bind_some] at hm hdk
        have had := fun W (hT : Tab W) => add_any m ex qm qe W hT hIm (rt_i64 hqr)
        cases ha : addS m ex qm qe with
        | none =>
          rw [ha] at had hdk
          simp only [rnV, rm, re, Option.getD_none, Option.isSome_none] at had
          have HD2 : Hid (DotIs a b i j (k + 1) false 0 0) := Lib.hid (Or.inr ⟨rfl, dot_none_at hdk hlt⟩)
          clear hdk hs ha hqr
          go_upto_region 6 with fail
          refine wp_float [] [(0, 0), (1, 0), (2, 0), (3, 0), (4, 0), (5, 0), (6, 0), (7, 0), (8, 0), (9, 0), (10, 0), (11, 0), (12, 0), (13, 0), (14, 0), (15, 0), (16, 0), (17, 0), (18, 0), (19, 0), (20, 0), (21, 0), (22, 1), (23, 0), (24, 0), (25, 2)] [26, 27] [26, 27] [25] (by kernel_rfl) (by kernel_rfl) (by kernel_rfl) (fun _ _ d _ _ h => by cases d <;> exact h) (fun _ _ d _ _ h => by cases d <;> exact h) (fun x hx => by cases hx) ?_
          iterate 22 ((refine wpFp_read (v := ?_) rfl ?_ (fun w1 h1 => ?_) ?_; rotate_left 1; rfl; (obtain ⟨os1, d1, rfl⟩ := h1.more; go_simp; first | done | rfl)); try simp only [Act.put, zqA, zqB, zqC])
          (refine wpFp_eff rfl ?_ (fun wf hXf hE K hK => ?_); rfl; obtain ⟨osf, df, rfl⟩ := hXf.more; go_simp; refine (hm _ (HT.out.ext (hx0.trans (by with_reducible repeat (first | exact Ext.refl _ | apply Ext.drew | apply Ext.alloc | apply Ext.more_))))).mono ?_; rintro e w' ⟨rfl, hb⟩; refine hK _ _ (fun _ => True) (by (try simp only [more_drew, more_more, Array.append_assoc]); exact hb) (fun _ _ _ _ => trivial) trivial ?_)
          try simp only [Act.put, zqA, zqB, zqC]
          iterate 2 ((refine wpFp_read (v := ?_) rfl ?_ (fun w1 h1 => ?_) ?_; rotate_left 1; rfl; (obtain ⟨os1, d1, rfl⟩ := h1.more; go_simp; first | done | rfl)); try simp only [Act.put, zqA, zqB, zqC])
          (refine wpFp_pure (v := ?_) rfl ?_ (fun w1 => ?_) ?_; rotate_left 1; rfl; (go_simp; first | done | rfl))
          try simp only [Act.put, zqA, zqB, zqC]
          refine wpFp_zero fun osa da hE => ?_
          try simp only [Act.put, zqA, zqB, zqC]
          iterate 2 ((refine wpTl_op rfl ?_ (fun K hK => ?_); rfl; go_simp; refine hK _ _ ?_); try simp only [Act.put, zqA, zqB, zqC])
          refine wpTl_nil ?_
          clear hE hm
          go_wp2_with (go_at_call 98; refine (had _ (HT.out.ext (hx0.trans (by with_reducible repeat (first | exact Ext.refl _ | apply Ext.drew | apply Ext.alloc | apply Ext.more_))))).mono ?_; rintro e w' ⟨rfl, hb⟩; obtain ⟨ost, dt, rfl⟩ := hb.more; clear hb)
          exact ⟨⟨k + 1, false, 0, 0, _, _, by omega, by omega, rfl, by go_num, flat5 _ _ _ _ _ _, HD2, (show I64 0 by unfold I64; omega)⟩, by simp [intOf]; omega⟩
        | some p =>
          obtain ⟨pm, pe⟩ := p
          have hpr := addS_rt ha
          rw [ha] at had hdk
          simp only [rnV, rm, re, Option.getD_some, Option.isSome_some] at had
          have HD2 : Hid (DotIs a b i j (k + 1) true pm pe) := Lib.hid (Or.inl ⟨rfl, hdk⟩)
          have HI2 : Hid (I64 pm) := Lib.hid (rt_i64 hpr)
          clear hdk hs ha hqr hpr
          go_upto_region 6 with fail
          refine wp_float [] [(0, 0), (1, 0), (2, 0), (3, 0), (4, 0), (5, 0), (6, 0), (7, 0), (8, 0), (9, 0), (10, 0), (11, 0), (12, 0), (13, 0), (14, 0), (15, 0), (16, 0), (17, 0), (18, 0), (19, 0), (20, 0), (21, 0), (22, 1), (23, 0), (24, 0), (25, 2)] [26, 27] [26, 27] [25] (by kernel_rfl) (by kernel_rfl) (by kernel_rfl) (fun _ _ d _ _ h => by cases d <;> exact h) (fun _ _ d _ _ h => by cases d <;> exact h) (fun x hx => by cases hx) ?_
          iterate 22 ((refine wpFp_read (v := ?_) rfl ?_ (fun w1 h1 => ?_) ?_; rotate_left 1; rfl; (obtain ⟨os1, d1, rfl⟩ := h1.more; go_simp; first | done | rfl)); try simp only [Act.put, zqA, zqB, zqC])
          (refine wpFp_eff rfl ?_ (fun wf hXf hE K hK => ?_); rfl; obtain ⟨osf, df, rfl⟩ := hXf.more; go_simp; refine (hm _ (HT.out.ext (hx0.trans (by with_reducible repeat (first | exact Ext.refl _ | apply Ext.drew | apply Ext.alloc | apply Ext.more_))))).mono ?_; rintro e w' ⟨rfl, hb⟩; refine hK _ _ (fun _ => True) (by (try simp only [more_drew, more_more, Array.append_assoc]); exact hb) (fun _ _ _ _ => trivial) trivial ?_)
          try simp only [Act.put, zqA, zqB, zqC]
          iterate 2 ((refine wpFp_read (v := ?_) rfl ?_ (fun w1 h1 => ?_) ?_; rotate_left 1; rfl; (obtain ⟨os1, d1, rfl⟩ := h1.more; go_simp; first | done | rfl)); try simp only [Act.put, zqA, zqB, zqC])
          (refine wpFp_pure (v := ?_) rfl ?_ (fun w1 => ?_) ?_; rotate_left 1; rfl; (go_simp; first | done | rfl))
          try simp only [Act.put, zqA, zqB, zqC]
          refine wpFp_zero fun osa da hE => ?_
          try simp only [Act.put, zqA, zqB, zqC]
          iterate 2 ((refine wpTl_op rfl ?_ (fun K hK => ?_); rfl; go_simp; refine hK _ _ ?_); try simp only [Act.put, zqA, zqB, zqC])
          refine wpTl_nil ?_
          clear hE hm
          go_wp2_with (go_at_call 98; refine (had _ (HT.out.ext (hx0.trans (by with_reducible repeat (first | exact Ext.refl _ | apply Ext.drew | apply Ext.alloc | apply Ext.more_))))).mono ?_; rintro e w' ⟨rfl, hb⟩; obtain ⟨ost, dt, rfl⟩ := hb.more; clear hb)
          exact ⟨⟨k + 1, true, pm, pe, _, _, by omega, by omega, rfl, by go_num, flat5 _ _ _ _ _ _, HD2, HI2⟩, by simp [intOf]; omega⟩
    · cases ok with
      | false =>
        have HD3 : Hid (DotIs a b i j a.C false m ex) := by
          rcases HD.out with ⟨h, _⟩ | ⟨_, h⟩
          · cases h
          · exact Lib.hid (Or.inr ⟨rfl, h⟩)
        obtain ⟨osu, du, rfl⟩ := HU.out
        go_wp2_with fail
        exact bodyPost_ret (v := .tuple #[NV m ex, .bool false]) (by simp [results, Tryz.results96, go_sem]) rfl ⟨⟨m, ex, false, rfl, HD3.out⟩, by with_reducible repeat (first | exact Ext.refl _ | apply Ext.drew | apply Ext.alloc | apply Ext.more_)⟩
      | true =>
        have hlt : ¬ k < a.C := fun e => hgo ⟨rfl, e⟩
        obtain rfl : a.C = k := by omega
        obtain ⟨osu, du, rfl⟩ := HU.out
        go_wp2_with fail
        first
          | exact bodyPost_ret (v := .tuple #[NV m ex, .bool true]) (by simp [results, Tryz.results96, go_sem]) rfl ⟨⟨m, ex, true, rfl, HD.out⟩, by with_reducible repeat (first | exact Ext.refl _ | apply Ext.drew | apply Ext.alloc | apply Ext.more_)⟩
          | exact bodyPost_ret (v := .tuple #[NV m ex, .bool true]) (by simp [results, Tryz.results96, go_sem]) rfl ⟨⟨m, ex, Or.inr ⟨rfl, HD.out⟩⟩, by with_reducible repeat (first | exact Ext.refl _ | apply Ext.drew | apply Ext.alloc | apply Ext.more_)⟩
end Go.Proofs.YtfpaalkllfbeoaaGreatDoor
namespace Go.Proofs.YtfpaalkllfbeoaaGreatDoor
open Go.RowKit NM
set_option maxHeartbeats 8000000 in
theorem gmult_any (A : Option Addr) (n cap : Nat) (xs : List Ar) (w : World) (htab : Tab w) (h : ArgsIn w A n cap xs) (h2 : 2 ≤ n) (h3 : n ≤ 2) :
    Calls Tryz.prog 45 #[.slice A n cap] w fun e w' => ResA w (productO xs) e w' := by
  obtain rfl : n = 2 := by omega
  clear h2 h3
  obtain ⟨R, C, l, b1, off1, n1, cap1, b, off, x0, ha, rfl, ⟨v0, v1, v2⟩, _, hc1, _, _, _, hbl, _, _, _, harr, _⟩ := h.first (k := 0) (by omega)
  obtain ⟨R2, C2, l2, b2, off2, n2, cap2, b', off', x2, ha2, hbo, ⟨u0, u1, u2⟩, hn2, hc2, _, _, _, _, hb2, _, _, harr2, _⟩ := h.first (k := 1) (by omega)
  simp only [Option.some.injEq, Addr.mk.injEq, and_true] at hbo
  obtain ⟨rfl, rfl⟩ := hbo
  have hxr : NA.right ⟨R, C, l⟩ := (h.all _ (List.mem_of_getElem? ha)).right
  have hxr2 : NA.right ⟨R2, C2, l2⟩ := (h.all _ (List.mem_of_getElem? ha2)).right
  have hcap := h.cap
  have hsm := h.small
  simp only [Nat.zero_mul, Nat.add_zero, Nat.one_mul] at v0 v1 v2 u0 u1 u2
  have hx0 : argN xs 0 = ⟨R, C, l⟩ := by unfold argN; rw [ha]
  have hx1 : argN xs 1 = ⟨R2, C2, l2⟩ := by unfold argN; rw [ha2]
  obtain ⟨r1, r2, r3, r4, r5⟩ := rightA_nat.1 hxr
  obtain ⟨s1, s2, s3, s4, s5⟩ := rightA_nat.1 hxr2
  simp only at r1 r2 r3 r4 s1 s2 s3 s4 s5
  have hln2 := harr2.len
  have hn24 : n2 ≤ 4096 := by omega
  have hln1 := harr.len
  have hsm1 := harr.small
  have hR4 : R ≤ 4096 := Nat.le_trans (Nat.le_mul_of_pos_right R r2) r3
  have hC4 : C2 ≤ 4096 := Nat.le_trans (Nat.le_mul_of_pos_left C2 s1) s3
  unfold productO
  rw [hx0, hx1]
  have H := Lib.hid h
  have HA := Lib.hid harr
  have HA2 := Lib.hid harr2
  have HT := Lib.hid htab
  obtain ⟨X, hX⟩ : ∃ X, multT ⟨R, C, l⟩ ⟨R2, C2, l2⟩ = X := ⟨_, rfl⟩
  rw [hX]
  have HX := Lib.hid hX
  clear h harr harr2 ha ha2 hx0 hx1 hX htab
  have hf1 := fun W (hW : ArrIn W (some ⟨b1, off1, none⟩) n1 cap1 l) => first_yes R C _ n1 cap1 l W hW hxr _ _ rfl rfl
  have hf2 := fun W (hW : ArrIn W (some ⟨b2, off2, none⟩) n2 cap2 l2) => first_yes R2 C2 _ n2 cap2 l2 W hW hxr2 _ _ rfl rfl
  go_enter Tryz.func45, Tryz.ntmps45
  go_upto_region 1 with fail
  go_cut [3, 4] (fun s3 s4 wx => ∃ pa pb : Nat, s3 = .pointer (some ⟨pa, 0, none⟩) ∧ s4 = .pointer (some ⟨pb, 0, none⟩) ∧ Ext w wx ∧ w.heap.size + 3 ≤ wx.heap.size ∧ wx.cell? ⟨pa, 0, none⟩ = some (.int .i64 (R : Int)) ∧ wx.cell? ⟨pa, 1, none⟩ = some (.int .i64 (C : Int)) ∧ wx.cell? ⟨pa, 2, none⟩ = some (.slice (some ⟨b1, off1, none⟩) n1 cap1) ∧ wx.cell? ⟨pb, 0, none⟩ = some (.int .i64 (R2 : Int)) ∧ wx.cell? ⟨pb, 1, none⟩ = some (.int .i64 (C2 : Int)) ∧ wx.cell? ⟨pb, 2, none⟩ = some (.slice (some ⟨b2, off2, none⟩) n2 cap2) ∧ Hid (∃ os d, wx = more (w.alloc (Obj.cells #[.int .i64 0, .int .i64 0, .slice none 0 0] 31)) os d))
  case first =>
    go_region
    · go_wp2_with fail
      go_meet
      refine ⟨_, _, rfl, rfl, by with_reducible repeat (first | exact Ext.refl _ | apply Ext.drew | apply Ext.alloc | apply Ext.more_), by simp, ?_, ?_, ?_, ?_, ?_, ?_, (show Ext (w.alloc (Obj.cells #[.int .i64 0, .int .i64 0, .slice none 0 0] 31)) _ from (by with_reducible repeat (first | exact Ext.refl _ | apply Ext.drew | apply Ext.alloc | apply Ext.more_))).more⟩
      all_goals (simp [go_sem]; done)
    · go_wp2_with fail
      go_meet
      refine ⟨_, _, rfl, rfl, by with_reducible repeat (first | exact Ext.refl _ | apply Ext.drew | apply Ext.alloc | apply Ext.more_), by simp, ?_, ?_, ?_, ?_, ?_, ?_, (show Ext (w.alloc (Obj.cells #[.int .i64 0, .int .i64 0, .slice none 0 0] 31)) _ from (by with_reducible repeat (first | exact Ext.refl _ | apply Ext.drew | apply Ext.alloc | apply Ext.more_))).more⟩
      all_goals (simp [go_sem]; done)
  case rest =>
  obtain ⟨pa, pb, rfl, rfl, hx, hsz, c0, c1, c2, e0, e1, e2, HU⟩ := hcut
  have la := lt_of_cell c0
  have lb := lt_of_cell e0
  replace v0 := hx.cell_some v0
  replace v1 := hx.cell_some v1
  replace v2 := hx.cell_some v2
  replace u0 := hx.cell_some u0
  replace u1 := hx.cell_some u1
  replace u2 := hx.cell_some u2
  have lv := lt_of_cell v0
  by_cases h0 : C = R2
  · have h0' : ((C : Int) != (R2 : Int)) = false := by simp; omega
    have H0 := Lib.hid h0
    clear h0
    cases q1 : firstF l with
    | some f =>
      obtain rfl : aloneO f = X := by rw [← HX.out]; exact (mult_fault1 (a := ⟨R, C, l⟩) (b := ⟨R2, C2, l2⟩) H0.out q1).symm
      rw [q1] at hf1
      simp only [Option.getD_some, Option.isSome_some] at hf1
      clear q1 HX hf2
      go_wp2_with fail
      refine wp_loop_rounds 1 ?_
      rw [rounds_succ]
      go_wp2_with (first | (go_at_call 95; (with_reducible refine (hf1 _ (HA.out.ext (hx.trans (by with_reducible repeat (first | exact Ext.refl _ | exact ext_d _ _ _ _ | exact ext_app _ _ _ _ _ | exact ext_app2 _ _ _ _ _ _ | exact ext_app3 _ _ _ _ _ _ _ | apply Ext.drew | apply Ext.alloc | apply Ext.more_))))).mono ?_); rintro e w' ⟨rfl, hb⟩; obtain ⟨osf, df, rfl⟩ := hb.more; clear hb) | ((go_at_call 32; (with_reducible refine (galone_any _ _).mono ?_); rintro e w' ⟨D, m, cc, rfl, hD, hb⟩; obtain ⟨os5, d5, rfl⟩ := hb.more; clear hb; have hDr := hD.rd); obtain ⟨osu, du, rfl⟩ := HU.out))
      exact bodyPost_ret (v := AV (aloneO f).R (aloneO f).C (.slice D m cc)) (by simp [results, Tryz.results45, go_sem]) rfl ⟨D, m, cc, rfl, ⟨(by (try simp only [more_alloc, more_more] at hDr); (try simp only [more_alloc, more_more]); (try simp only [drew_more] at hDr); (try simp only [more_drew] at hDr); (try simp only [Array.append_assoc] at hDr); (try simp only [Array.append_assoc]); exact Rd.swap hDr (by first | (simp; done) | (simp; omega) | omega) (by first | (simp; done) | (simp; omega) | omega) (by first | (simp; done) | (simp; omega) | omega)), hD.len, hD.cap, hD.small, hD.ok⟩, by with_reducible repeat (first | exact Ext.refl _ | apply Ext.drew | apply Ext.alloc | apply Ext.more_)⟩
    | none =>
      rw [q1] at hf1
      simp only [Option.getD_none, Option.isSome_none] at hf1
      cases q2 : firstF l2 with
      | some f =>
        obtain rfl : aloneO f = X := by rw [← HX.out]; exact (mult_fault2 (a := ⟨R, C, l⟩) (b := ⟨R2, C2, l2⟩) H0.out q1 q2).symm
        rw [q2] at hf2
        simp only [Option.getD_some, Option.isSome_some] at hf2
        clear q1 q2 HX
        go_wp2_with fail
        refine wp_loop_rounds 2 ?_
        rw [rounds_succ]
        go_wp2_with (first | (go_at_call 95; (with_reducible refine (hf1 _ (HA.out.ext (hx.trans (by with_reducible repeat (first | exact Ext.refl _ | exact ext_d _ _ _ _ | exact ext_app _ _ _ _ _ | exact ext_app2 _ _ _ _ _ _ | exact ext_app3 _ _ _ _ _ _ _ | apply Ext.drew | apply Ext.alloc | apply Ext.more_))))).mono ?_); rintro e w' ⟨rfl, hb⟩; obtain ⟨osf, df, rfl⟩ := hb.more; clear hb))
        rw [rounds_succ]
        go_wp2_with (first | (go_at_call 95; (with_reducible refine (hf2 _ (HA2.out.ext (hx.trans (by with_reducible repeat (first | exact Ext.refl _ | exact ext_d _ _ _ _ | exact ext_app _ _ _ _ _ | exact ext_app2 _ _ _ _ _ _ | exact ext_app3 _ _ _ _ _ _ _ | apply Ext.drew | apply Ext.alloc | apply Ext.more_))))).mono ?_); rintro e w' ⟨rfl, hb⟩; obtain ⟨osf, df, rfl⟩ := hb.more; clear hb) | ((go_at_call 32; (with_reducible refine (galone_any _ _).mono ?_); rintro e w' ⟨D, m, cc, rfl, hD, hb⟩; obtain ⟨os5, d5, rfl⟩ := hb.more; clear hb; have hDr := hD.rd); obtain ⟨osu, du, rfl⟩ := HU.out))
        exact bodyPost_ret (v := AV (aloneO f).R (aloneO f).C (.slice D m cc)) (by simp [results, Tryz.results45, go_sem]) rfl ⟨D, m, cc, rfl, ⟨(by (try simp only [more_alloc, more_more] at hDr); (try simp only [more_alloc, more_more]); (try simp only [drew_more] at hDr); (try simp only [more_drew] at hDr); (try simp only [Array.append_assoc] at hDr); (try simp only [Array.append_assoc]); exact Rd.swap hDr (by first | (simp; done) | (simp; omega) | omega) (by first | (simp; done) | (simp; omega) | omega) (by first | (simp; done) | (simp; omega) | omega)), hD.len, hD.cap, hD.small, hD.ok⟩, by with_reducible repeat (first | exact Ext.refl _ | apply Ext.drew | apply Ext.alloc | apply Ext.more_)⟩
      | none =>
        rw [q2] at hf2
        simp only [Option.getD_none, Option.isSome_none] at hf2
        have Q1 := Lib.hid q1
        have Q2 := Lib.hid q2
        clear q1 q2
        go_wp2_with fail
        refine wp_loop_rounds 3 ?_
        rw [rounds_succ]
        go_wp2_with (first | (go_at_call 95; (with_reducible refine (hf1 _ (HA.out.ext (hx.trans (by with_reducible repeat (first | exact Ext.refl _ | exact ext_d _ _ _ _ | exact ext_app _ _ _ _ _ | exact ext_app2 _ _ _ _ _ _ | exact ext_app3 _ _ _ _ _ _ _ | apply Ext.drew | apply Ext.alloc | apply Ext.more_))))).mono ?_); rintro e w' ⟨rfl, hb⟩; obtain ⟨osf, df, rfl⟩ := hb.more; clear hb))
        rw [rounds_succ]
        go_wp2_with (first | (go_at_call 95; (with_reducible refine (hf2 _ (HA2.out.ext (hx.trans (by with_reducible repeat (first | exact Ext.refl _ | exact ext_d _ _ _ _ | exact ext_app _ _ _ _ _ | exact ext_app2 _ _ _ _ _ _ | exact ext_app3 _ _ _ _ _ _ _ | apply Ext.drew | apply Ext.alloc | apply Ext.more_))))).mono ?_); rintro e w' ⟨rfl, hb⟩; obtain ⟨osf, df, rfl⟩ := hb.more; clear hb))
        rw [rounds_succ]
        go_wp2_with fail
        refine wp_world fun wd hd => ?_
        have hxd : Ext wc wd := by rw [hd]; exact (by with_reducible repeat (first | exact Ext.refl _ | apply Ext.drew | apply Ext.alloc | apply Ext.more_))
        replace hx := hx.trans hxd
        replace c0 := hxd.cell_some c0
        replace c1 := hxd.cell_some c1
        replace c2 := hxd.cell_some c2
        replace e0 := hxd.cell_some e0
        replace e1 := hxd.cell_some e1
        replace e2 := hxd.cell_some e2
        replace v0 := hxd.cell_some v0
        replace v1 := hxd.cell_some v1
        replace v2 := hxd.cell_some v2
        replace u0 := hxd.cell_some u0
        replace u1 := hxd.cell_some u1
        replace u2 := hxd.cell_some u2
        replace la := lt_of_cell c0
        replace lb := lt_of_cell e0
        replace lv := lt_of_cell v0
        replace HU : Hid (∃ os d, wd = more (w.alloc (Obj.cells #[.int .i64 0, .int .i64 0, .slice none 0 0] 31)) os d) := Lib.hid (by obtain ⟨o1, d1, h1⟩ := HU.out; rw [h1] at hxd; exact Ext.more ((ext_more _ _ _).trans hxd))
        clear hd hxd
        refine wp_loop_rounds 3 ?_
        rw [rounds_succ]
        go_wp2_with fail
        go_loopw [54] (fun i wr => ∃ k : Nat, k ≤ n1 ∧ i = .int .i64 (k : Int) ∧ Ext wd wr ∧ Hid (∀ j y, j < k → l[j]? = some y → y.kind = 1)) (fun i _ => n1 - (intOf i).toNat)
        case atStart => exact ⟨0, Nat.zero_le _, rfl, by with_reducible repeat (first | exact Ext.refl _ | apply Ext.drew | apply Ext.alloc | apply Ext.more_), fun j y hj => absurd hj (Nat.not_lt_zero _)⟩
        case round =>
          obtain ⟨k, hk, rfl, hX, HK⟩ := hrel
          have hX0 := hX
          obtain ⟨os, d, rfl⟩ := hX.more
          clear hX
          by_cases hlt : k < n1
          · have hlt' : (k : Int) < (n1 : Int) := by omega
            obtain ⟨x, bq, oq, hxk, hxo, hbq, hat⟩ := HA.out.at hlt
            simp only [Option.some.injEq, Addr.mk.injEq, and_true] at hbq
            obtain ⟨rfl, rfl⟩ := hbq
            obtain ⟨y0, y1, y2, y3, y4, y5⟩ := hat.ext hx
            have lx := lt_of_cell y0
            by_cases hkk : x.kind = 1
            · have hkk' : (x.kind != 1) = false := by simpa using hkk
              have HK2 : Hid (∀ j y, j < k + 1 → l[j]? = some y → y.kind = 1) := fun j y hj hy => by
                by_cases e : j = k
                · subst e; rw [hxk] at hy; obtain rfl : x = y := by simpa using hy
                  exact hkk
                · exact HK.out j y (by omega) hy
              clear hkk hxk hxo hat HX
              go_wp2_with fail
              exact ⟨⟨k + 1, by omega, by go_num, by with_reducible repeat (first | exact Ext.refl _ | apply Ext.drew | apply Ext.alloc | apply Ext.more_), HK2⟩, by simp [intOf]; omega⟩
            · have hkk' : (x.kind != 1) = true := by simpa using hkk
              obtain rfl : aloneO 2 = X := by rw [← HX.out]; exact (mult_kind (a := ⟨R, C, l⟩) (b := ⟨R2, C2, l2⟩) H0.out Q1.out Q2.out (List.mem_append_left _ (List.mem_of_getElem? hxk)) hkk).symm
              clear hkk hxk hxo hat HX
              go_wp2_with ((go_at_call 32; (with_reducible refine (galone_any _ _).mono ?_); rintro e w' ⟨D, m, cc, rfl, hD, hb⟩; obtain ⟨os5, d5, rfl⟩ := hb.more; clear hb; have hDr := hD.rd); obtain ⟨osu, du, rfl⟩ := HU.out)
              exact bodyPost_ret (v := AV (aloneO 2).R (aloneO 2).C (.slice D m cc)) (by simp [results, Tryz.results45, go_sem]) rfl ⟨D, m, cc, rfl, ⟨(by (try simp only [more_alloc, more_more] at hDr); (try simp only [more_alloc, more_more]); (try simp only [drew_more] at hDr); (try simp only [more_drew] at hDr); (try simp only [Array.append_assoc] at hDr); (try simp only [Array.append_assoc]); exact Rd.swap hDr (by first | (simp; done) | (simp; omega) | omega) (by first | (simp; done) | (simp; omega) | omega) (by first | (simp; done) | (simp; omega) | omega)), hD.len, hD.cap, hD.small, hD.ok⟩, by with_reducible repeat (first | exact Ext.refl _ | apply Ext.drew | apply Ext.alloc | apply Ext.more_)⟩
          · have HNn1 : Hid (∀ y ∈ l, y.kind = 1) := fun y hy => by
              obtain ⟨j, hj, rfl⟩ := List.mem_iff_getElem.1 hy
              exact HK.out j _ (by omega) (List.getElem?_eq_getElem hj)
            clear HK
            go_wp2_with fail
            rw [rounds_succ]
            go_wp2_with fail
            go_loopw [54] (fun i wr => ∃ k : Nat, k ≤ n2 ∧ i = .int .i64 (k : Int) ∧ Ext wd wr ∧ Hid (∀ j y, j < k → l2[j]? = some y → y.kind = 1)) (fun i _ => n2 - (intOf i).toNat)
            case atStart => exact ⟨0, Nat.zero_le _, rfl, by with_reducible repeat (first | exact Ext.refl _ | apply Ext.drew | apply Ext.alloc | apply Ext.more_), fun j y hj => absurd hj (Nat.not_lt_zero _)⟩
            case round =>
              obtain ⟨k, hk, rfl, hX, HK⟩ := hrel
              have hX0 := hX
              obtain ⟨os, d, rfl⟩ := hX.more
              clear hX
              by_cases hlt : k < n2
              · have hlt' : (k : Int) < (n2 : Int) := by omega
                obtain ⟨x, bq, oq, hxk, hxo, hbq, hat⟩ := HA2.out.at hlt
                simp only [Option.some.injEq, Addr.mk.injEq, and_true] at hbq
                obtain ⟨rfl, rfl⟩ := hbq
                obtain ⟨y0, y1, y2, y3, y4, y5⟩ := hat.ext hx
                have lx := lt_of_cell y0
                by_cases hkk : x.kind = 1
                · have hkk' : (x.kind != 1) = false := by simpa using hkk
                  have HK2 : Hid (∀ j y, j < k + 1 → l2[j]? = some y → y.kind = 1) := fun j y hj hy => by
                    by_cases e : j = k
                    · subst e; rw [hxk] at hy; obtain rfl : x = y := by simpa using hy
                      exact hkk
                    · exact HK.out j y (by omega) hy
                  clear hkk hxk hxo hat HX
                  go_wp2_with fail
                  exact ⟨⟨k + 1, by omega, by go_num, by with_reducible repeat (first | exact Ext.refl _ | apply Ext.drew | apply Ext.alloc | apply Ext.more_), HK2⟩, by simp [intOf]; omega⟩
                · have hkk' : (x.kind != 1) = true := by simpa using hkk
                  obtain rfl : aloneO 2 = X := by rw [← HX.out]; exact (mult_kind (a := ⟨R, C, l⟩) (b := ⟨R2, C2, l2⟩) H0.out Q1.out Q2.out (List.mem_append_right _ (List.mem_of_getElem? hxk)) hkk).symm
                  clear hkk hxk hxo hat HX
                  go_wp2_with ((go_at_call 32; (with_reducible refine (galone_any _ _).mono ?_); rintro e w' ⟨D, m, cc, rfl, hD, hb⟩; obtain ⟨os5, d5, rfl⟩ := hb.more; clear hb; have hDr := hD.rd); obtain ⟨osu, du, rfl⟩ := HU.out)
                  exact bodyPost_ret (v := AV (aloneO 2).R (aloneO 2).C (.slice D m cc)) (by simp [results, Tryz.results45, go_sem]) rfl ⟨D, m, cc, rfl, ⟨(by (try simp only [more_alloc, more_more] at hDr); (try simp only [more_alloc, more_more]); (try simp only [drew_more] at hDr); (try simp only [more_drew] at hDr); (try simp only [Array.append_assoc] at hDr); (try simp only [Array.append_assoc]); exact Rd.swap hDr (by first | (simp; done) | (simp; omega) | omega) (by first | (simp; done) | (simp; omega) | omega) (by first | (simp; done) | (simp; omega) | omega)), hD.len, hD.cap, hD.small, hD.ok⟩, by with_reducible repeat (first | exact Ext.refl _ | apply Ext.drew | apply Ext.alloc | apply Ext.more_)⟩
              · have HNn2 : Hid (∀ y ∈ l2, y.kind = 1) := fun y hy => by
                  obtain ⟨j, hj, rfl⟩ := List.mem_iff_getElem.1 hy
                  exact HK.out j _ (by omega) (List.getElem?_eq_getElem hj)
                clear HK
                go_wp2_with fail
                rw [rounds_succ]
                go_upto_region 21 with fail
                refine wp_world fun wm hd => ?_
                have hxd : Ext wd wm := by rw [hd]; exact (by with_reducible repeat (first | exact Ext.refl _ | apply Ext.drew | apply Ext.alloc | apply Ext.more_))
                replace hx := hx.trans hxd
                replace c0 := hxd.cell_some c0
                replace c1 := hxd.cell_some c1
                replace c2 := hxd.cell_some c2
                replace e0 := hxd.cell_some e0
                replace e1 := hxd.cell_some e1
                replace e2 := hxd.cell_some e2
                replace v0 := hxd.cell_some v0
                replace v1 := hxd.cell_some v1
                replace v2 := hxd.cell_some v2
                replace u0 := hxd.cell_some u0
                replace u1 := hxd.cell_some u1
                replace u2 := hxd.cell_some u2
                replace la := lt_of_cell c0
                replace lb := lt_of_cell e0
                replace lv := lt_of_cell v0
                replace HU : Hid (∃ os d, wm = more (w.alloc (Obj.cells #[.int .i64 0, .int .i64 0, .slice none 0 0] 31)) os d) := Lib.hid (by obtain ⟨o1, d1, h1⟩ := HU.out; rw [h1] at hxd; exact Ext.more ((ext_more _ _ _).trans hxd))
                clear hd hxd
                have hw0 : IntKind.i64.wrap ((R : Int) * (C2 : Int)) = ((R * C2 : Nat) : Int) := by
                  have := Nat.mul_le_mul hR4 hC4
                  rw [IntKind.wrap_i64, ← Int.natCast_mul]; omega
                have hkinds : ∀ x ∈ l ++ l2, x.kind = 1 := fun x hx => (List.mem_append.1 hx).elim (HNn1.out x) (HNn2.out x)
                by_cases hg : 4096 < R * C2
                · obtain rfl : aloneO 5 = X := by rw [← HX.out]; exact (mult_great (a := ⟨R, C, l⟩) (b := ⟨R2, C2, l2⟩) H0.out Q1.out Q2.out hkinds hg).symm
                  have hg' : (4096 : Int) < ((R * C2 : Nat) : Int) := by omega
                  generalize R * C2 = N at *
                  clear HX hkinds
                  go_wp2_with ((go_at_call 32; (with_reducible refine (galone_any _ _).mono ?_); rintro e w' ⟨D, m, cc, rfl, hD, hb⟩; obtain ⟨os5, d5, rfl⟩ := hb.more; clear hb; have hDr := hD.rd); obtain ⟨osu, du, rfl⟩ := HU.out)
                  exact bodyPost_ret (v := AV (aloneO 5).R (aloneO 5).C (.slice D m cc)) (by simp [results, Tryz.results45, go_sem]) rfl ⟨D, m, cc, rfl, ⟨(by (try simp only [more_alloc, more_more] at hDr); (try simp only [more_alloc, more_more]); (try simp only [drew_more] at hDr); (try simp only [more_drew] at hDr); (try simp only [Array.append_assoc] at hDr); (try simp only [Array.append_assoc]); exact Rd.swap hDr (by first | (simp; done) | (simp; omega) | omega) (by first | (simp; done) | (simp; omega) | omega) (by first | (simp; done) | (simp; omega) | omega)), hD.len, hD.cap, hD.small, hD.ok⟩, by with_reducible repeat (first | exact Ext.refl _ | apply Ext.drew | apply Ext.alloc | apply Ext.more_)⟩
                · have HX2 := Lib.hid ((mult_prod (a := ⟨R, C, l⟩) (b := ⟨R2, C2, l2⟩) H0.out Q1.out Q2.out hkinds hg).symm.trans HX.out)
                  have hm : R * C2 ≤ 4096 := by omega
                  have hmk := make_vals (R * C2) hm
                  have hmo := made_own wm wm.heap.size (R * C2) hm (Nat.le_refl _)
                  obtain ⟨i0, hi0, hz0, hz1, hz2⟩ := info_parts info_val
                  have hg' : ¬ (4096 : Int) < ((R * C2 : Nat) : Int) := by omega
                  obtain ⟨N, hN⟩ : ∃ N, R * C2 = N := ⟨_, rfl⟩
                  rw [hN] at hw0 hm hmk hmo hg'
                  have HN := Lib.hid hN
                  clear hg hN HX hkinds HNn1 HNn2 Q1 Q2
                  go_wp2_with fail
                  go_loopw [13, 79] (fun v i wr => ∃ r : Nat, r ≤ R ∧ i = .int .i64 (r : Int) ∧ Hid (∃ L, prodO ⟨R, C, l⟩ ⟨R2, C2, l2⟩ (r * C2) = some L ∧ wr.ownsRow wm.heap.size 43 6 v (r * C2) (vcells L)) ∧ Ext wm wr) (fun _ i _ => R - (intOf i).toNat)
                  case atStart =>
                    have h0 : 0 * C2 = 0 := Nat.zero_mul C2
                    refine ⟨0, Nat.zero_le _, rfl, ?_, (Ext.refl _).alloc _⟩
                    show ∃ L, _ ∧ World.ownsRow _ _ _ _ _ _ _
                    rw [h0]
                    refine ⟨[], rfl, ?_⟩
                    simpa [vcells_nil] using hmo
                  case round =>
                    obtain ⟨r, hk, rfl, HW, hxl⟩ := hrel
                    clear hmo
                    by_cases hlt : r < R
                    · have hlt' : (r : Int) < (R : Int) := by omega
                      obtain ⟨m1, m2⟩ := lt_mul hlt (by rw [HN.out]; exact hm)
                      have hrM : r * C2 + C2 ≤ N := by rw [← HN.out]; exact m1
                      have hrM := Lib.hid hrM
                      clear m1 m2
                      go_upto_region 27 with fail
                      refine wp_world fun wq hq => ?_
                      have hxq : Ext wm wq := by rw [hq]; exact hxl
                      have HW : Hid (∃ L, prodO ⟨R, C, l⟩ ⟨R2, C2, l2⟩ (r * C2) = some L ∧ wq.ownsRow wm.heap.size 43 6 u13 (r * C2) (vcells L)) := by rw [hq]; exact HW
                      clear hq hxl
                      obtain ⟨osq, dq, rfl⟩ := hxq.more
                      go_wp2_with fail
                      go_loopw [13, 84] (fun v i wr => ∃ j : Nat, j ≤ C2 ∧ i = .int .i64 (j : Int) ∧ Hid (∃ L, prodO ⟨R, C, l⟩ ⟨R2, C2, l2⟩ (r * C2 + j) = some L ∧ wr.ownsRow wm.heap.size 43 6 v (r * C2 + j) (vcells L)) ∧ Ext wm wr) (fun _ i _ => C2 - (intOf i).toNat)
                      case atStart => exact ⟨0, Nat.zero_le _, rfl, HW, hxq⟩
                      case round =>
                        obtain ⟨j, hj, rfl, HV, hxv⟩ := hrel
                        clear HW
                        have hsz := hxv.size
                        have hxv0 := hxv
                        obtain ⟨os, d, rfl⟩ := hxv.more
                        clear hxv
                        by_cases hjC : j < C2
                        · have hjC' : (j : Int) < (C2 : Int) := by omega
                          obtain ⟨L, hL, hO⟩ := HV.out
                          have gp : ∀ W, Tab W → ArrIn W (some ⟨b1, off1, none⟩) n1 cap1 l → ArrIn W (some ⟨b2, off2, none⟩) n2 cap2 l2 → Calls Tryz.prog 96 #[AV R C (.slice (some ⟨b1, off1, none⟩) n1 cap1), AV R2 C2 (.slice (some ⟨b2, off2, none⟩) n2 cap2), .int .i64 (r : Int), .int .i64 (j : Int)] W fun e w' => (∃ m ex ok, e = .returned (.tuple #[NV m ex, .bool ok]) ∧ DotIs ⟨R, C, l⟩ ⟨R2, C2, l2⟩ r j C ok m ex) ∧ Ext W w' := fun W hT h1 h2 => gprod_any ⟨R, C, l⟩ ⟨R2, C2, l2⟩ _ _ n1 cap1 n2 cap2 r j W hT h1 h2 hxr hxr2 H0.out hlt hjC
                          have HOn := Lib.hid hO
                          clear HV hO
                          cases hd : dotS ⟨R, C, l⟩ ⟨R2, C2, l2⟩ r j (C - 1) with
                          | none =>
                            obtain rfl : aloneO 5 = X := by
                              have := HX2.out
                              rw [prod_none (a := ⟨R, C, l⟩) (b := ⟨R2, C2, l2⟩) hjC hlt hL hd] at this
                              exact this
                            have gp2 : ∀ W, Tab W → ArrIn W (some ⟨b1, off1, none⟩) n1 cap1 l → ArrIn W (some ⟨b2, off2, none⟩) n2 cap2 l2 → Calls Tryz.prog 96 #[AV R C (.slice (some ⟨b1, off1, none⟩) n1 cap1), AV R2 C2 (.slice (some ⟨b2, off2, none⟩) n2 cap2), .int .i64 (r : Int), .int .i64 (j : Int)] W fun e w' => ∃ m ex, e = .returned (.tuple #[NV m ex, .bool false]) ∧ Ext W w' := fun W hT h1 h2 => (gp W hT h1 h2).mono fun e w' ⟨⟨m, ex, ok, h3, h4⟩, h5⟩ => by
                              rcases h4 with ⟨_, h4⟩ | ⟨h4, _⟩
                              · exact absurd (hd.symm.trans h4) (by simp)
                              · rw [h4] at h3; exact ⟨m, ex, h3, h5⟩
                            clear gp hd hL HX2
                            go_wp2_with (first | (go_at_call 96; (with_reducible refine (gp2 _ (HT.out.ext (hx.trans (hxv0.trans (by with_reducible repeat (first | exact Ext.refl _ | exact ext_d _ _ _ _ | exact ext_app _ _ _ _ _ | exact ext_app2 _ _ _ _ _ _ | exact ext_app3 _ _ _ _ _ _ _ | apply Ext.drew | apply Ext.alloc | apply Ext.more_))))) (HA.out.ext (hx.trans (hxv0.trans (by with_reducible repeat (first | exact Ext.refl _ | exact ext_d _ _ _ _ | exact ext_app _ _ _ _ _ | exact ext_app2 _ _ _ _ _ _ | exact ext_app3 _ _ _ _ _ _ _ | apply Ext.drew | apply Ext.alloc | apply Ext.more_))))) (HA2.out.ext (hx.trans (hxv0.trans (by with_reducible repeat (first | exact Ext.refl _ | exact ext_d _ _ _ _ | exact ext_app _ _ _ _ _ | exact ext_app2 _ _ _ _ _ _ | exact ext_app3 _ _ _ _ _ _ _ | apply Ext.drew | apply Ext.alloc | apply Ext.more_)))))).mono ?_); rintro e w' ⟨m, ex, rfl, hb⟩; obtain ⟨osp, dp, rfl⟩ := hb.more; clear hb) | ((go_at_call 32; (with_reducible refine (galone_any _ _).mono ?_); rintro e w' ⟨D, m, cc, rfl, hD, hb⟩; obtain ⟨os5, d5, rfl⟩ := hb.more; clear hb; have hDr := hD.rd); obtain ⟨osu, du, rfl⟩ := HU.out))
                            exact bodyPost_ret (v := AV (aloneO 5).R (aloneO 5).C (.slice D m cc)) (by simp [results, Tryz.results45, go_sem]) rfl ⟨D, m, cc, rfl, ⟨(by (try simp only [more_alloc, more_more] at hDr); (try simp only [more_alloc, more_more]); (try simp only [drew_more] at hDr); (try simp only [more_drew] at hDr); (try simp only [Array.append_assoc] at hDr); (try simp only [Array.append_assoc]); exact Rd.swap hDr (by first | (simp; done) | (simp; omega) | omega) (by first | (simp; done) | (simp; omega) | omega) (by first | (simp; done) | (simp; omega) | omega)), hD.len, hD.cap, hD.small, hD.ok⟩, by with_reducible repeat (first | exact Ext.refl _ | apply Ext.drew | apply Ext.alloc | apply Ext.more_)⟩
                          | some q =>
                            obtain ⟨qm, qe⟩ := q
                            have gp2 : ∀ W, Tab W → ArrIn W (some ⟨b1, off1, none⟩) n1 cap1 l → ArrIn W (some ⟨b2, off2, none⟩) n2 cap2 l2 → Calls Tryz.prog 96 #[AV R C (.slice (some ⟨b1, off1, none⟩) n1 cap1), AV R2 C2 (.slice (some ⟨b2, off2, none⟩) n2 cap2), .int .i64 (r : Int), .int .i64 (j : Int)] W fun e w' => e = .returned (.tuple #[NV qm qe, .bool true]) ∧ Ext W w' := fun W hT h1 h2 => (gp W hT h1 h2).mono fun e w' ⟨⟨m, ex, ok, h3, h4⟩, h5⟩ => by
                              rcases h4 with ⟨h4, h6⟩ | ⟨_, h4⟩
                              · have h7 := hd.symm.trans h6
                                simp only [Option.some.injEq, Prod.mk.injEq] at h7
                                obtain ⟨rfl, rfl⟩ := h7
                                rw [h4] at h3; exact ⟨h3, h5⟩
                              · exact absurd (hd.symm.trans h4) (by simp)
                            have HL2 := Lib.hid (prod_some (a := ⟨R, C, l⟩) (b := ⟨R2, C2, l2⟩) hjC hL hd)
                            clear gp hd hL HX2
                            go_wp2_with (first | (go_at_call 96; (with_reducible refine (gp2 _ (HT.out.ext (hx.trans (hxv0.trans (by with_reducible repeat (first | exact Ext.refl _ | exact ext_d _ _ _ _ | exact ext_app _ _ _ _ _ | exact ext_app2 _ _ _ _ _ _ | exact ext_app3 _ _ _ _ _ _ _ | apply Ext.drew | apply Ext.alloc | apply Ext.more_))))) (HA.out.ext (hx.trans (hxv0.trans (by with_reducible repeat (first | exact Ext.refl _ | exact ext_d _ _ _ _ | exact ext_app _ _ _ _ _ | exact ext_app2 _ _ _ _ _ _ | exact ext_app3 _ _ _ _ _ _ _ | apply Ext.drew | apply Ext.alloc | apply Ext.more_))))) (HA2.out.ext (hx.trans (hxv0.trans (by with_reducible repeat (first | exact Ext.refl _ | exact ext_d _ _ _ _ | exact ext_app _ _ _ _ _ | exact ext_app2 _ _ _ _ _ _ | exact ext_app3 _ _ _ _ _ _ _ | apply Ext.drew | apply Ext.alloc | apply Ext.more_)))))).mono ?_); rintro e w' ⟨rfl, hb⟩; obtain ⟨osp, dp, rfl⟩ := hb.more; clear hb) | (go_at_call 83; (with_reducible refine (of_any _ _ _).mono ?_); rintro e w' ⟨rfl, hb⟩; obtain ⟨oso, do_, rfl⟩ := hb.more; clear hb) | (at_builtin; refine wpList_append_own _ rfl _ _ _ rfl wm.heap.size 43 i0 (VV 0 0 0 ⟨#[]⟩ false 0) 6 56 Tryz.underlying29 hi0 hz0 hz1 hz2 rfl (by decide) _ (r * C2 + j) _ rfl (own_ext HOn.out (by with_reducible repeat (first | exact Ext.refl _ | exact ext_d _ _ _ _ | exact ext_app _ _ _ _ _ | exact ext_app2 _ _ _ _ _ _ | exact ext_app3 _ _ _ _ _ _ _ | apply Ext.drew | apply Ext.alloc | apply Ext.more_))) _ 1 1 (Val.cells ⟨1, qm, qe, ⟨#[]⟩, false, 0⟩) rfl rfl (new_cells_at _ _ _ (by simp) rfl _) (fun u hu => vcells_one (l := [⟨1, qm, qe, ⟨#[]⟩, false, 0⟩]) u (by simpa [vcells] using hu)) (by have := hrM.out; simp only [maxLen]; omega) (by have := hrM.out; omega) (by simp; omega) ?_; intro v4 w4 ho4 hg4 _))
                            have hx4 := ext_grownN (X := wm) (by with_reducible repeat (first | exact Ext.refl _ | apply Ext.drew | apply Ext.alloc | apply Ext.more_)) (own_ext HOn.out (by with_reducible repeat (first | exact Ext.refl _ | exact ext_d _ _ _ _ | exact ext_app _ _ _ _ _ | exact ext_app2 _ _ _ _ _ _ | exact ext_app3 _ _ _ _ _ _ _ | apply Ext.drew | apply Ext.alloc | apply Ext.more_))) hg4
                            refine ⟨⟨j + 1, by omega, by go_num, ?_, hx4⟩, by simp [intOf]; omega⟩
                            refine Lib.hid ⟨_, HL2.out, ?_⟩
                            rw [← Nat.add_assoc, vcells_append]
                            simpa [vcells] using ho4
                        · obtain rfl : j = C2 := by omega
                          go_wp2_with fail
                          refine ⟨⟨r + 1, by omega, by go_num, ?_, hxv0⟩, by simp [intOf]; omega⟩
                          rw [show (r + 1) * j = r * j + j by rw [Nat.add_mul, Nat.one_mul]]
                          exact HV
                    · obtain rfl : r = R := by omega
                      obtain ⟨L, hL, hO⟩ := HW.out
                      rw [HN.out] at hL hO
                      have hXe : (⟨r, C2, L⟩ : NA) = X := by
                        have := HX2.out
                        rw [show (⟨r, C, l⟩ : NA).R * (⟨R2, C2, l2⟩ : NA).C = N from HN.out, hL] at this
                        exact this
                      have hLok : ∀ x ∈ L, x.ok := fun x hx => (prod_right (a := ⟨r, C, l⟩) (b := ⟨R2, C2, l2⟩) hL x hx).ok
                      obtain ⟨D, cc, rfl, hD⟩ := own_arrN (n := N) (w := wm) (X := wm) hO (Nat.le_refl _) (by omega) hLok
                      obtain ⟨os, d, rfl⟩ := hxl.more
                      clear hxl HW hO HX2
                      go_wp2_with (go_at_call 51; (with_reducible refine (made_any _ _ _ _ _ _).mono ?_); rintro e w' ⟨rfl, hb⟩; have hDr := Rd.ext hD.rd hb; obtain ⟨os6, d6, rfl⟩ := hb.more; clear hb; obtain ⟨osu, du, rfl⟩ := HU.out)
                      subst hXe
                      exact bodyPost_ret (v := AV r C2 (.slice D N cc)) (by simp [results, Tryz.results45, go_sem]) rfl ⟨D, N, cc, rfl, ⟨(by (try simp only [more_alloc, more_more] at hDr); (try simp only [more_alloc, more_more]); (try simp only [drew_more] at hDr); (try simp only [more_drew] at hDr); (try simp only [Array.append_assoc] at hDr); (try simp only [Array.append_assoc]); exact Rd.swap hDr (by first | (simp; done) | (simp; omega) | omega) (by first | (simp; done) | (simp; omega) | omega) (by first | (simp; done) | (simp; omega) | omega)), hD.len, hD.cap, hD.small, hD.ok⟩, by with_reducible repeat (first | exact Ext.refl _ | apply Ext.drew | apply Ext.alloc | apply Ext.more_)⟩
  · obtain rfl : aloneO 2 = X := by rw [← HX.out]; unfold multT; rw [if_pos h0]
    have h0' : ((C : Int) != (R2 : Int)) = true := by simp; omega
    clear h0
    go_wp2_with ((go_at_call 32; (with_reducible refine (galone_any _ _).mono ?_); rintro e w' ⟨D, m, cc, rfl, hD, hb⟩; obtain ⟨os5, d5, rfl⟩ := hb.more; clear hb; have hDr := hD.rd); obtain ⟨osu, du, rfl⟩ := HU.out)
    exact bodyPost_ret (v := AV (aloneO 2).R (aloneO 2).C (.slice D m cc)) (by simp [results, Tryz.results45, go_sem]) rfl ⟨D, m, cc, rfl, ⟨(by (try simp only [more_alloc, more_more] at hDr); (try simp only [more_alloc, more_more]); (try simp only [drew_more] at hDr); (try simp only [more_drew] at hDr); (try simp only [Array.append_assoc] at hDr); (try simp only [Array.append_assoc]); exact Rd.swap hDr (by first | (simp; done) | (simp; omega) | omega) (by first | (simp; done) | (simp; omega) | omega) (by first | (simp; done) | (simp; omega) | omega)), hD.len, hD.cap, hD.small, hD.ok⟩, by with_reducible repeat (first | exact Ext.refl _ | apply Ext.drew | apply Ext.alloc | apply Ext.more_)⟩
end Go.Proofs.YtfpaalkllfbeoaaGreatDoor
namespace Go.Proofs.YtfpaalkllfbeoaaGreatDoor
open Go.RowKit NM
/-- A sum of so many products, as the document keeps it. -/
def SumIs (a b : NA) (i j k : Nat) (m e : Int) : Prop := (k = 0 ∧ m = 0 ∧ e = 0) ∨ ∃ k', k = k' + 1 ∧ dotS a b i j k' = some (m, e)
theorem own_lt {w : World} {base : Nat} {e : TypeId} {size n : Nat} {v : Value} {xs : List Value} (h : w.ownsRow base e size v n xs) : ∀ k, v.ownBlock = some k → k < w.heap.size := by
  intro k hk
  rcases h.2 with ⟨rfl, _⟩ | ⟨g, cap, cur, rfl, hg, hh, _⟩
  · cases hk
  · simp only [Value.ownBlock, Option.some.injEq] at hk
    subst hk; exact lt_of_block hh
theorem own_empty6 {w : World} {n : Nat} {ty : TypeId} {cs : Array Value} (hn : n = w.heap.size) (hc : cs = #[]) : (w.alloc (.cells cs ty)).ownsRow w.heap.size ty 6 (.slice (some ⟨n, 0, none⟩) 0 0) 0 [] := by
  subst hn hc
  exact ⟨rfl, Or.inr ⟨w.heap.size, 0, _, rfl, Nat.le_refl _, Array.getElem?_push_size, Nat.le_refl _, by decide, by simp, by simp⟩⟩
theorem firstF_bd : ∀ {l : List Val} {f : Int}, (∀ x ∈ l, x.right) → firstF l = some f → 1 ≤ f ∧ f ≤ 9
  | [], f, _, h => by cases h
  | x :: l, f, hr, h => by
    unfold firstF at h
    split at h
    · rename_i hk
      obtain rfl : x.fault = f := by simpa using h
      exact (right_cases (hr x (by simp))).2.2.2 hk
    · exact firstF_bd (fun y hy => hr y (List.mem_cons_of_mem _ hy)) h
@[go_sem] theorem run_field_Num (k m e : Int) (t : ByteArray) (b : Bool) (f : Int) (w : World) : (Instr.field 43 (VV k m e t b f) 1).run Tryz.prog w = .ok (NV m e) w := by kernel_rfl
theorem row_ext {w w1 : World} {p : Nat} {o : Obj} (h : w.heap[p]? = some o) (hx : Ext w w1) : w1.heap[p]? = some o := by rw [hx.block (lt_of_block h)]; exact h
set_option maxHeartbeats 8000000 in
theorem rmult_run (R C R2 C2 : Nat) (l l2 : List Val) (A1 A2 : Option Addr) (n1 cap1 n2 cap2 : Nat) (w : World) (h1 : ArrIn w A1 n1 cap1 l) (h2 : ArrIn w A2 n2 cap2 l2) (hxr : NA.right ⟨R, C, l⟩) (hxr2 : NA.right ⟨R2, C2, l2⟩) (h0 : C = R2) (q1 : firstF l = none) (q2 : firstF l2 = none) :
    Calls Tryz.prog 69 #[AV R C (.slice A1 n1 cap1), AV R2 C2 (.slice A2 n2 cap2)] w fun e w' => ResA w (multT ⟨R, C, l⟩ ⟨R2, C2, l2⟩) e w' := by
  obtain ⟨r1, r2, r3, r4, r5⟩ := rightA_nat.1 hxr
  obtain ⟨s1, s2, s3, s4, s5⟩ := rightA_nat.1 hxr2
  simp only at r1 r2 r3 r4 r5 s1 s2 s3 s4 s5
  have hln1 := h1.len
  have hln2 := h2.len
  have hR4 : R ≤ 4096 := Nat.le_trans (Nat.le_mul_of_pos_right R r2) r3
  have hC4 : C2 ≤ 4096 := Nat.le_trans (Nat.le_mul_of_pos_left C2 s1) s3
  have hCC4 : C ≤ 4096 := Nat.le_trans (Nat.le_mul_of_pos_left C r1) r3
  obtain ⟨xa, b1, off1, _, _, hA1, _⟩ := h1.at (k := 0) (by have := Nat.mul_pos r1 r2; omega)
  obtain ⟨xb, b2, off2, _, _, hA2, _⟩ := h2.at (k := 0) (by have := Nat.mul_pos s1 s2; omega)
  subst hA1 hA2
  have hf1 := fun W (hW : ArrIn W (some ⟨b1, off1, none⟩) n1 cap1 l) => refFirst_any R C _ n1 cap1 l W hW _ rfl
  have hf2 := fun W (hW : ArrIn W (some ⟨b2, off2, none⟩) n2 cap2 l2) => refFirst_any R2 C2 _ n2 cap2 l2 W hW _ rfl
  have HA := Lib.hid h1
  have HA2 := Lib.hid h2
  obtain ⟨X, hX⟩ : ∃ X, multT ⟨R, C, l⟩ ⟨R2, C2, l2⟩ = X := ⟨_, rfl⟩
  rw [hX]
  have HX := Lib.hid hX
  clear h1 h2 hX
  have h0' : ((C : Int) != (R2 : Int)) = false := by simp; omega
  have H0 := Lib.hid h0
  clear h0
  rw [q1] at hf1
  simp only [Option.getD_none] at hf1
  rw [q2] at hf2
  simp only [Option.getD_none] at hf2
  have Q1 := Lib.hid q1
  have Q2 := Lib.hid q2
  clear q1 q2
  go_enter Tryz.func69, Tryz.ntmps69
  go_upto_region 8 with (first | (have _t := osf; clear _t; (go_at_call 120; (with_reducible refine (hf2 _ (HA2.out.ext (by with_reducible repeat (first | exact Ext.refl _ | exact ext_d _ _ _ _ | exact ext_app _ _ _ _ _ | exact ext_app2 _ _ _ _ _ _ | exact ext_app3 _ _ _ _ _ _ _ | apply Ext.drew | apply Ext.alloc | apply Ext.more_)))).mono ?_); rintro e w' ⟨rfl, hb⟩; obtain ⟨osf, df, rfl⟩ := hb.more; clear hb)) | (go_at_call 120; (with_reducible refine (hf1 _ (HA.out.ext (by with_reducible repeat (first | exact Ext.refl _ | exact ext_d _ _ _ _ | exact ext_app _ _ _ _ _ | exact ext_app2 _ _ _ _ _ _ | exact ext_app3 _ _ _ _ _ _ _ | apply Ext.drew | apply Ext.alloc | apply Ext.more_)))).mono ?_); rintro e w' ⟨rfl, hb⟩; obtain ⟨osf, df, rfl⟩ := hb.more; clear hb))
  refine wp_world fun U hU => ?_
  have hx : Ext w U := by rw [hU]; exact (by with_reducible repeat (first | exact Ext.refl _ | apply Ext.drew | apply Ext.alloc | apply Ext.more_))
  have c0 : U.cell? ⟨w.heap.size, 0, none⟩ = some (.int .i64 (R : Int)) := by rw [hU]; go_simp
  have c1 : U.cell? ⟨w.heap.size, 1, none⟩ = some (.int .i64 (C : Int)) := by rw [hU]; go_simp
  have c2 : U.cell? ⟨w.heap.size, 2, none⟩ = some (.slice (some ⟨b1, off1, none⟩) n1 cap1) := by rw [hU]; go_simp
  have e0 : U.cell? ⟨w.heap.size + 1, 0, none⟩ = some (.int .i64 (R2 : Int)) := by rw [hU]; go_simp
  have e1 : U.cell? ⟨w.heap.size + 1, 1, none⟩ = some (.int .i64 (C2 : Int)) := by rw [hU]; go_simp
  have e2 : U.cell? ⟨w.heap.size + 1, 2, none⟩ = some (.slice (some ⟨b2, off2, none⟩) n2 cap2) := by rw [hU]; go_simp
  have HU : Hid (∃ os d, U = more (((w.alloc (Obj.cells #[.int .i64 (R : Int), .int .i64 (C : Int), .slice (some ⟨b1, off1, none⟩) n1 cap1] 31)).alloc (Obj.cells #[.int .i64 (R2 : Int), .int .i64 (C2 : Int), .slice (some ⟨b2, off2, none⟩) n2 cap2] 31)).alloc (Obj.cells #[.int .i64 0, .int .i64 0, .slice none 0 0] 31)) os d) := Lib.hid ((show Ext (((w.alloc (Obj.cells #[.int .i64 (R : Int), .int .i64 (C : Int), .slice (some ⟨b1, off1, none⟩) n1 cap1] 31)).alloc (Obj.cells #[.int .i64 (R2 : Int), .int .i64 (C2 : Int), .slice (some ⟨b2, off2, none⟩) n2 cap2] 31)).alloc (Obj.cells #[.int .i64 0, .int .i64 0, .slice none 0 0] 31)) U by rw [hU]; exact (by with_reducible repeat (first | exact Ext.refl _ | apply Ext.drew | apply Ext.alloc | apply Ext.more_))).more)
  clear hU
  have la := lt_of_cell c0
  have lb := lt_of_cell e0
  obtain ⟨i0, hi0, hz0, hz1, hz2⟩ := info_parts info_val
  refine wp_plan (S := Ext U) [(1, 0), (2, 0), (4, 0), (5, 0), (0, 1), (3, 1), (6, 1), (7, 0)] [] (by kernel_rfl) (by kernel_rfl) (by kernel_rfl) (fun _ _ d _ _ h => by cases d <;> exact h) (Ext.drew (Ext.refl _)) ?_
  iterate 4 ((refine wpPl_read (v := ?_) rfl ?_ (fun _ h => ?_) ?_; rotate_left 1; rfl; (obtain ⟨_, _, rfl⟩ := h.more; go_simp; try rfl)); try simp only [Act.put, zqA, zqB, zqC])
  (refine wpPl_eff rfl ?_ (fun K hK => ?_); rfl; go_simp; refine hK _ _ ?_ ?_; (with_reducible repeat (first | exact Ext.refl _ | exact ext_more _ _ _ | apply Ext.drew | apply Ext.alloc | apply Ext.more_)))
  try simp only [Act.put, zqA, zqB, zqC]
  (refine wpPl_eff rfl ?_ (fun K hK => ?_); rfl)
  refine wp_append_own _ _ _ _ rfl U.heap.size 43 i0 (VV 0 0 0 ⟨#[]⟩ false 0) 6 56 Tryz.underlying29 hi0 hz0 hz1 hz2 rfl (by decide) _ 0 [] rfl (own_empty6 (w := U.drew) rfl rfl) _ n1 cap1 (vcells l) rfl (by rw [vcells_length, hln1]) (HA.out.ext (hx.trans (by with_reducible repeat (first | exact Ext.refl _ | apply Ext.drew | apply Ext.alloc | apply Ext.more_)))).rd.add (fun u hu => vcells_one u hu) (by simp only [maxLen]; omega) (by omega) (by simp) ?_
  intro v4 w4 ho4 hg4
  have hx4 : Ext U w4 := ext_grownN (X := U) (by with_reducible repeat (first | exact Ext.refl _ | apply Ext.drew | apply Ext.alloc | apply Ext.more_)) (own_empty6 (w := U.drew) rfl rfl) hg4
  obtain ⟨os4, d4, rfl⟩ := hx4.more
  obtain ⟨G4, c4, rfl⟩ := own_slice ho4
  have HO4 := Lib.hid ho4
  clear ho4 hg4 hx4
  refine hK _ _ (ext_more _ _ _) ?_
  try simp only [Act.put, zqA, zqB, zqC]
  (refine wpPl_eff rfl ?_ (fun K hK => ?_); rfl)
  refine wp_append_own _ _ _ _ rfl U.heap.size 43 i0 (VV 0 0 0 ⟨#[]⟩ false 0) 6 56 Tryz.underlying29 hi0 hz0 hz1 hz2 rfl (by decide) _ (0 + n1) _ rfl HO4.out _ n2 cap2 (vcells l2) rfl (by rw [vcells_length, hln2]) (HA2.out.ext (hx.trans (by with_reducible repeat (first | exact Ext.refl _ | apply Ext.drew | apply Ext.alloc | apply Ext.more_)))).rd.add (fun u hu => vcells_one u hu) (by simp only [maxLen]; omega) (by omega) (by simp) ?_
  intro v5 w5 ho5 hg5
  have hx5 : Ext U w5 := ext_grownN (X := U) (ext_more _ _ _) HO4.out hg5
  obtain ⟨os5, d5, rfl⟩ := hx5.more
  obtain ⟨G5, c5, rfl⟩ := own_slice ho5
  obtain ⟨D5, cc5, hv5, hr5, hc5⟩ := Rd.of_own ho5
  simp only [Value.slice.injEq, true_and] at hv5
  obtain ⟨rfl, rfl⟩ := hv5
  have hall : ArrIn (more U os5 d5) G5 (0 + n1 + n2) c5 (l ++ l2) := ⟨by have := Rd.mono hr5 (Nat.zero_le _); rw [List.nil_append, ← vcells_append] at this; exact this, by rw [List.length_append]; omega, hc5, by omega, fun x hx => (List.mem_append.1 hx).elim (HA.out.ok x) (HA2.out.ok x)⟩
  have HALL := Lib.hid hall
  clear ho5 hg5 hx5 hr5 hall HO4
  refine hK _ _ (ext_more _ _ _) ?_
  try simp only [Act.put, zqA, zqB, zqC]
  (refine wpPl_read (v := ?_) rfl ?_ (fun _ h => ?_) ?_; rotate_left 1; rfl; (obtain ⟨_, _, rfl⟩ := h.more; go_simp; try rfl))
  try simp only [Act.put, zqA, zqB, zqC]
  refine wpPl_nil ?_
  obtain ⟨V, hV⟩ : ∃ V, more U os5 d5 = V := ⟨_, rfl⟩
  have hxV : Ext U V := by rw [← hV]; exact ext_more _ _ _
  have hall := HALL.out
  rw [hV] at hall ⊢
  replace c0 := hxV.cell_some c0
  replace c1 := hxV.cell_some c1
  replace c2 := hxV.cell_some c2
  replace e0 := hxV.cell_some e0
  replace e1 := hxV.cell_some e1
  replace e2 := hxV.cell_some e2
  replace la := lt_of_cell c0
  replace lb := lt_of_cell e0
  replace hx := hx.trans hxV
  replace HU : Hid (∃ os d, V = more (((w.alloc (Obj.cells #[.int .i64 (R : Int), .int .i64 (C : Int), .slice (some ⟨b1, off1, none⟩) n1 cap1] 31)).alloc (Obj.cells #[.int .i64 (R2 : Int), .int .i64 (C2 : Int), .slice (some ⟨b2, off2, none⟩) n2 cap2] 31)).alloc (Obj.cells #[.int .i64 0, .int .i64 0, .slice none 0 0] 31)) os d) := Lib.hid (by obtain ⟨o1, d1, h1⟩ := HU.out; rw [h1] at hxV; exact Ext.more ((ext_more _ _ _).trans hxV))
  rw [Nat.zero_add] at hall
  try simp only [Nat.zero_add]
  clear HALL hV hxV
  obtain ⟨NN, hNN⟩ : ∃ NN, n1 + n2 = NN := ⟨_, rfl⟩
  rw [hNN] at hall ⊢
  have HNN := Lib.hid hNN
  have HALL := Lib.hid hall
  clear hNN hall
  go_wp2_with fail
  go_loopw [7] (fun i wr => ∃ k : Nat, k ≤ NN ∧ i = .int .i64 (k : Int) ∧ Ext V wr ∧ Hid (∀ j y, j < k → (l ++ l2)[j]? = some y → y.kind = 1)) (fun i _ => NN - (intOf i).toNat)
  case atStart => exact ⟨0, Nat.zero_le _, rfl, Ext.refl _, fun j y hj => absurd hj (Nat.not_lt_zero _)⟩
  case round =>
    obtain ⟨k, hk, rfl, hX, HK⟩ := hrel
    have hX0 := hX
    obtain ⟨os, d, rfl⟩ := hX.more
    clear hX
    by_cases hlt : k < NN
    · have hlt' : (k : Int) < (NN : Int) := by omega
      obtain ⟨x, bq, oq, hxk, hxo, rfl, hat⟩ := HALL.out.at hlt
      obtain ⟨y0, y1, y2, y3, y4, y5⟩ := hat
      have lx := lt_of_cell y0
      have hcap5 := HALL.out.cap
      by_cases hkk : x.kind = 1
      · have hkk' : (x.kind != 1) = false := by simpa using hkk
        have HK2 : Hid (∀ j y, j < k + 1 → (l ++ l2)[j]? = some y → y.kind = 1) := fun j y hj hy => by
          by_cases e : j = k
          · subst e; rw [hxk] at hy; obtain rfl : x = y := by simpa using hy
            exact hkk
          · exact HK.out j y (by omega) hy
        clear hkk hxk hxo HX
        have hNN : NN ≤ 8192 := by have := HNN.out; omega
        go_wp2_with fail
        exact ⟨⟨k + 1, by omega, by go_num, by with_reducible repeat (first | exact Ext.refl _ | apply Ext.drew | apply Ext.alloc | apply Ext.more_), HK2⟩, by simp [intOf]; omega⟩
      · have hkk' : (x.kind != 1) = true := by simpa using hkk
        obtain rfl : aloneO 2 = X := by rw [← HX.out]; exact (mult_kind (a := ⟨R, C, l⟩) (b := ⟨R2, C2, l2⟩) H0.out Q1.out Q2.out (List.mem_of_getElem? hxk) hkk).symm
        clear hkk hxk hxo HX
        go_wp2_with ((go_at_call 23; (with_reducible refine (rbad_res 2 (by omega) _).mono ?_); rintro e w' ⟨D, m, cc, rfl, hD, hb⟩; obtain ⟨os5, d5, rfl⟩ := hb.more; clear hb; have hDr := hD.rd); obtain ⟨osu, du, rfl⟩ := HU.out)
        exact bodyPost_ret (v := AV (aloneO 2).R (aloneO 2).C (.slice D m cc)) (by simp [results, Tryz.results69, go_sem]) rfl ⟨D, m, cc, rfl, ⟨(by (try simp only [more_alloc, more_more] at hDr); (try simp only [more_alloc, more_more]); (try simp only [drew_more] at hDr); (try simp only [more_drew] at hDr); (try simp only [Array.append_assoc] at hDr); (try simp only [Array.append_assoc]); exact Rd.swap hDr (by first | (simp; done) | (simp; omega) | omega) (by first | (simp; done) | (simp; omega) | omega) (by first | (simp; done) | (simp; omega) | omega)), hD.len, hD.cap, hD.small, hD.ok⟩, by with_reducible repeat (first | exact Ext.refl _ | apply Ext.drew | apply Ext.alloc | apply Ext.more_)⟩
    · have hkinds : ∀ x ∈ l ++ l2, x.kind = 1 := fun y hy => by
        obtain ⟨j, hj, rfl⟩ := List.mem_iff_getElem.1 hy
        exact HK.out j _ (by have := HALL.out.len; omega) (List.getElem?_eq_getElem hj)
      clear HK HALL
      have hw0 : IntKind.i64.wrap ((R : Int) * (C2 : Int)) = ((R * C2 : Nat) : Int) := by
        have := Nat.mul_le_mul hR4 hC4
        rw [IntKind.wrap_i64, ← Int.natCast_mul]; omega
      by_cases hg : 4096 < R * C2
      · obtain rfl : aloneO 5 = X := by rw [← HX.out]; exact (mult_great (a := ⟨R, C, l⟩) (b := ⟨R2, C2, l2⟩) H0.out Q1.out Q2.out hkinds hg).symm
        have hg' : (4096 : Int) < ((R * C2 : Nat) : Int) := by omega
        generalize R * C2 = N at *
        clear HX hkinds hX0
        go_wp2_with ((go_at_call 23; (with_reducible refine (rbad_res 5 (by omega) _).mono ?_); rintro e w' ⟨D, m, cc, rfl, hD, hb⟩; obtain ⟨os5, d5, rfl⟩ := hb.more; clear hb; have hDr := hD.rd); obtain ⟨osu, du, rfl⟩ := HU.out)
        exact bodyPost_ret (v := AV (aloneO 5).R (aloneO 5).C (.slice D m cc)) (by simp [results, Tryz.results69, go_sem]) rfl ⟨D, m, cc, rfl, ⟨(by (try simp only [more_alloc, more_more] at hDr); (try simp only [more_alloc, more_more]); (try simp only [drew_more] at hDr); (try simp only [more_drew] at hDr); (try simp only [Array.append_assoc] at hDr); (try simp only [Array.append_assoc]); exact Rd.swap hDr (by first | (simp; done) | (simp; omega) | omega) (by first | (simp; done) | (simp; omega) | omega) (by first | (simp; done) | (simp; omega) | omega)), hD.len, hD.cap, hD.small, hD.ok⟩, by with_reducible repeat (first | exact Ext.refl _ | apply Ext.drew | apply Ext.alloc | apply Ext.more_)⟩
      · have HX2 := Lib.hid ((mult_prod (a := ⟨R, C, l⟩) (b := ⟨R2, C2, l2⟩) H0.out Q1.out Q2.out hkinds hg).symm.trans HX.out)
        have hm : R * C2 ≤ 4096 := by omega
        have hg' : ¬ (4096 : Int) < ((R * C2 : Nat) : Int) := by omega
        have HK1 := Lib.hid hkinds
        obtain ⟨N, hN⟩ : ∃ N, R * C2 = N := ⟨_, rfl⟩
        rw [hN] at hw0 hm hg'
        have HN := Lib.hid hN
        clear hg hN HX hkinds Q1 Q2
        go_upto_region 16 with fail
        refine wp_world fun wm hm2 => ?_
        have hxV : Ext V wm := by rw [hm2]; first | exact hX0 | exact (by with_reducible repeat (first | exact Ext.refl _ | apply Ext.drew | apply Ext.alloc | apply Ext.more_))
        replace c0 := hxV.cell_some c0
        replace c1 := hxV.cell_some c1
        replace c2 := hxV.cell_some c2
        replace e0 := hxV.cell_some e0
        replace e1 := hxV.cell_some e1
        replace e2 := hxV.cell_some e2
        replace la := lt_of_cell c0
        replace lb := lt_of_cell e0
        replace hx := hx.trans hxV
        replace HU : Hid (∃ os d, wm = more (((w.alloc (Obj.cells #[.int .i64 (R : Int), .int .i64 (C : Int), .slice (some ⟨b1, off1, none⟩) n1 cap1] 31)).alloc (Obj.cells #[.int .i64 (R2 : Int), .int .i64 (C2 : Int), .slice (some ⟨b2, off2, none⟩) n2 cap2] 31)).alloc (Obj.cells #[.int .i64 0, .int .i64 0, .slice none 0 0] 31)) os d) := Lib.hid (by obtain ⟨o1, d1, h1⟩ := HU.out; rw [h1] at hxV; exact Ext.more ((ext_more _ _ _).trans hxV))
        clear hm2 hxV hX0
        have HP := Lib.hid (show ∀ (r j : Nat), r < R → j < C2 → r * C2 + j < N from fun r j h1 h2 => by rw [← HN.out]; exact cell_lt h1 h2)
        go_wp2_with fail
        go_loopw [9] (fun i wr => ∃ (r : Nat) (E : Option Addr) (c : Nat) (os : Array Obj) (d : Nat), r ≤ R ∧ i = .int .i64 (r : Int) ∧ wr = more (wm.alloc (Obj.cells #[.int .i64 (R : Int), .int .i64 (C2 : Int), .slice E (r * C2) c] 31)) os d ∧ Hid (∃ L, prodO ⟨R, C, l⟩ ⟨R2, C2, l2⟩ (r * C2) = some L ∧ wr.ownsRow (wm.heap.size + 1) 43 6 (.slice E (r * C2) c) (r * C2) (vcells L))) (fun i _ => R - (intOf i).toNat)
        case atStart =>
          have hz : 0 * C2 = 0 := Nat.zero_mul C2
          refine ⟨0, none, 0, #[], ((wm.alloc (Obj.cells #[.int .i64 (R : Int), .int .i64 (C2 : Int), .slice none 0 0] 31))).drawn, Nat.zero_le _, rfl, ?_, ?_⟩
          · rw [hz]; exact (more_none _).symm
          · show ∃ L, _ ∧ World.ownsRow _ _ _ _ _ _ _
            rw [hz]
            exact ⟨[], rfl, World.ownsRow_nil _ _ _ _⟩
        case round =>
          obtain ⟨r, E, c, os, d, hk, rfl, rfl, HW⟩ := hrel
          by_cases hlt : r < R
          · have hlt' : (r : Int) < (R : Int) := by omega
            go_wp2_with fail
            go_loopw [10] (fun i wr => ∃ (j : Nat) (E : Option Addr) (c : Nat) (os : Array Obj) (d : Nat), j ≤ C2 ∧ i = .int .i64 (j : Int) ∧ wr = more (wm.alloc (Obj.cells #[.int .i64 (R : Int), .int .i64 (C2 : Int), .slice E (r * C2 + j) c] 31)) os d ∧ Hid (∃ L, prodO ⟨R, C, l⟩ ⟨R2, C2, l2⟩ (r * C2 + j) = some L ∧ wr.ownsRow (wm.heap.size + 1) 43 6 (.slice E (r * C2 + j) c) (r * C2 + j) (vcells L))) (fun i _ => C2 - (intOf i).toNat)
            case atStart => exact ⟨0, E, c, os, d, Nat.zero_le _, rfl, rfl, HW⟩
            case round =>
              clear HW os d E c
              obtain ⟨j, E, c, os, d, hj, rfl, rfl, HW⟩ := hrel
              by_cases hjC : j < C2
              · have hjC' : (j : Int) < (C2 : Int) := by omega
                obtain ⟨L, hL, hO⟩ := HW.out
                have HL := Lib.hid hL
                have HOn := Lib.hid hO
                clear hL hO HW
                have hpN := HP.out r j hlt hjC
                go_upto_region 23 with fail
                refine wp_world fun wj hj2 => ?_
                have HJ := Lib.hid hj2
                have hxj : Ext wm wj := by rw [hj2]; exact (by with_reducible repeat (first | exact Ext.refl _ | apply Ext.drew | apply Ext.alloc | apply Ext.more_))
                have hj1 : wm.heap.size + 1 ≤ wj.heap.size := by rw [hj2]; simp
                have hxw : Ext w wj := hx.trans hxj
                have k0 := hxj.cell_some c0
                have k1 := hxj.cell_some c1
                have k2 := hxj.cell_some c2
                have f0 := hxj.cell_some e0
                have f1 := hxj.cell_some e1
                have f2 := hxj.cell_some e2
                have lka := lt_of_cell k0
                have lkb := lt_of_cell f0
                clear hj2
                go_wp2_with fail
                go_loopw [12] (fun i wr => ∃ (k : Nat) (m e : Int) (os : Array Obj) (d : Nat), k ≤ C ∧ i = .int .i64 (k : Int) ∧ wr = more (wj.alloc (Obj.cells #[.int .i64 m, .int .i64 e] 41)) os d ∧ Hid (SumIs ⟨R, C, l⟩ ⟨R2, C2, l2⟩ r j k m e) ∧ Hid (I64 m)) (fun i _ => C - (intOf i).toNat)
                case atStart => exact ⟨0, 0, 0, #[], _, Nat.zero_le _, rfl, (more_none _).symm, Lib.hid (Or.inl ⟨rfl, rfl, rfl⟩), (show I64 0 by unfold I64; omega)⟩
                case round =>
                  obtain ⟨k, sm, se, os2, d2, hkC, rfl, rfl, HS, HI⟩ := hrel
                  by_cases hkl : k < C
                  · have hkl' : (k : Int) < (C : Int) := by omega
                    have hkR2 : k < R2 := by have := H0.out; omega
                    have t1 : r * C + k < n1 := by rw [← hln1, r4]; exact cell_lt hlt hkl
                    have t2 : k * C2 + j < n2 := by rw [← hln2, s4]; exact cell_lt hkR2 hjC
                    obtain ⟨x, -, -, hx', hxo, -, -⟩ := HA.out.at t1
                    obtain ⟨y, -, -, hy', hyo, -, -⟩ := HA2.out.at t2
                    have hxv : getV l (r * C + k) = x := by unfold getV; rw [hx']; rfl
                    have hyv : getV l2 (k * C2 + j) = y := by unfold getV; rw [hy']; rfl
                    have hg1 := fun W (hW : ArrIn W (some ⟨b1, off1, none⟩) n1 cap1 l) => refGet_any R C r k _ n1 cap1 l W hW (by rw [← hln1, r4]) (by rw [← hln1, r4]; exact r3) hlt hkl x hxv
                    have hg2 := fun W (hW : ArrIn W (some ⟨b2, off2, none⟩) n2 cap2 l2) => refGet_any R2 C2 k j _ n2 cap2 l2 W hW (by rw [← hln2, s4]) (by rw [← hln2, s4]; exact s3) hkR2 hjC y hyv
                    have hmu := fun W => rmul_any x.mant x.exp y.mant y.exp W hxo.2.1 hyo.2.1
                    have hdk : dotS ⟨R, C, l⟩ ⟨R2, C2, l2⟩ r j k = (mulS x.mant x.exp y.mant y.exp).bind fun z => if k = 0 then some z else addS sm se z.1 z.2 := by
                      rcases HS.out with ⟨rfl, _, _⟩ | ⟨k', rfl, hd⟩
                      · have hy2 : getV l2 j = y := by rw [← hyv, Nat.zero_mul, Nat.zero_add]
                        have hx2 : getV l (r * C) = x := hxv
                        show mulS (getV l (r * C)).mant (getV l (r * C)).exp (getV l2 j).mant (getV l2 j).exp = _
                        rw [hx2, hy2]
                        cases mulS x.mant x.exp y.mant y.exp <;> rfl
                      · show (dotS ⟨R, C, l⟩ ⟨R2, C2, l2⟩ r j k').bind _ = _
                        rw [hd, Option.bind_some]
                        show (mulS (getV l (r * C + (k' + 1))).mant (getV l (r * C + (k' + 1))).exp (getV l2 ((k' + 1) * C2 + j)).mant (getV l2 ((k' + 1) * C2 + j)).exp).bind _ = _
                        rw [hxv, hyv]
                        cases mulS x.mant x.exp y.mant y.exp <;> rfl
                    have hbad : dotS ⟨R, C, l⟩ ⟨R2, C2, l2⟩ r j k = none → aloneO 5 = X := fun hn => by
                      have h1 := prod_none (a := ⟨R, C, l⟩) (b := ⟨R2, C2, l2⟩) hjC hlt HL.out (dot_none_at hn hkl)
                      have h2 := HX2.out
                      simp only at h1
                      rw [h1] at h2
                      exact h2
                    have hnext : ∀ p, dotS ⟨R, C, l⟩ ⟨R2, C2, l2⟩ r j k = some p → Hid (SumIs ⟨R, C, l⟩ ⟨R2, C2, l2⟩ r j (k + 1) p.1 p.2) := fun p hp => Lib.hid (Or.inr ⟨k, rfl, hp⟩)
                    have hIm : I64 sm := HI.out
                    clear HS HI HX2 hx' hy' hxv hyv t1 t2
                    generalize x.mant = xm at *
                    generalize x.exp = xe at *
                    generalize y.mant = ym at *
                    generalize y.exp = ye at *
                    clear hxo hyo
                    go_upto_region 27 with fail
                    refine wp_world fun U hU => ?_
                    have hxU : Ext wj U := by rw [hU]; exact (by with_reducible repeat (first | exact Ext.refl _ | apply Ext.drew | apply Ext.alloc | apply Ext.more_))
                    have hwU : Ext w U := hxw.trans hxU
                    replace k0 := hxU.cell_some k0
                    replace k1 := hxU.cell_some k1
                    replace k2 := hxU.cell_some k2
                    replace f0 := hxU.cell_some f0
                    replace f1 := hxU.cell_some f1
                    replace f2 := hxU.cell_some f2
                    replace lka := lt_of_cell k0
                    replace lkb := lt_of_cell f0
                    have HU2 := Lib.hid hU
                    clear hU
                    refine wp_float [(14, 13, (.cells #[.int .i64 0, .int .i64 0] 41))] [(0, 0), (1, 0), (2, 0), (5, 0), (6, 0), (7, 0), (3, 1), (4, 0), (8, 1), (9, 0), (10, 1), (11, 0), (12, 0), (13, 2)] [15, 16] [15, 16] [13] (by kernel_rfl) (by kernel_rfl) (by kernel_rfl) (fun _ _ d _ _ h => by cases d <;> exact h) (fun _ _ d _ _ h => by cases d <;> exact h) (fun x hx o ho a w => by (obtain rfl := List.mem_singleton.1 hx); (obtain rfl := Option.some.inj ho); (first | rfl | (simp [go_sem, ptrB]; done) | (go_simp; rfl))) ?_
                    iterate 6 ((refine wpFp_read (v := ?_) rfl ?_ (fun w1 h1 => ?_) ?_; rotate_left 1; rfl; (obtain ⟨os1, d1, rfl⟩ := h1.more; go_simp; first | done | rfl)); try simp only [Act.put, zqA, zqB, zqC])
                    (refine wpFp_eff rfl ?_ (fun wf hXf hE K hK => ?_); rfl; obtain ⟨osf, df, rfl⟩ := hXf.more; go_simp; refine (hg1 _ ((HA.out.ext hwU).ext (by with_reducible repeat (first | exact Ext.refl _ | exact ext_d _ _ _ _ | exact ext_app _ _ _ _ _ | exact ext_app2 _ _ _ _ _ _ | exact ext_app3 _ _ _ _ _ _ _ | apply Ext.drew | apply Ext.alloc | apply Ext.more_)))).mono ?_; rintro e w' ⟨rfl, hb⟩; refine hK _ _ (fun _ => True) (by (try simp only [more_drew, more_more, Array.append_assoc]); exact hb) (fun _ _ _ _ => trivial) trivial ?_)
                    try simp only [Act.put, zqA, zqB, zqC]
                    (refine wpFp_read (v := ?_) rfl ?_ (fun w1 h1 => ?_) ?_; rotate_left 1; rfl; (obtain ⟨os1, d1, rfl⟩ := h1.more; go_simp; first | done | rfl))
                    try simp only [Act.put, zqA, zqB, zqC]
                    (refine wpFp_eff rfl ?_ (fun wf hXf hE K hK => ?_); rfl; obtain ⟨osf, df, rfl⟩ := hXf.more; go_simp; refine (hg2 _ ((HA2.out.ext hwU).ext (by with_reducible repeat (first | exact Ext.refl _ | exact ext_d _ _ _ _ | exact ext_app _ _ _ _ _ | exact ext_app2 _ _ _ _ _ _ | exact ext_app3 _ _ _ _ _ _ _ | apply Ext.drew | apply Ext.alloc | apply Ext.more_)))).mono ?_; rintro e w' ⟨rfl, hb⟩; refine hK _ _ (fun _ => True) (by (try simp only [more_drew, more_more, Array.append_assoc]); exact hb) (fun _ _ _ _ => trivial) trivial ?_)
                    try simp only [Act.put, zqA, zqB, zqC]
                    (refine wpFp_read (v := ?_) rfl ?_ (fun w1 h1 => ?_) ?_; rotate_left 1; rfl; (obtain ⟨os1, d1, rfl⟩ := h1.more; go_simp; first | done | rfl))
                    try simp only [Act.put, zqA, zqB, zqC]
                    (refine wpFp_eff rfl ?_ (fun wf hXf hE K hK => ?_); rfl; obtain ⟨osf, df, rfl⟩ := hXf.more; go_simp; refine (hmu _).mono ?_; rintro e w' ⟨rfl, hb⟩; refine hK _ _ (fun _ => True) (by (try simp only [more_drew, more_more, Array.append_assoc]); exact hb) (fun _ _ _ _ => trivial) trivial ?_)
                    try simp only [Act.put, zqA, zqB, zqC]
                    iterate 2 ((refine wpFp_read (v := ?_) rfl ?_ (fun w1 h1 => ?_) ?_; rotate_left 1; rfl; (obtain ⟨os1, d1, rfl⟩ := h1.more; go_simp; first | done | rfl)); try simp only [Act.put, zqA, zqB, zqC])
                    (refine wpFp_pure (v := ?_) rfl ?_ (fun w1 => ?_) ?_; rotate_left 1; rfl; (go_simp; first | done | rfl))
                    try simp only [Act.put, zqA, zqB, zqC]
                    refine wpFp_one fun osa da osb db hE => ?_
                    try simp only [Act.put, zqA, zqB, zqC]
                    iterate 2 ((refine wpTl_op rfl ?_ (fun K hK => ?_); rfl; go_simp; refine hK _ _ ?_); try simp only [Act.put, zqA, zqB, zqC])
                    refine wpTl_nil ?_
                    have hW2 : more U osa da = more (wj.alloc (.cells #[.int .i64 sm, .int .i64 se] 41)) (os2 ++ osa) da := by rw [HU2.out]; simp only [more_more, more_drew, drew_more]
                    have hp2 : U.heap.size + osa.size = wj.heap.size + 1 + (os2 ++ osa).size := by rw [HU2.out]; simp; omega
                    rw [hW2, hp2]
                    clear hW2 hp2 HU2 k0 k1 k2 f0 f1 f2 lka lkb hxU hwU hg1 hg2 hmu hE
                    generalize os2 ++ osa = oss
                    cases hs : mulS xm xe ym ye with
                    | none =>
                      rw [hs] at hdk
                      simp only [rnV, rm, re, Option.getD_none, Option.isSome_none]
                      obtain rfl := hbad hdk
                      clear hbad hdk hnext hs
                      go_wp2_with ((go_at_call 23; (with_reducible refine (rbad_res 5 (by omega) _).mono ?_); rintro e w' ⟨D, m, cc, rfl, hD, hb⟩; obtain ⟨os5, d5, rfl⟩ := hb.more; clear hb; have hDr := hD.rd); obtain rfl := HJ.out; obtain ⟨osu, du, rfl⟩ := HU.out)
                      exact bodyPost_ret (v := AV (aloneO 5).R (aloneO 5).C (.slice D m cc)) (by simp [results, Tryz.results69, go_sem]) rfl ⟨D, m, cc, rfl, ⟨(by (try simp only [more_alloc, more_more] at hDr); (try simp only [more_alloc, more_more]); (try simp only [drew_more] at hDr); (try simp only [more_drew] at hDr); (try simp only [Array.append_assoc] at hDr); (try simp only [Array.append_assoc]); exact Rd.swap hDr (by first | (simp; done) | (simp; omega) | omega) (by first | (simp; done) | (simp; omega) | omega) (by first | (simp; done) | (simp; omega) | omega)), hD.len, hD.cap, hD.small, hD.ok⟩, by with_reducible repeat (first | exact Ext.refl _ | apply Ext.drew | apply Ext.alloc | apply Ext.more_)⟩
                    | some q =>
                      obtain ⟨qm, qe⟩ := q
                      have hqr := mulS_rt hs
                      rw [hs] at hdk
                      simp only [Option.bind_some] at hdk
                      simp only [rnV, rm, re, Option.getD_some, Option.isSome_some]
                      by_cases hk0 : k = 0
                      · subst hk0
                        rw [if_pos rfl] at hdk
                        have HN2 := hnext _ hdk
                        have HI2 : Hid (I64 qm) := Lib.hid (rt_i64 hqr)
                        clear hbad hdk hnext hs hqr
                        go_wp2_with fail
                        exact ⟨⟨1, qm, qe, _, _, by omega, by go_num, flat5 _ _ _ _ _ _, HN2, HI2⟩, by simp [intOf]; omega⟩
                      · have hk0' : (0 : Int) < (k : Int) := by omega
                        rw [if_neg hk0] at hdk
                        have had := fun W => radd_any sm se qm qe W hIm (rt_i64 hqr)
                        cases ha : addS sm se qm qe with
                        | none =>
                          rw [ha] at had hdk
                          simp only [rnV, rm, re, Option.getD_none, Option.isSome_none] at had
                          obtain rfl := hbad hdk
                          clear hbad hdk hnext hs hqr ha
                          go_wp2_with (first | (go_at_call 115; (with_reducible refine (had _).mono ?_); rintro e w' ⟨rfl, hb⟩; obtain ⟨ost, dt, rfl⟩ := hb.more; clear hb) | ((go_at_call 23; (with_reducible refine (rbad_res 5 (by omega) _).mono ?_); rintro e w' ⟨D, m, cc, rfl, hD, hb⟩; obtain ⟨os5, d5, rfl⟩ := hb.more; clear hb; have hDr := hD.rd); obtain rfl := HJ.out; obtain ⟨osu, du, rfl⟩ := HU.out))
                          exact bodyPost_ret (v := AV (aloneO 5).R (aloneO 5).C (.slice D m cc)) (by simp [results, Tryz.results69, go_sem]) rfl ⟨D, m, cc, rfl, ⟨(by (try simp only [more_alloc, more_more] at hDr); (try simp only [more_alloc, more_more]); (try simp only [drew_more] at hDr); (try simp only [more_drew] at hDr); (try simp only [Array.append_assoc] at hDr); (try simp only [Array.append_assoc]); exact Rd.swap hDr (by first | (simp; done) | (simp; omega) | omega) (by first | (simp; done) | (simp; omega) | omega) (by first | (simp; done) | (simp; omega) | omega)), hD.len, hD.cap, hD.small, hD.ok⟩, by with_reducible repeat (first | exact Ext.refl _ | apply Ext.drew | apply Ext.alloc | apply Ext.more_)⟩
                        | some p =>
                          obtain ⟨pm, pe⟩ := p
                          have hpr := addS_rt ha
                          rw [ha] at had hdk
                          simp only [rnV, rm, re, Option.getD_some, Option.isSome_some] at had
                          have HN2 := hnext _ hdk
                          have HI2 : Hid (I64 pm) := Lib.hid (rt_i64 hpr)
                          clear hbad hdk hnext hs hqr hpr ha
                          go_wp2_with (go_at_call 115; (with_reducible refine (had _).mono ?_); rintro e w' ⟨rfl, hb⟩; obtain ⟨ost, dt, rfl⟩ := hb.more; clear hb)
                          exact ⟨⟨k + 1, pm, pe, _, _, by omega, by go_num, flat5 _ _ _ _ _ _, HN2, HI2⟩, by simp [intOf]; omega⟩
                  · obtain rfl : C = k := by omega
                    have hd : dotS ⟨R, C, l⟩ ⟨R2, C2, l2⟩ r j (C - 1) = some (sm, se) := by
                      rcases HS.out with ⟨h, _⟩ | ⟨k', h, hd⟩
                      · omega
                      · rw [show C - 1 = k' by omega]; exact hd
                    have HL2 := Lib.hid (prod_some (a := ⟨R, C, l⟩) (b := ⟨R2, C2, l2⟩) hjC HL.out hd)
                    clear HS HI hd HX2 HL k0 k1 k2 f0 f1 f2 lka lkb hxw hj1 hxj
                    have hob := own_lt HOn.out
                    have hrow0 := gvar_at (wm.alloc (Obj.cells #[.int .i64 (R : Int), .int .i64 (C2 : Int), .slice E (r * C2 + j) c] 31)) (.cells #[.int .i64 sm, .int .i64 se] 41) os os2 d d2
                    simp only [World.size_alloc, more_size] at hob hrow0
                    obtain rfl := HJ.out
                    clear HJ
                    go_upto_region 33 with fail
                    refine wp_plan (S := fun W => Ext (wm.alloc (Obj.cells #[.int .i64 (R : Int), .int .i64 (C2 : Int), .slice E (r * C2 + j) c] 31)) W ∧ W.heap[wm.heap.size + 1 + os.size]? = some (.cells #[.int .i64 sm, .int .i64 se] 41)) [(0, 0), (1, 0), (2, 0), (3, 1), (4, 1), (5, 1), (6, 0), (7, 2)] [7] (by kernel_rfl) (by kernel_rfl) (by kernel_rfl) (fun _ _ d _ _ h => by cases d <;> exact h) ⟨by with_reducible repeat (first | exact Ext.refl _ | apply Ext.drew | apply Ext.alloc | apply Ext.more_), row_ext hrow0 (by with_reducible repeat (first | exact Ext.refl _ | exact ext_d _ _ _ _ | exact ext_app _ _ _ _ _ | exact ext_app2 _ _ _ _ _ _ | exact ext_app3 _ _ _ _ _ _ _ | apply Ext.drew | apply Ext.alloc | apply Ext.more_))⟩ ?_
                    iterate 2 ((refine wpPl_read (v := ?_) rfl ?_ (fun w1 h1 => ?_) ?_; rotate_left 1; rfl; (obtain ⟨os1, d1, rfl⟩ := h1.1.more; go_simp; first | done | rfl)); try simp only [Act.put, zqA, zqB, zqC])
                    (refine wpPl_read (v := ?_) rfl ?_ (fun w1 h1 => ?_) ?_; rotate_left 1; rfl; (have m0 := cell_of_row _ _ 0 _ _ _ h1.2; have m1 := cell_of_row _ _ 1 _ _ _ h1.2; have ln := lt_of_cell m0; clear h1; go_simp; first | done | rfl))
                    try simp only [Act.put, zqA, zqB, zqC]
                    (refine wpPl_eff rfl ?_ (fun K hK => ?_); rfl; go_simp; refine (rof15_any _ _ _).mono ?_; rintro e w' ⟨rfl, hb⟩; obtain ⟨osf, df, rfl⟩ := hb.more; clear hb; refine hK _ _ ⟨by with_reducible repeat (first | exact Ext.refl _ | exact ext_d _ _ _ _ | exact ext_app _ _ _ _ _ | exact ext_app2 _ _ _ _ _ _ | exact ext_app3 _ _ _ _ _ _ _ | apply Ext.drew | apply Ext.alloc | apply Ext.more_), row_ext hrow0 (by with_reducible repeat (first | exact Ext.refl _ | exact ext_d _ _ _ _ | exact ext_app _ _ _ _ _ | exact ext_app2 _ _ _ _ _ _ | exact ext_app3 _ _ _ _ _ _ _ | apply Ext.drew | apply Ext.alloc | apply Ext.more_))⟩ ?_)
                    try simp only [Act.put, zqA, zqB, zqC]
                    (refine wpPl_eff rfl ?_ (fun K hK => ?_); rfl; go_simp; refine hK _ _ ⟨by with_reducible repeat (first | exact Ext.refl _ | exact ext_d _ _ _ _ | exact ext_app _ _ _ _ _ | exact ext_app2 _ _ _ _ _ _ | exact ext_app3 _ _ _ _ _ _ _ | apply Ext.drew | apply Ext.alloc | apply Ext.more_), row_ext hrow0 (by with_reducible repeat (first | exact Ext.refl _ | exact ext_d _ _ _ _ | exact ext_app _ _ _ _ _ | exact ext_app2 _ _ _ _ _ _ | exact ext_app3 _ _ _ _ _ _ _ | apply Ext.drew | apply Ext.alloc | apply Ext.more_))⟩ ?_)
                    try simp only [Act.put, zqA, zqB, zqC]
                    (refine wpPl_eff rfl ?_ (fun K hK => ?_); rfl)
                    refine wp_append_own _ _ _ _ rfl (wm.heap.size + 1) 43 i0 (VV 0 0 0 ⟨#[]⟩ false 0) 6 56 Tryz.underlying29 hi0 hz0 hz1 hz2 rfl (by decide) (.slice E (r * C2 + j) c) (r * C2 + j) (vcells L) rfl (own_ext HOn.out (by with_reducible repeat (first | exact Ext.refl _ | exact ext_d _ _ _ _ | exact ext_app _ _ _ _ _ | exact ext_app2 _ _ _ _ _ _ | exact ext_app3 _ _ _ _ _ _ _ | apply Ext.drew | apply Ext.alloc | apply Ext.more_))) _ 1 1 (Val.cells ⟨1, sm, se, ⟨#[]⟩, false, 0⟩) rfl rfl (new_cells_at _ _ _ (by simp) rfl _) (cells_one _) (by simp only [maxLen]; omega) (by omega) (by simp; omega) ?_
                    intro v4 w4 ho4 hg4
                    have hx4 : Ext (wm.alloc (Obj.cells #[.int .i64 (R : Int), .int .i64 (C2 : Int), .slice E (r * C2 + j) c] 31)) w4 := ext_grownN (n := r * C2 + j) (ty := 43) (size := 6) (xs := vcells L) (v := .slice E (r * C2 + j) c) (by with_reducible repeat (first | exact Ext.refl _ | exact ext_d _ _ _ _ | exact ext_app _ _ _ _ _ | exact ext_app2 _ _ _ _ _ _ | exact ext_app3 _ _ _ _ _ _ _ | apply Ext.drew | apply Ext.alloc | apply Ext.more_)) (by simpa using own_ext HOn.out (by with_reducible repeat (first | exact Ext.refl _ | exact ext_d _ _ _ _ | exact ext_app _ _ _ _ _ | exact ext_app2 _ _ _ _ _ _ | exact ext_app3 _ _ _ _ _ _ _ | apply Ext.drew | apply Ext.alloc | apply Ext.more_))) hg4
                    have hp4 : w4.heap[wm.heap.size + 1 + os.size]? = some (.cells #[.int .i64 sm, .int .i64 se] 41) := by
                      rw [hg4.block _ (by simp; omega) (fun e => by have := hob _ e.symm; omega)]
                      exact row_ext hrow0 (by with_reducible repeat (first | exact Ext.refl _ | exact ext_d _ _ _ _ | exact ext_app _ _ _ _ _ | exact ext_app2 _ _ _ _ _ _ | exact ext_app3 _ _ _ _ _ _ _ | apply Ext.drew | apply Ext.alloc | apply Ext.more_))
                    obtain ⟨os9, d9, rfl⟩ := hx4.more
                    obtain ⟨G4, c4, rfl⟩ := own_slice ho4
                    have HO4 := Lib.hid ho4
                    clear ho4 hg4 hx4
                    refine hK _ _ ⟨ext_more _ _ _, hp4⟩ ?_
                    try simp only [Act.put, zqA, zqB, zqC]
                    (refine wpPl_read (v := ?_) rfl ?_ (fun w1 h1 => ?_) ?_; rotate_left 1; rfl; (obtain ⟨os1, d1, rfl⟩ := h1.1.more; go_simp; first | done | rfl))
                    try simp only [Act.put, zqA, zqB, zqC]
                    (refine wpPl_tail rfl ?_ (fun K hK => ?_); rfl; go_simp; refine hK _ _ ?_)
                    try simp only [Act.put, zqA, zqB, zqC]
                    refine wpPl_nil ?_
                    go_wp2_with fail
                    refine ⟨⟨j + 1, G4, c4, os9, _, by omega, by go_num, rfl, ?_⟩, by simp [intOf]; omega⟩
                    refine Lib.hid ⟨_, HL2.out, ?_⟩
                    rw [vcells_append]
                    refine own_one (Z := wm) (o := .cells #[.int .i64 (R : Int), .int .i64 (C2 : Int), .slice E (r * C2 + j) c] 31) (.cells #[.int .i64 (R : Int), .int .i64 (C2 : Int), .slice G4 (r * C2 + (j + 1)) c4] 31) ?_ (by simp)
                    simpa [vcells, Nat.add_assoc] using HO4.out
              · obtain rfl : j = C2 := by omega
                go_wp2_with fail
                refine ⟨⟨r + 1, E, c, os, d, by omega, by go_num, ?_, ?_⟩, by simp [intOf]; omega⟩
                · rw [show (r + 1) * j = r * j + j by rw [Nat.add_mul, Nat.one_mul]]
                · rw [show (r + 1) * j = r * j + j by rw [Nat.add_mul, Nat.one_mul]]
                  exact HW
          · obtain rfl : r = R := by omega
            obtain ⟨L, hL, hO⟩ := HW.out
            rw [HN.out] at hL hO
            rw [HN.out]
            have hXe : (⟨r, C2, L⟩ : NA) = X := by
              have := HX2.out
              rw [show (⟨r, C, l⟩ : NA).R * (⟨R2, C2, l2⟩ : NA).C = N from HN.out, hL] at this
              exact this
            have hLok : ∀ x ∈ L, x.ok := fun x hx => (prod_right (a := ⟨r, C, l⟩) (b := ⟨R2, C2, l2⟩) hL x hx).ok
            obtain ⟨D, cc, hv, hD⟩ := own_arrN (n := N) (l := L) (v := .slice E N c) (w := (wm.alloc (Obj.cells #[.int .i64 (r : Int), .int .i64 (C2 : Int), .slice E N c] 31))) (X := (wm.alloc (Obj.cells #[.int .i64 (r : Int), .int .i64 (C2 : Int), .slice E N c] 31))) (by simpa using hO) (Nat.le_refl _) (by omega) hLok
            simp only [Value.slice.injEq, true_and] at hv
            obtain ⟨rfl, rfl⟩ := hv
            have hDr := hD.rd
            clear HW hO HX2
            obtain ⟨osu, du, rfl⟩ := HU.out
            go_wp2_with fail
            subst hXe
            exact bodyPost_ret (v := AV r C2 (.slice E N c)) (by simp [results, Tryz.results69, go_sem]) rfl ⟨E, N, c, rfl, ⟨(by (try simp only [more_alloc, more_more] at hDr); (try simp only [more_alloc, more_more]); (try simp only [drew_more] at hDr); (try simp only [more_drew] at hDr); (try simp only [Array.append_assoc] at hDr); (try simp only [Array.append_assoc]); exact Rd.swap hDr (by first | (simp; done) | (simp; omega) | omega) (by first | (simp; done) | (simp; omega) | omega) (by first | (simp; done) | (simp; omega) | omega)), hD.len, hD.cap, hD.small, hD.ok⟩, by with_reducible repeat (first | exact Ext.refl _ | apply Ext.drew | apply Ext.alloc | apply Ext.more_)⟩
set_option maxHeartbeats 8000000 in
theorem rmult_any (R C R2 C2 : Nat) (l l2 : List Val) (A1 A2 : Option Addr) (n1 cap1 n2 cap2 : Nat) (w : World) (h1 : ArrIn w A1 n1 cap1 l) (h2 : ArrIn w A2 n2 cap2 l2) (hxr : NA.right ⟨R, C, l⟩) (hxr2 : NA.right ⟨R2, C2, l2⟩) :
    Calls Tryz.prog 69 #[AV R C (.slice A1 n1 cap1), AV R2 C2 (.slice A2 n2 cap2)] w fun e w' => ResA w (multT ⟨R, C, l⟩ ⟨R2, C2, l2⟩) e w' := by
  obtain ⟨r1, r2, r3, r4, r5⟩ := rightA_nat.1 hxr
  obtain ⟨s1, s2, s3, s4, s5⟩ := rightA_nat.1 hxr2
  simp only at r1 r2 r3 r4 r5 s1 s2 s3 s4 s5
  have hln1 := h1.len
  have hln2 := h2.len
  have hR4 : R ≤ 4096 := Nat.le_trans (Nat.le_mul_of_pos_right R r2) r3
  have hC4 : C2 ≤ 4096 := Nat.le_trans (Nat.le_mul_of_pos_left C2 s1) s3
  obtain ⟨xa, b1, off1, _, _, hA1, _⟩ := h1.at (k := 0) (by have := Nat.mul_pos r1 r2; omega)
  obtain ⟨xb, b2, off2, _, _, hA2, _⟩ := h2.at (k := 0) (by have := Nat.mul_pos s1 s2; omega)
  subst hA1 hA2
  have hf1 := fun W (hW : ArrIn W (some ⟨b1, off1, none⟩) n1 cap1 l) => refFirst_any R C _ n1 cap1 l W hW _ rfl
  have hf2 := fun W (hW : ArrIn W (some ⟨b2, off2, none⟩) n2 cap2 l2) => refFirst_any R2 C2 _ n2 cap2 l2 W hW _ rfl
  have HA := Lib.hid h1
  have HA2 := Lib.hid h2
  obtain ⟨X, hX⟩ : ∃ X, multT ⟨R, C, l⟩ ⟨R2, C2, l2⟩ = X := ⟨_, rfl⟩
  rw [hX]
  have HX := Lib.hid hX
  clear h1 h2 hX
  by_cases h0 : C = R2
  · have h0' : ((C : Int) != (R2 : Int)) = false := by simp; omega
    have H0 := Lib.hid h0
    clear h0
    cases q1 : firstF l with
    | some f =>
      obtain rfl : aloneO f = X := by rw [← HX.out]; exact (mult_fault1 (a := ⟨R, C, l⟩) (b := ⟨R2, C2, l2⟩) H0.out q1).symm
      have hbd := firstF_bd r5 q1
      have hz : (f == 0) = false := by simp; omega
      have hz' : (f != 0) = true := by simp; omega
      rw [q1] at hf1
      simp only [Option.getD_some] at hf1
      have HB := Lib.hid hbd
      clear q1 HX hf2 hbd
      go_enter Tryz.func69, Tryz.ntmps69
      go_wp2_with (first | (go_at_call 120; (with_reducible refine (hf1 _ (HA.out.ext (by with_reducible repeat (first | exact Ext.refl _ | exact ext_d _ _ _ _ | exact ext_app _ _ _ _ _ | exact ext_app2 _ _ _ _ _ _ | exact ext_app3 _ _ _ _ _ _ _ | apply Ext.drew | apply Ext.alloc | apply Ext.more_)))).mono ?_); rintro e w' ⟨rfl, hb⟩; obtain ⟨osf, df, rfl⟩ := hb.more; clear hb) | (go_at_call 23; (with_reducible refine (rbad_res _ HB.out _).mono ?_); rintro e w' ⟨D, m, cc, rfl, hD, hb⟩; obtain ⟨os5, d5, rfl⟩ := hb.more; clear hb; have hDr := hD.rd))
      exact bodyPost_ret (v := AV (aloneO f).R (aloneO f).C (.slice D m cc)) (by simp [results, Tryz.results69, go_sem]) rfl ⟨D, m, cc, rfl, ⟨(by (try simp only [more_alloc, more_more] at hDr); (try simp only [more_alloc, more_more]); (try simp only [drew_more] at hDr); (try simp only [more_drew] at hDr); (try simp only [Array.append_assoc] at hDr); (try simp only [Array.append_assoc]); exact Rd.swap hDr (by first | (simp; done) | (simp; omega) | omega) (by first | (simp; done) | (simp; omega) | omega) (by first | (simp; done) | (simp; omega) | omega)), hD.len, hD.cap, hD.small, hD.ok⟩, by with_reducible repeat (first | exact Ext.refl _ | apply Ext.drew | apply Ext.alloc | apply Ext.more_)⟩
    | none =>
      rw [q1] at hf1
      simp only [Option.getD_none] at hf1
      cases q2 : firstF l2 with
      | some f =>
        obtain rfl : aloneO f = X := by rw [← HX.out]; exact (mult_fault2 (a := ⟨R, C, l⟩) (b := ⟨R2, C2, l2⟩) H0.out q1 q2).symm
        have hbd := firstF_bd s5 q2
        have hz' : (f != 0) = true := by simp; omega
        rw [q2] at hf2
        simp only [Option.getD_some] at hf2
        have HB := Lib.hid hbd
        clear q1 q2 HX hbd
        go_enter Tryz.func69, Tryz.ntmps69
        go_wp2_with (first | (have _t := osf; clear _t; (go_at_call 120; (with_reducible refine (hf2 _ (HA2.out.ext (by with_reducible repeat (first | exact Ext.refl _ | exact ext_d _ _ _ _ | exact ext_app _ _ _ _ _ | exact ext_app2 _ _ _ _ _ _ | exact ext_app3 _ _ _ _ _ _ _ | apply Ext.drew | apply Ext.alloc | apply Ext.more_)))).mono ?_); rintro e w' ⟨rfl, hb⟩; obtain ⟨osf, df, rfl⟩ := hb.more; clear hb)) | (go_at_call 120; (with_reducible refine (hf1 _ (HA.out.ext (by with_reducible repeat (first | exact Ext.refl _ | exact ext_d _ _ _ _ | exact ext_app _ _ _ _ _ | exact ext_app2 _ _ _ _ _ _ | exact ext_app3 _ _ _ _ _ _ _ | apply Ext.drew | apply Ext.alloc | apply Ext.more_)))).mono ?_); rintro e w' ⟨rfl, hb⟩; obtain ⟨osf, df, rfl⟩ := hb.more; clear hb) | (go_at_call 23; (with_reducible refine (rbad_res _ HB.out _).mono ?_); rintro e w' ⟨D, m, cc, rfl, hD, hb⟩; obtain ⟨os5, d5, rfl⟩ := hb.more; clear hb; have hDr := hD.rd))
        exact bodyPost_ret (v := AV (aloneO f).R (aloneO f).C (.slice D m cc)) (by simp [results, Tryz.results69, go_sem]) rfl ⟨D, m, cc, rfl, ⟨(by (try simp only [more_alloc, more_more] at hDr); (try simp only [more_alloc, more_more]); (try simp only [drew_more] at hDr); (try simp only [more_drew] at hDr); (try simp only [Array.append_assoc] at hDr); (try simp only [Array.append_assoc]); exact Rd.swap hDr (by first | (simp; done) | (simp; omega) | omega) (by first | (simp; done) | (simp; omega) | omega) (by first | (simp; done) | (simp; omega) | omega)), hD.len, hD.cap, hD.small, hD.ok⟩, by with_reducible repeat (first | exact Ext.refl _ | apply Ext.drew | apply Ext.alloc | apply Ext.more_)⟩
      | none =>
        obtain rfl := HX.out
        exact rmult_run R C R2 C2 l l2 _ _ n1 cap1 n2 cap2 w HA.out HA2.out hxr hxr2 H0.out q1 q2
  · obtain rfl : aloneO 2 = X := by rw [← HX.out]; unfold multT; rw [if_pos h0]
    have h0' : ((C : Int) != (R2 : Int)) = true := by simp; omega
    clear h0
    go_enter Tryz.func69, Tryz.ntmps69
    go_wp2_with (go_at_call 23; (with_reducible refine (rbad_res 2 (by omega) _).mono ?_); rintro e w' ⟨D, m, cc, rfl, hD, hb⟩; obtain ⟨os5, d5, rfl⟩ := hb.more; clear hb; have hDr := hD.rd)
    exact bodyPost_ret (v := AV (aloneO 2).R (aloneO 2).C (.slice D m cc)) (by simp [results, Tryz.results69, go_sem]) rfl ⟨D, m, cc, rfl, ⟨(by (try simp only [more_alloc, more_more] at hDr); (try simp only [more_alloc, more_more]); (try simp only [drew_more] at hDr); (try simp only [more_drew] at hDr); (try simp only [Array.append_assoc] at hDr); (try simp only [Array.append_assoc]); exact Rd.swap hDr (by first | (simp; done) | (simp; omega) | omega) (by first | (simp; done) | (simp; omega) | omega) (by first | (simp; done) | (simp; omega) | omega)), hD.len, hD.cap, hD.small, hD.ok⟩, by with_reducible repeat (first | exact Ext.refl _ | apply Ext.drew | apply Ext.alloc | apply Ext.more_)⟩
end Go.Proofs.YtfpaalkllfbeoaaGreatDoor
namespace Go.Proofs.YtfpaalkllfbeoaaGreatDoor
open Go.RowKit NM
set_option maxHeartbeats 4000000 in
theorem rcall_mmult (A : Option Addr) (n cap : Nat) (xs : List Ar) (w : World) (h : ArgsIn w A n cap xs) (h1 : 2 ≤ n) (h2 : n ≤ 2) : Calls Tryz.prog 29 #[.string ⟨#[77, 77, 85, 76, 84]⟩, .slice A n cap] w (CallI w (productO xs)) := by
  have hsm := h.small
  have hcap := h.cap
  have q1 : ¬ n < 2 := by omega
  have q2 : ¬ 2 < n := by omega
  obtain ⟨R0, C0, l0, b1, off1, n1, cap1, b, off, x0, ha, rfl, ⟨v0, v1, v2⟩, _, _, _, _, _, hbl, _, _, _, harr, _⟩ := h.first (k := 0) (by omega)
  obtain ⟨R2, C2, l2, b2, off2, n2, cap2, b', off', x2, ha2, hbo, ⟨u0, u1, u2⟩, _, _, _, _, _, _, _, _, _, harr2, _⟩ := h.first (k := 1) (by omega)
  simp only [Option.some.injEq, Addr.mk.injEq, and_true] at hbo
  obtain ⟨rfl, rfl⟩ := hbo
  have hxr : NA.right ⟨R0, C0, l0⟩ := (h.all _ (List.mem_of_getElem? ha)).right
  have hxr2 : NA.right ⟨R2, C2, l2⟩ := (h.all _ (List.mem_of_getElem? ha2)).right
  simp only [Nat.zero_mul, Nat.add_zero, Nat.one_mul] at v0 v1 v2 u0 u1 u2
  have hX : productO xs = multT ⟨R0, C0, l0⟩ ⟨R2, C2, l2⟩ := by unfold productO argN; rw [ha, ha2]
  have hst := fun W (hW : Ext w W) => rmult_any R0 C0 R2 C2 l0 l2 _ _ n1 cap1 n2 cap2 W (harr.ext hW) (harr2.ext hW) hxr hxr2
  rw [← hX] at hst
  clear hX ha ha2 hxr hxr2 harr harr2
  have q3 : (1 : Int) < (n : Int) := by omega
  have H := Lib.hid h
  clear h
  generalize (productO xs) = X at *
  go_enter Tryz.func29, Tryz.ntmps29
  go_wp2_with (go_at_call 58; (with_reducible refine (rcount_mmult _).mono ?_); rintro e w' ⟨rfl, hb⟩; obtain ⟨os1, d1, rfl⟩ := hb.more; clear hb)
  go_loopw [8] (fun i wr => ∃ k : Nat, k ≤ n ∧ i = .int .i64 k ∧ Ext (more (w.alloc (Obj.cells #[.int .i64 0, .int .i64 0, .slice none 0 0] 31)) os1 d1) wr) (fun i _ => n - (intOf i).toNat)
  case atStart => exact ⟨0, Nat.zero_le _, rfl, Ext.refl _⟩
  case round =>
    obtain ⟨k, hk, rfl, hX⟩ := hrel
    obtain ⟨os, d, rfl⟩ := hX.more
    clear hX
    by_cases hlt : k < n
    · obtain ⟨a, b', off', ha, hbo, ⟨u0, u1, u2⟩, hok⟩ := H.out.at hlt
      simp only [Option.some.injEq, Addr.mk.injEq, and_true] at hbo
      obtain ⟨rfl, rfl⟩ := hbo
      have hra := fun W (hW : ArrIn W a.A a.n a.cap a.x.l) => refRightA_any a.x.R a.x.C a.A a.n a.cap a.x.l W hW
      rw [← rightA_eq _ _ _ hok.arr.ok, show rightA (a.x.R : Int) a.x.C a.x.l = true from hok.right] at hra
      have HOK := Lib.hid hok.arr
      clear hok hst
      go_wp2_with (go_at_call 16; refine (hra _ (HOK.out.ext (by repeat (first | (with_reducible (first | exact Ext.refl _ | exact ext_app3 _ _ _ _ _ _ _ | exact ext_app4 _ _ _ _ _ _ _ _ | exact ext_app _ _ _ _ _ | exact ext_app2 _ _ _ _ _ _)) | ((with_reducible refine ext_suffix ⟨_, ?_⟩); (try simp only [Array.append_assoc]); rfl) | (with_reducible (first | apply Ext.drew | apply Ext.alloc | apply Ext.more_)))))).mono ?_; rintro e w' ⟨rfl, hb⟩; obtain ⟨os', d', rfl⟩ := hb.more; clear hb)
      exact ⟨⟨k + 1, by omega, by go_num, by repeat (first | (with_reducible (first | exact Ext.refl _ | exact ext_app3 _ _ _ _ _ _ _ | exact ext_app4 _ _ _ _ _ _ _ _ | exact ext_app _ _ _ _ _ | exact ext_app2 _ _ _ _ _ _)) | ((with_reducible refine ext_suffix ⟨_, ?_⟩); (try simp only [Array.append_assoc]); rfl) | (with_reducible (first | apply Ext.drew | apply Ext.alloc | apply Ext.more_)))⟩, by simp [intOf]; omega⟩
    · go_upto_region 37 with fail
      refine wp_plan (S := Ext _) [(0, 0), (1, 0), (2, 0), (3, 0), (4, 1), (5, 2), (6, 2)] [5, 6] (by kernel_rfl) (by kernel_rfl) (by kernel_rfl) (fun _ _ d _ _ h => by cases d <;> exact h) (Ext.drew (Ext.refl _)) ?_
      iterate 4 ((refine wpPl_read (v := ?_) rfl ?_ (fun _ h => ?_) ?_; rotate_left 1; rfl; (obtain ⟨_, _, rfl⟩ := h.more; go_simp; try rfl)); try simp only [Act.put, zqA, zqB, zqC])
      (refine wpPl_eff rfl ?_ (fun K hK => ?_); rfl; go_simp; (go_at_call 69; (with_reducible refine (hst _ (by repeat (first | (with_reducible (first | exact Ext.refl _ | exact ext_app3 _ _ _ _ _ _ _ | exact ext_app4 _ _ _ _ _ _ _ _ | exact ext_app _ _ _ _ _ | exact ext_app2 _ _ _ _ _ _)) | ((with_reducible refine ext_suffix ⟨_, ?_⟩); (try simp only [Array.append_assoc]); rfl) | (with_reducible (first | apply Ext.drew | apply Ext.alloc | apply Ext.more_))))).mono ?_); rintro e w' ⟨D, m, cc, rfl, hD, hb⟩; have hNl := hD.len; have hNc := hD.cap; have hNs := hD.small; have hNo := hD.ok; have hDr := hD.rd; clear hD; obtain ⟨os5, d5, rfl⟩ := hb.more; clear hb); refine hK _ _ ?_ ?_; (repeat (first | (with_reducible (first | exact Ext.refl _ | exact ext_d _ _ _ _ | exact ext_app _ _ _ _ _ | exact ext_app2 _ _ _ _ _ _ | exact ext_app3 _ _ _ _ _ _ _ | exact ext_app4 _ _ _ _ _ _ _ _ | exact ext_app5 _ _ _ _ _ _ _ _ _)) | ((with_reducible refine ext_suffix ⟨_, ?_⟩); (try simp only [Array.append_assoc]); rfl) | (with_reducible (first | apply Ext.drew | apply Ext.alloc | apply Ext.more_)) | apply Ext.drew | apply Ext.alloc | apply Ext.more_)))
      try simp only [Act.put, zqA, zqB, zqC]
      (refine wpPl_tail rfl ?_ (fun K hK => ?_); rfl; go_simp; refine hK _ _ ?_)
      try simp only [Act.put]
      (refine wpPl_tail rfl ?_ (fun K hK => ?_); rfl; go_simp; refine hK _ _ ?_)
      try simp only [Act.put, zqA, zqB, zqC]
      refine wpPl_nil ?_
      go_wp2_with fail
      exact bodyPost_ret (v := .tuple #[AV X.R X.C (.slice D m cc), .bool true]) (by simp [results, Tryz.results29, go_sem]) rfl ⟨D, m, cc, rfl, ArrN.arr (base := w.heap.size) ⟨(by (try simp only [more_alloc, more_more] at hDr); (try simp only [more_alloc, more_more]); (try simp only [drew_more] at hDr); (try simp only [more_drew] at hDr); (try simp only [more_more] at hDr); (try simp only [more_more]); (try simp only [Array.append_assoc] at hDr); (try simp only [Array.append_assoc]); exact Rd.swap hDr (by first | (simp; done) | (simp; omega) | omega) (by first | (simp; done) | (simp; omega) | omega) (by first | (simp; done) | (simp; omega) | omega)), hNl, hNc, hNs, hNo⟩, by repeat (first | (with_reducible (first | exact Ext.refl _ | exact ext_app3 _ _ _ _ _ _ _ | exact ext_app4 _ _ _ _ _ _ _ _ | exact ext_app _ _ _ _ _ | exact ext_app2 _ _ _ _ _ _)) | ((with_reducible refine ext_suffix ⟨_, ?_⟩); (try simp only [Array.append_assoc]); rfl) | (with_reducible (first | apply Ext.drew | apply Ext.alloc | apply Ext.more_)))⟩
end Go.Proofs.YtfpaalkllfbeoaaGreatDoor
namespace Go.Proofs.YtfpaalkllfbeoaaGreatDoor
open Go.RowKit
/-- An operation that may come up at any time: its number, its slot, the object that it makes, what it answers. -/
structure FX where
  i : Nat
  t : Nat
  ob : Obj
  yv : Nat → Value
section
variable {P : Program} {ops : Array Oper} {Q : Exit → Act → World → Prop} {tl : List Nat}
def awayB (ops : Array Oper) (o : Oper) (F : List Nat) : Bool :=
  o.after.all (fun e => !Region.binds .any e || !F.contains e.on) && F.all (fun k => match ops[k]? with
    | some ok => (match ok.dst with | some t => !(o.looksAt ops).contains t && o.dst != some t | none => false) && (match o.dst with | some d => !(ok.looksAt ops).contains d | none => true) && o.apart ops ok
    | none => false)
theorem away {o : Oper} {F : List Nat} (h : awayB ops o F = true) : (∀ e ∈ o.after, Region.binds .any e = true → e.on ∉ F) ∧ ∀ k ∈ F, ∀ ok, ops[k]? = some ok → ∃ t, ok.dst = some t ∧ t ∉ o.looksAt ops ∧ o.dst ≠ some t ∧ (∀ d, o.dst = some d → d ∉ ok.looksAt ops) ∧ o.apart ops ok = true := by
  simp only [awayB, Bool.and_eq_true, List.all_eq_true, Array.all_eq_true_iff_forall_mem] at h
  refine ⟨fun e he hb hin => ?_, fun k hk ok hok => ?_⟩
  · have := h.1 e he
    rw [hb] at this
    simp only [Bool.not_true, Bool.false_or, Bool.not_eq_true'] at this
    exact absurd hin (by simpa using this)
  · have := h.2 k hk
    rw [hok] at this
    simp only [Bool.and_eq_true] at this
    obtain ⟨⟨h1, h2⟩, h3⟩ := this
    cases hd : ok.dst with
    | none => rw [hd] at h1; cases h1
    | some t =>
      rw [hd] at h1
      simp only [Bool.and_eq_true] at h1
      refine ⟨t, rfl, by simpa using h1.1, by simpa using h1.2, fun d hd' => ?_, h3⟩
      rw [hd'] at h2
      simpa using h2
variable {W0 : World} {fs : List FX} {bs tp : List Nat} {a : Act} {E : World → Prop} {i : Nat} {rest : List (Nat × Nat)} {o : Oper}
end
end Go.Proofs.YtfpaalkllfbeoaaGreatDoor
namespace Go.Proofs.YtfpaalkllfbeoaaGreatDoor
open Go.RowKit NM
theorem rcall_x (s : ByteArray) (lo hi : Nat) (h1 : lo ≤ 100) (h2 : 1 ≤ hi) (h3 : hi ≤ 100) (hc : ∀ W, Calls Tryz.prog 58 #[.string s] W fun e w' => e = .returned (.tuple #[.int .i64 lo, .int .i64 hi]) ∧ Ext W w')
    (F : NA) (A : Option Addr) (n cap : Nat) (gs : List GA) (w : World) (h : ArgsG w A n cap gs) (hy : ArgsIn w A n cap (arsOf gs) → lo ≤ n → n ≤ hi → Calls Tryz.prog 29 #[.string s, .slice A n cap] w (CallI w F)) :
    Calls Tryz.prog 29 #[.string s, .slice A n cap] w (CallI w (callX lo hi gs F)) := by
  have hl := h.len
  by_cases q : n < lo ∨ hi < n
  · rw [show callX lo hi gs F = aloneO 2 by unfold callX; rw [if_pos (by omega)]]
    exact rcall_few s lo hi h1 h2 h3 hc A n cap gs w h q
  · by_cases hr : ∀ g ∈ gs, g.right = true
    · rw [show callX lo hi gs F = F by unfold callX; rw [if_neg (by omega), if_pos (List.all_eq_true.2 hr)]]
      exact hy (arsOf_in h hr) (by omega) (by omega)
    · rw [show callX lo hi gs F = aloneO 9 by unfold callX; rw [if_neg (by omega), if_neg (fun e => hr (List.all_eq_true.1 e))]]
      exact rcall_bad s lo hi h1 h2 h3 hc A n cap gs w h (by omega) (by omega) hr
end Go.Proofs.YtfpaalkllfbeoaaGreatDoor
namespace Go.Proofs
open Go.Shelf
def Tryz.keys26_ren : Go.Shelf.Ren := ⟨fun | 7 => 26 | 10 => 37 | n => n, fun | 23 => 55 | 26 => 9 | 3 => 58 | 28 => 53 | 0 => 0 | 27 => 52 | 33 => 67 | 4 => 4 | n => n, fun | n => n⟩
theorem Tryz.keys26 : Go.Proofs.SlLaysZ.n7 Tryz.prog Tryz.keys26_ren := {
  mixed := by kernel_rfl
  f7 := ⟨Tryz.f26.name, by decide, Tryz.func26.trans (congrArg some (by kernel_rfl))⟩
  f10 := ⟨Tryz.f37.name, by decide, Tryz.func37.trans (congrArg some (by kernel_rfl))⟩
  t0 := Tryz.underlying0
  a0 := Tryz.isAgg0
  z0 := Tryz.sizeOf0
  v0 := Tryz.zeroValue0
  t4 := Tryz.underlying4
  a4 := Tryz.isAgg4
  z4 := Tryz.sizeOf4
  v4 := Tryz.zeroValue4
  t23 := Tryz.underlying55
  a23 := Tryz.isAgg55
  z23 := Tryz.sizeOf55
  v23 := Tryz.zeroValue55
  t26 := Tryz.underlying9
  a26 := Tryz.isAgg9
  z26 := Tryz.sizeOf9
  v26 := Tryz.zeroValue9
  t27 := Tryz.underlying52
  a27 := Tryz.isAgg52
  z27 := Tryz.sizeOf52
  v27 := Tryz.zeroValue52
  t28 := Tryz.underlying53
  a28 := Tryz.isAgg53
  z28 := Tryz.sizeOf53
  v28 := Tryz.zeroValue53
  t33 := Tryz.underlying67
  a33 := Tryz.isAgg67
  z33 := Tryz.sizeOf67
  v33 := Tryz.zeroValue67 }
def Tryz.sorted25_ren : Go.Shelf.Ren := ⟨fun | 6 => 25 | 8 => 35 | 9 => 36 | 11 => 78 | 13 => 80 | 12 => 79 | 23 => 139 | 24 => 140 | 14 => 130 | 15 => 131 | 16 => 132 | 17 => 133 | 18 => 134 | 19 => 135 | 20 => 136 | 21 => 137 | 22 => 138 | 25 => 165 | 26 => 166 | 27 => 167 | 28 => 168 | 29 => 169 | 30 => 170 | 31 => 199 | n => n, fun | 26 => 9 | 28 => 53 | 24 => 24 | 0 => 0 | 3 => 3 | 37 => 48 | 48 => 132 | 50 => 47 | 4 => 4 | 40 => 125 | 39 => 124 | 45 => 101 | 5 => 5 | 9 => 9 | 51 => 149 | 55 => 153 | 57 => 178 | 58 => 75 | 33 => 67 | n => n, fun | n => n⟩
theorem Tryz.sorted25 : Go.Proofs.SlLaysZ.n6 Tryz.prog Tryz.sorted25_ren := {
  mixed := by kernel_rfl
  f6 := ⟨Tryz.f25.name, by decide, Tryz.func25.trans (congrArg some (by kernel_rfl))⟩
  f8 := ⟨Tryz.f35.name, by decide, Tryz.func35.trans (congrArg some (by kernel_rfl))⟩
  f11 := ⟨Tryz.f78.name, by decide, Tryz.func78.trans (congrArg some (by kernel_rfl))⟩
  t0 := Tryz.underlying0
  a0 := Tryz.isAgg0
  z0 := Tryz.sizeOf0
  v0 := Tryz.zeroValue0
  t24 := Tryz.underlying24
  a24 := Tryz.isAgg24
  z24 := Tryz.sizeOf24
  v24 := Tryz.zeroValue24
  t26 := Tryz.underlying9
  a26 := Tryz.isAgg9
  z26 := Tryz.sizeOf9
  v26 := Tryz.zeroValue9
  t28 := Tryz.underlying53
  a28 := Tryz.isAgg53
  z28 := Tryz.sizeOf53
  v28 := Tryz.zeroValue53
  i26 := by kernel_rfl }
def Tryz.sort36_ren : Go.Shelf.Ren := ⟨fun | 6 => 36 | 8 => 80 | 9 => 79 | 19 => 139 | 20 => 140 | 21 => 130 | 22 => 131 | 23 => 132 | 24 => 133 | 25 => 134 | 26 => 135 | 27 => 136 | 28 => 137 | 29 => 138 | 36 => 165 | 31 => 166 | 32 => 167 | 37 => 168 | 38 => 169 | 39 => 170 | 41 => 199 | n => n, fun | 27 => 24 | 29 => 9 | 3 => 3 | 32 => 48 | 26 => 24 | 0 => 0 | 44 => 132 | 46 => 47 | 4 => 4 | 36 => 125 | 35 => 124 | 41 => 101 | 5 => 5 | 9 => 9 | 53 => 149 | 57 => 153 | 63 => 178 | 64 => 75 | n => n, fun | n => n⟩
theorem Tryz.sort36 : Go.Proofs.SlLaysM.n6 Tryz.prog Tryz.sort36_ren := {
  mixed := by kernel_rfl
  f6 := ⟨Tryz.f36.name, by decide, Tryz.func36.trans (congrArg some (by kernel_rfl))⟩
  f8 := Tryz.func80.trans (congrArg some (by kernel_rfl))
  f9 := ⟨Tryz.f79.name, by decide, Tryz.func79.trans (congrArg some (by kernel_rfl))⟩
  f19 := Tryz.func139.trans (congrArg some (by kernel_rfl))
  f20 := Tryz.func140.trans (congrArg some (by kernel_rfl))
  f21 := ⟨Tryz.f130.name, by decide, Tryz.func130.trans (congrArg some (by kernel_rfl))⟩
  f22 := ⟨Tryz.f131.name, by decide, Tryz.func131.trans (congrArg some (by kernel_rfl))⟩
  f23 := ⟨Tryz.f132.name, by decide, Tryz.func132.trans (congrArg some (by kernel_rfl))⟩
  f24 := ⟨Tryz.f133.name, by decide, Tryz.func133.trans (congrArg some (by kernel_rfl))⟩
  f25 := ⟨Tryz.f134.name, by decide, Tryz.func134.trans (congrArg some (by kernel_rfl))⟩
  f26 := ⟨Tryz.f135.name, by decide, Tryz.func135.trans (congrArg some (by kernel_rfl))⟩
  f27 := ⟨Tryz.f136.name, by decide, Tryz.func136.trans (congrArg some (by kernel_rfl))⟩
  f28 := ⟨Tryz.f137.name, by decide, Tryz.func137.trans (congrArg some (by kernel_rfl))⟩
  f29 := ⟨Tryz.f138.name, by decide, Tryz.func138.trans (congrArg some (by kernel_rfl))⟩
  f31 := Tryz.func166.trans (congrArg some (by kernel_rfl))
  f32 := Tryz.func167.trans (congrArg some (by kernel_rfl))
  f36 := ⟨Tryz.f165.name, by decide, Tryz.func165.trans (congrArg some (by kernel_rfl))⟩
  f37 := ⟨Tryz.f168.name, by decide, Tryz.func168.trans (congrArg some (by kernel_rfl))⟩
  f38 := ⟨Tryz.f169.name, by decide, Tryz.func169.trans (congrArg some (by kernel_rfl))⟩
  f39 := ⟨Tryz.f170.name, by decide, Tryz.func170.trans (congrArg some (by kernel_rfl))⟩
  f41 := ⟨Tryz.f199.name, by decide, Tryz.func199.trans (congrArg some (by kernel_rfl))⟩
  t0 := Tryz.underlying0
  a0 := Tryz.isAgg0
  z0 := Tryz.sizeOf0
  v0 := Tryz.zeroValue0
  t3 := Tryz.underlying3
  a3 := Tryz.isAgg3
  z3 := Tryz.sizeOf3
  v3 := Tryz.zeroValue3
  t4 := Tryz.underlying4
  a4 := Tryz.isAgg4
  z4 := Tryz.sizeOf4
  v4 := Tryz.zeroValue4
  t5 := Tryz.underlying5
  a5 := Tryz.isAgg5
  z5 := Tryz.sizeOf5
  v5 := Tryz.zeroValue5
  t9 := Tryz.underlying9
  a9 := Tryz.isAgg9
  z9 := Tryz.sizeOf9
  v9 := Tryz.zeroValue9
  t26 := Tryz.underlying24
  a26 := Tryz.isAgg24
  z26 := Tryz.sizeOf24
  v26 := Tryz.zeroValue24
  t27 := Tryz.underlying24
  a27 := Tryz.isAgg24
  z27 := Tryz.sizeOf24
  v27 := Tryz.zeroValue24
  t29 := Tryz.underlying9
  a29 := Tryz.isAgg9
  z29 := Tryz.sizeOf9
  v29 := Tryz.zeroValue9
  t32 := Tryz.underlying48
  a32 := Tryz.isAgg48
  z32 := Tryz.sizeOf48
  v32 := Tryz.zeroValue48
  t35 := Tryz.underlying124
  a35 := Tryz.isAgg124
  z35 := Tryz.sizeOf124
  v35 := Tryz.zeroValue124
  t36 := Tryz.underlying125
  a36 := Tryz.isAgg125
  z36 := Tryz.sizeOf125
  v36 := Tryz.zeroValue125
  t41 := Tryz.underlying101
  a41 := Tryz.isAgg101
  z41 := Tryz.sizeOf101
  v41 := Tryz.zeroValue101
  t44 := Tryz.underlying132
  a44 := Tryz.isAgg132
  z44 := Tryz.sizeOf132
  v44 := Tryz.zeroValue132
  t46 := Tryz.underlying47
  a46 := Tryz.isAgg47
  z46 := Tryz.sizeOf47
  v46 := Tryz.zeroValue47
  t53 := Tryz.underlying149
  a53 := Tryz.isAgg149
  z53 := Tryz.sizeOf149
  v53 := Tryz.zeroValue149
  t57 := Tryz.underlying153
  a57 := Tryz.isAgg153
  z57 := Tryz.sizeOf153
  v57 := Tryz.zeroValue153
  t63 := Tryz.underlying178
  a63 := Tryz.isAgg178
  z63 := Tryz.sizeOf178
  v63 := Tryz.zeroValue178
  t64 := Tryz.underlying75
  a64 := Tryz.isAgg75
  z64 := Tryz.sizeOf75
  v64 := Tryz.zeroValue75 }
open Go.RowKit Go.Maps Go.Sort
theorem Tryz.sorts25 (m : Nat) : AnyZ.SortsIn Tryz.prog Tryz.sorted25_ren Fence.wide m :=
  ⟨fun blk off cap ss W hH hblk hsz => callsIn_wide.2 (AnyM.slices_Sort_string Tryz.sort36 blk off cap ss W hH hblk hsz),
   fun p cap W => callsIn_wide.2 (AnyM.slices_Sort_string_none Tryz.sort36 p cap W)⟩
theorem Tryz.maps_Keys_26 (mb : Option Nat) (W : World) : CallsIn Fence.wide 5 Tryz.prog 26 #[.map mb] W fun e w' => e = .returned (.func (.func 37) #[] #[.pointer (some ⟨W.heap.size, 0, none⟩)]) ∧ w' = W.alloc (.cells #[.map mb] 55) :=
  AnyZ.keys_in Tryz.keys26 Fence.wide 5 trivial rfl mb W
set_option maxHeartbeats 1000000 in
theorem Tryz.slices_Sorted_keys_25_26 {H : Type} (b nn : Nat) (D0 : DataW H) (R : Value → Option (DataW H × List MemPlace)) (w : World) (hown : w.ownsMap Tryz.prog 9 R b nn D0) (hmax : Maps.size D0 ≤ maxLen) (hbytes : Maps.size D0 * 16 ≤ 140737488355328) :
    CallsIn Fence.wide 5 Tryz.prog 25 #[.func (.func 37) #[] #[.pointer (some ⟨w.heap.size, 0, none⟩)]] (w.alloc (.cells #[.map (some b)] 55)) fun e w' => ∃ (v : Value) (ss : List (List UInt8)), e = .returned v ∧ ss.Perm (strKeys D0) ∧
      w'.ownsRow (w.alloc (.cells #[.map (some b)] 55)).heap.size 9 1 v ss.length ((ss.mergeSort (fun x y => decide (x ≤ y))).map encStr) ∧ (v = .slice none 0 0 ↔ ss = []) ∧ Below (w.alloc (.cells #[.map (some b)] 55)).heap.size (w.alloc (.cells #[.map (some b)] 55)) w' := by
  have hbl := hown.lt
  have hseq : SeqGives Fence.wide 2 Tryz.prog 37 #[.pointer (some ⟨w.heap.size, 0, none⟩)] encStr (fun ss => ss.Perm (strKeys D0)) (Maps.size D0) (w.alloc (.cells #[.map (some b)] 55)) :=
    AnyZ.keys_gives (ρ := Tryz.keys26_ren) { Tryz.keys26 with } Fence.wide _ trivial rfl (by omega) w.heap.size b nn D0 _ (by simp) (by simp) (by
      obtain ⟨es, clock, hb, Ft, hs, hD⟩ := hown
      exact ⟨es, clock, (Below.heap_alloc _ _ b hbl).trans hb, Ft, hs, hD⟩)
  exact AnyZ.sorted_in Tryz.sorted25 Fence.wide 5 trivial trivial trivial trivial rfl (by omega) (Tryz.sorts25 _) (enters_of Tryz.func36 (by kernel_rfl) rfl) 37 #[.pointer (some ⟨w.heap.size, 0, none⟩)] trivial (enters_of Tryz.func37 (by kernel_rfl) rfl) _ _ hmax hbytes _ hseq
end Go.Proofs
namespace Go.Proofs.YtfpaalkllfbeoaaGreatDoor
open Go.RowKit NM Go.Maps Go.Sort Go.Shelf
theorem tab_size (p1 p2 : Nat) : Maps.size (tabD (farrayL p1 p2)) = 14 := by kernel_rfl
theorem tab_keys (p1 p2 : Nat) : strKeys (tabD (farrayL p1 p2)) = strKeys (tabD (farrayL 0 0)) := by kernel_rfl
theorem tab_keys_len : (strKeys (tabD (farrayL 0 0))).length = 14 := by kernel_rfl
set_option maxHeartbeats 1000000 in
theorem gnames_any (w : World) :
    Calls Tryz.prog 12 #[] w fun e w' => ∃ (v : Value) (ss : List (List UInt8)), e = .returned v ∧ ss.Perm (strKeys (tabD (farrayL 0 0))) ∧ w'.ownsRow w.heap.size 9 1 v 14 ((ss.mergeSort (fun x y => decide (x ≤ y))).map encStr) ∧ Ext w w' := by
  refine (callsIn_wide (n := 6)).1 ?_
  have hfK : Fence.wide.fn 26 := trivial
  have hfS : Fence.wide.fn 25 := trivial
  have hfT : Fence.wide.fn 27 := trivial
  refine callsIn_of_wp Tryz.func12 rfl trivial ?_ rfl
  simp only [Tryz.ntmps12, List.size_toArray, List.length_cons, List.length_nil, Nat.reduceAdd, Nat.reduceSub, Array.replicate_succ, Array.replicate_zero, List.push_toArray, List.append_toArray, List.nil_append, List.cons_append]
  gi_wp2_with (first
    | (gi_at_call 27; refine (callsIn_wide.2 (gtable_any _)).mono ?_; rintro e w' ⟨bm, rfl, p1, p2, hT⟩)
    | (gi_at_call 26; refine (Tryz.maps_Keys_26 _ _).mono ?_; rintro e w' ⟨rfl, rfl⟩)
    | (gi_at_call 25; refine (Tryz.slices_Sorted_keys_25_26 bm _ _ tabR _ hT.tab (by rw [tab_size]; decide) (by rw [tab_size]; decide)).mono ?_; rintro e w' ⟨v, ss, rfl, hS, hrow, hnil, hb⟩))
  go_ret
  rw [tab_keys] at hS
  have hl : ss.length = 14 := by rw [hS.length_eq, tab_keys_len]
  rw [hl] at hrow
  have hx := hT.ext
  refine ⟨v, ss, rfl, hS, ownsRow_base_a hrow (by have := hx.size; simp; omega), hx.trans (((Ext.refl _).alloc _).trans hb)⟩
end Go.Proofs.YtfpaalkllfbeoaaGreatDoor
namespace Go.Proofs.YtfpaalkllfbeoaaGreatDoor
open Go.RowKit NM
theorem floor_self {m e : Int} (h : Rt m e) (he : 0 ≤ e) : floorS m e = (m, e) := by
  unfold floorS
  rw [if_neg (fun h' => h' h), if_pos he]
theorem int_whole {n : Int} (h : n.natAbs < T 15) : intS (wholeN n).1 (wholeN n).2 = some n := by
  obtain ⟨h1, h2, h3, h4, h5⟩ := wholex h
  generalize wholeN n = p at *
  obtain ⟨m, e⟩ := p
  simp only at *
  have hH := HX_pos
  have hq : m * (T e.toNat : Nat) = n := by
    rw [sc_whole h5, sc_whole (m := n) (e := 0) (by omega)] at h3
    have h6 := Int.eq_of_mul_eq_mul_right (by omega) h3
    rw [h6]
    show n * ((T 0 : Nat) : Int) = n
    simp [T]
  have hT15 : T 15 = 1000000000000000 := by decide
  rw [hT15] at h
  unfold intS
  rw [if_neg (by rintro (h | h); exact h h2; omega), int_go _ _ (by rw [hq]; omega), hq]
theorem whole_cnt {n : Int} (h : n.natAbs < T 15) : wholeO (cntV n) = (n, 0) := by
  obtain ⟨h1, h2, h3, h4, h5⟩ := wholex h
  have hi := int_whole h
  have h6 : tnF (cntV n) = 0 := rfl
  have h7 : tnP (cntV n) = ((wholeN n).1, (wholeN n).2) := rfl
  unfold wholeO
  rw [if_pos h6, h7]
  simp only
  rw [floor_self h2 h5]
  simp only
  rw [hi]
  rfl
end Go.Proofs.YtfpaalkllfbeoaaGreatDoor
namespace Go.Proofs.YtfpaalkllfbeoaaGreatDoor
open Go.RowKit NM
set_option maxHeartbeats 1000000 in
theorem gcall_no (s : ByteArray) (hs : s.size ≤ maxLen) (hl : ∀ p1 p2, tabAt (farrayL p1 p2) s.data.toList = none) (A : Option Addr) (n cap : Nat) (w : World) :
    Calls Tryz.prog 18 #[.string s, .slice A n cap] w fun e w' => e = .returned (.tuple #[AV 0 0 (.slice none 0 0), .bool false]) ∧ Ext w w' := by
  go_enter Tryz.func18, Tryz.ntmps18
  go_wp2_with (first | (go_at_call 27; (with_reducible refine (gtable_any _).mono ?_); rintro e w' ⟨bm, rfl, p1, p2, hT⟩; have hxT := hT.ext; have ht := hl p1 p2; have HT := Lib.hid ht; clear ht; obtain ⟨os1, d1, rfl⟩ := hxT.more) | (refine wpL_look rfl _ _ _ rfl 9 58 Tryz.underlying9 Tryz.underlying55 _ _ rfl (hT.tab.ext (by repeat (first | (with_reducible (first | exact Ext.refl _ | exact ext_app _ _ _ _ _ | exact ext_app2 _ _ _ _ _ _)) | ((with_reducible refine ext_suffix ⟨_, ?_⟩); (try simp only [Array.append_assoc]); rfl) | (with_reducible (first | apply Ext.drew | apply Ext.alloc | apply Ext.more_))))) (gfarray_pair _ _) _ (zero_gfn _) _ rfl hs (.agg #[.int .i64 0, .int .i64 0, .nilFunc]) false (by rw [HT.out]; rfl) (by rw [HT.out]; rfl) ?_))
  exact bodyPost_ret (v := .tuple #[AV 0 0 (.slice none 0 0), .bool false]) (by simp [results, Tryz.results18, go_sem]) rfl ⟨rfl, by repeat (first | (with_reducible (first | exact Ext.refl _ | exact ext_app _ _ _ _ _ | exact ext_app2 _ _ _ _ _ _)) | ((with_reducible refine ext_suffix ⟨_, ?_⟩); (try simp only [Array.append_assoc]); rfl) | (with_reducible (first | apply Ext.drew | apply Ext.alloc | apply Ext.more_)))⟩
def numK (k : Int) : Val := ⟨1, k, 0, ⟨#[]⟩, false, 0⟩
theorem rt_2 : Rt 2 0 := Or.inr ⟨by decide, by decide, by decide, by decide, by have h := (nd_le_iff 2 1).2 (by decide); show ((nd 2 : Nat) : Int) + 0 ≤ 40; omega⟩
theorem rt_3 : Rt 3 0 := Or.inr ⟨by decide, by decide, by decide, by decide, by have h := (nd_le_iff 3 1).2 (by decide); show ((nd 3 : Nat) : Int) + 0 ≤ 40; omega⟩
theorem rt_4 : Rt 4 0 := Or.inr ⟨by decide, by decide, by decide, by decide, by have h := (nd_le_iff 4 1).2 (by decide); show ((nd 4 : Nat) : Int) + 0 ≤ 40; omega⟩
theorem add_1 : addS 1 0 1 0 = some (2, 0) := by
  unfold addS; rw [if_pos ⟨rt_one, rt_one⟩]; exact rnd_of_right false rt_2
theorem add_2 : addS 2 0 1 0 = some (3, 0) := by
  unfold addS; rw [if_pos ⟨rt_2, rt_one⟩]; exact rnd_of_right false rt_3
theorem add_3 : addS 3 0 1 0 = some (4, 0) := by
  unfold addS; rw [if_pos ⟨rt_3, rt_one⟩]; exact rnd_of_right false rt_4
theorem seq_4 : seqS (1, 0) (1, 0) 3 = some ([numK 1, numK 2, numK 3, numK 4], (4, 0)) := by
  simp only [seqS, add_1, add_2, add_3]; rfl
theorem cnt_3 : cntV 3 = numK 3 := by
  have h : wholeN 3 = (3, 0) := by
    have : rndI 3 0 = some (3, 0) := rnd_of_right false rt_3
    unfold wholeN; rw [this]; rfl
  unfold cntV; rw [h]; rfl
theorem given_one {y : Val} (h : y.kind = 1) (D : Option Addr) (m c : Nat) (xs : List Ar) (k : Nat) (hk : xs[k]? = some (arAt (oneA y) D m c)) : givenB xs k = true ∧ argV xs k = y := by
  have hv : getV (arAt (oneA y) D m c).x.l 0 = y := rfl
  constructor
  · unfold givenB; rw [hk]; simp only; rw [hv, h]; rfl
  · unfold argV; rw [hk]; exact hv
theorem seq_22 (D1 D2 : Option Addr) (m1 c1 m2 c2 : Nat) : sequenceO [arAt (oneA (cntV 2)) D1 m1 c1, arAt (oneA (cntV 2)) D2 m2 c2] = ⟨2, 2, [numK 1, numK 2, numK 3, numK 4]⟩ := by
  obtain ⟨g0, a0⟩ := given_one (y := cntV 2) rfl D1 m1 c1 [arAt (oneA (cntV 2)) D1 m1 c1, arAt (oneA (cntV 2)) D2 m2 c2] 0 rfl
  obtain ⟨g1, a1⟩ := given_one (y := cntV 2) rfl D2 m2 c2 [arAt (oneA (cntV 2)) D1 m1 c1, arAt (oneA (cntV 2)) D2 m2 c2] 1 rfl
  have hw : wholeO (cntV 2) = (2, 0) := whole_cnt (n := 2) (by decide)
  unfold sequenceO numO tnO
  rw [g0, g1, a0, a1, hw]
  rw [show givenB [arAt (oneA (cntV 2)) D1 m1 c1, arAt (oneA (cntV 2)) D2 m2 c2] 2 = false from rfl, show givenB [arAt (oneA (cntV 2)) D1 m1 c1, arAt (oneA (cntV 2)) D2 m2 c2] 3 = false from rfl]
  simp only [if_true, Bool.false_eq_true, if_false]
  unfold seqT
  simp only [ne_eq, not_true, if_false]
  rw [if_neg (by decide), if_neg (by decide)]
  rw [show (2 : Int).toNat * (2 : Int).toNat - 1 = 3 from rfl, seq_4]
  rfl
def awL : List Val := [numK 1, numK 2, numK 3, numK 4]
theorem aw_right : NA.right ⟨2, 2, awL⟩ := by
  refine rightA_nat.2 ⟨by decide, by decide, by decide, rfl, fun x hx => ?_⟩
  simp only [awL, List.mem_cons, List.not_mem_nil, or_false] at hx
  rcases hx with rfl | rfl | rfl | rfl
  · exact right_num rt_one
  · exact right_num rt_2
  · exact right_num rt_3
  · exact right_num rt_4
theorem aw_turn (D : Option Addr) (m c : Nat) : turnO [arAt ⟨2, 2, awL⟩ D m c] = ⟨2, 2, [numK 1, numK 3, numK 2, numK 4]⟩ := by
  show (⟨2, 2, turnL 2 2 awL⟩ : NA) = _
  rw [show turnL 2 2 awL = [numK 1, numK 3, numK 2, numK 4] by simp [turnL, vals, awL, getV, List.range, List.range.loop]]
theorem call_seq22 (A : Option Addr) (w : World) (htab : Tab w) (D1 D2 : Option Addr) (m1 c1 m2 c2 : Nat) (h : ArgsIn w A 2 2 [arAt (oneA (cntV 2)) D1 m1 c1, arAt (oneA (cntV 2)) D2 m2 c2]) :
    Calls Tryz.prog 18 #[.string ⟨#[83, 69, 81, 85, 69, 78, 67, 69]⟩, .slice A 2 2] w (CallG w ⟨2, 2, awL⟩) := by
  have hc := pcall_sequence A 2 2 _ w htab h.toG
  rw [arsOf_toG, callX_in _ (by simp) (by simp) (fun a ha => (h.all a ha).right), seq_22] at hc
  exact hc
theorem call_turn4 (A : Option Addr) (w : World) (htab : Tab w) (D1 : Option Addr) (m1 c1 : Nat) (h : ArgsIn w A 1 1 [arAt ⟨2, 2, awL⟩ D1 m1 c1]) :
    Calls Tryz.prog 18 #[.string ⟨#[84, 82, 65, 78, 83, 80, 79, 83, 69]⟩, .slice A 1 1] w (CallG w ⟨2, 2, [numK 1, numK 3, numK 2, numK 4]⟩) := by
  have hc := pcall_transpose A 1 1 _ w htab h.toG
  rw [arsOf_toG, callX_in _ (by simp) (by simp) (fun a ha => (h.all a ha).right), aw_turn] at hc
  exact hc
theorem num15_three (W : World) : Calls Tryz.prog 17 #[.int .i64 3] W fun e w' => ∃ b9 off9 c9, e = .returned (AV 1 1 (.slice (some ⟨b9, off9, none⟩) 1 c9)) ∧ ValAt w' b9 off9 (numK 3) ∧ 1 ≤ c9 ∧ Ext W w' := by
  have h := num15_any 3 W (by decide)
  rw [cnt_3] at h
  refine h.mono ?_
  rintro e w' ⟨D, m, c, rfl, hN, hb⟩
  have hA := hN.arr
  obtain rfl : 1 = m := hA.len
  obtain ⟨x, b, off, hx, _, rfl, hv⟩ := hA.at (k := 0) (by decide)
  obtain rfl : numK 3 = x := by simpa [oneA] using hx
  rw [Nat.zero_mul, Nat.add_zero] at hv
  exact ⟨b, off, c, rfl, hv, hA.cap, hb⟩
set_option maxHeartbeats 4000000 in
theorem awake15_any (w : World) (htab : Tab w) :
    Calls Tryz.prog 11 #[] w fun e w' => e = .returned (.bool true) ∧ Ext w w' := by
  have h2 := fun W => num15_any 2 W (by decide)
  have r2 := one_right_ (cnt_right15 (n := 2) (by decide))
  have hq := fun W A hT D1 D2 m1 c1 m2 c2 h => call_seq22 A W hT D1 D2 m1 c1 m2 c2 h
  generalize cntV 2 = y2 at *
  have HT := Lib.hid htab
  clear htab
  go_enter Tryz.func11, Tryz.ntmps11
  go_wp2_with fail
  (go_at_call 17; (with_reducible refine (h2 _).mono ?_); rintro e w' ⟨D1, m1, c1, rfl, hN1, hb⟩; obtain ⟨os1, d1, rfl⟩ := hb.more; clear hb; have hA1 := hN1.arr; (try simp only [more_more, Array.append_assoc] at hA1))
  go_wp2_with fail
  (go_at_call 17; (with_reducible refine (h2 _).mono ?_); rintro e w' ⟨D2, m2, c2, rfl, hN2, hb⟩; obtain ⟨os2, d2, rfl⟩ := hb.more; clear hb; have hA2 := hN2.arr; (try simp only [more_more, Array.append_assoc] at hA2))
  go_wp2_with fail
  refine (hq _ _ (HT.out.ext (by repeat (first | (with_reducible (first | exact Ext.refl _ | exact ext_app _ _ _ _ _ | exact ext_app2 _ _ _ _ _ _)) | ((with_reducible refine ext_suffix ⟨_, ?_⟩); (try simp only [Array.append_assoc]); rfl) | (with_reducible (first | apply Ext.drew | apply Ext.alloc | apply Ext.more_))))) D1 D2 m1 c1 m2 c2 (argsG_new _ (by simp) rfl rfl (by decide) (by intro a ha; simp only [List.mem_cons, List.not_mem_nil, or_false] at ha; rcases ha with rfl | rfl; exact ⟨hA1.ext (by repeat (first | (with_reducible (first | exact Ext.refl _ | exact ext_app _ _ _ _ _ | exact ext_app2 _ _ _ _ _ _)) | ((with_reducible refine ext_suffix ⟨_, ?_⟩); (try simp only [Array.append_assoc]); rfl) | (with_reducible (first | apply Ext.drew | apply Ext.alloc | apply Ext.more_)))), r2⟩; exact ⟨hA2.ext (by repeat (first | (with_reducible (first | exact Ext.refl _ | exact ext_app _ _ _ _ _ | exact ext_app2 _ _ _ _ _ _)) | ((with_reducible refine ext_suffix ⟨_, ?_⟩); (try simp only [Array.append_assoc]); rfl) | (with_reducible (first | apply Ext.drew | apply Ext.alloc | apply Ext.more_)))), r2⟩))).mono ?_
  rintro e w' ⟨D4, m4, c4, rfl, hN4, hb⟩
  obtain ⟨os4, d4, rfl⟩ := hb.more
  clear hb
  have hA4 := hN4.arr
  (try simp only [more_more, Array.append_assoc] at hA4)
  have hm4 := hA4.len
  obtain rfl : 4 = m4 := hm4
  clear hN4 hA1 hA2 hN1 hN2
  go_wp2_with fail
  refine (call_turn4 _ _ (HT.out.ext (by repeat (first | (with_reducible (first | exact Ext.refl _ | exact ext_app _ _ _ _ _ | exact ext_app2 _ _ _ _ _ _)) | ((with_reducible refine ext_suffix ⟨_, ?_⟩); (try simp only [Array.append_assoc]); rfl) | (with_reducible (first | apply Ext.drew | apply Ext.alloc | apply Ext.more_))))) D4 4 c4 (argsG_new _ (by simp) rfl rfl (by decide) (by intro a ha; obtain rfl := List.mem_singleton.1 ha; exact ⟨hA4.ext (by repeat (first | (with_reducible (first | exact Ext.refl _ | exact ext_app _ _ _ _ _ | exact ext_app2 _ _ _ _ _ _)) | ((with_reducible refine ext_suffix ⟨_, ?_⟩); (try simp only [Array.append_assoc]); rfl) | (with_reducible (first | apply Ext.drew | apply Ext.alloc | apply Ext.more_)))), aw_right⟩))).mono ?_
  rintro e w' ⟨D5, m5, c5, rfl, hN5, hb⟩
  obtain ⟨os5, d5, rfl⟩ := hb.more
  clear hb
  have hA5 := hN5.arr
  (try simp only [more_more, Array.append_assoc] at hA5)
  have hm5 := hA5.len
  obtain rfl : 4 = m5 := hm5
  clear hN5
  go_wp2_with fail
  refine (gcall_no ⟨#[83, 85, 77]⟩ (by decide) (fun _ _ => rfl) _ _ _ _).mono ?_
  rintro e w' ⟨rfl, hb⟩
  obtain ⟨os6, d6, rfl⟩ := hb.more
  clear hb
  go_upto_region 4 with fail
  refine wp_world fun W0 hW0 => ?_
  have hx0 : Ext w W0 := by rw [hW0]; exact (by repeat (first | (with_reducible (first | exact Ext.refl _ | exact ext_app _ _ _ _ _ | exact ext_app2 _ _ _ _ _ _)) | ((with_reducible refine ext_suffix ⟨_, ?_⟩); (try simp only [Array.append_assoc]); rfl) | (with_reducible (first | apply Ext.drew | apply Ext.alloc | apply Ext.more_))))
  have hA0 : ArrIn W0 D5 4 c5 [numK 1, numK 3, numK 2, numK 4] := by rw [hW0]; exact hA5.ext (by repeat (first | (with_reducible (first | exact Ext.refl _ | exact ext_app _ _ _ _ _ | exact ext_app2 _ _ _ _ _ _)) | ((with_reducible refine ext_suffix ⟨_, ?_⟩); (try simp only [Array.append_assoc]); rfl) | (with_reducible (first | apply Ext.drew | apply Ext.alloc | apply Ext.more_))))
  have a2 : W0.cell? ⟨w.heap.size + (os1.size + os2.size) + 1 + os4.size, 2, none⟩ = some (.slice D4 4 c4) := by rw [hW0]; go_simp
  have b2 : W0.cell? ⟨w.heap.size + (os1.size + os2.size) + 1 + os4.size + 1 + 1 + os5.size, 2, none⟩ = some (.slice D5 4 c5) := by rw [hW0]; go_simp
  have hla := lt_of_cell a2
  have hlb := lt_of_cell b2
  clear hW0 hA4 hA5
  generalize w.heap.size + (os1.size + os2.size) + 1 + os4.size + 1 + 1 + os5.size = pb at *
  generalize w.heap.size + (os1.size + os2.size) + 1 + os4.size = pa at *
  obtain ⟨x5, b5, off5, hx5, _, rfl, ⟨y0, y1, y2', y3, y4, y5⟩⟩ := hA0.at (k := 1) (by decide)
  obtain rfl : numK 3 = x5 := by simpa using hx5
  have hl5 := lt_of_cell y0
  have hc5 := hA0.cap
  clear hA0 hx5
  simp only [numK] at y0 y1 y2' y3 y4 y5
  refine wp_plan (S := Ext _) [(0, 0), (1, 0), (2, 0), (3, 0), (4, 0), (5, 0), (6, 0), (7, 0), (8, 0), (9, 0), (10, 0), (11, 0), (12, 0), (13, 0), (14, 0), (15, 0), (16, 0), (17, 0), (18, 0), (19, 0), (20, 0), (21, 0), (22, 0), (23, 0), (24, 0), (25, 1), (26, 0), (27, 0), (28, 1), (29, 0), (30, 0), (31, 0), (32, 1), (33, 0), (34, 0), (35, 0), (36, 0)] [] (by kernel_rfl) (by kernel_rfl) (by kernel_rfl) (fun _ _ d _ _ h => by cases d <;> exact h) (Ext.drew (Ext.refl _)) ?_
  iterate 2 ((refine wpPl_read (v := ?_) rfl ?_ (fun _ h => ?_) ?_; rotate_left 1; rfl; (obtain ⟨_, _, rfl⟩ := h.more; go_simp; try rfl)); try simp only [Act.put, zqA, zqB, zqC])
  first | (refine wpPl_skip rfl rfl ?_) | (refine wpPl_read (v := ?_) rfl ?_ (fun w1 h1 => ?_) ?_; rotate_left 1; rfl; (obtain ⟨os1, d1, rfl⟩ := h1.more; go_simp; first | done | rfl)) | (refine wpPl_gread (v := ?_) (c := ?_) rfl rfl rfl rfl ?_ (fun hc w1 h1 => ?_) ?_; rotate_left 2; (first | exact gc_t _ | exact gc_f _ | exact gc_gt _ _ | exact gc_gf _ _); (obtain ⟨os1, d1, rfl⟩ := h1.more; (try simp only [gv_of hc]); (try (have hc1 := and_l hc; (try simp only [gv_of hc1]); (try (have hc2 := and_l hc1; (try simp only [gv_of hc2]))))); go_simp; first | done | rfl))
  try simp only [Act.put, zqA, zqB, zqC]
  first | (refine wpPl_pick_and rfl rfl rfl rfl rfl rfl ?_) | (refine wpPl_pick_or rfl rfl rfl rfl rfl rfl ?_) | (refine wpPl_read (v := ?_) rfl ?_ (fun w1 h1 => ?_) ?_; rotate_left 1; rfl; (obtain ⟨os1, d1, rfl⟩ := h1.more; go_simp; first | done | rfl))
  try simp only [Act.put, zqA, zqB, zqC]
  (refine wpPl_read (v := ?_) rfl ?_ (fun _ h => ?_) ?_; rotate_left 1; rfl; (obtain ⟨_, _, rfl⟩ := h.more; go_simp; try rfl))
  try simp only [Act.put, zqA, zqB, zqC]
  iterate 2 ((first | (refine wpPl_skip rfl rfl ?_) | (refine wpPl_read (v := ?_) rfl ?_ (fun w1 h1 => ?_) ?_; rotate_left 1; rfl; (obtain ⟨os1, d1, rfl⟩ := h1.more; go_simp; first | done | rfl)) | (refine wpPl_gread (v := ?_) (c := ?_) rfl rfl rfl rfl ?_ (fun hc w1 h1 => ?_) ?_; rotate_left 2; (first | exact gc_t _ | exact gc_f _ | exact gc_gt _ _ | exact gc_gf _ _); (obtain ⟨os1, d1, rfl⟩ := h1.more; (try simp only [gv_of hc]); (try (have hc1 := and_l hc; (try simp only [gv_of hc1]); (try (have hc2 := and_l hc1; (try simp only [gv_of hc2]))))); go_simp; first | done | rfl))); try simp only [Act.put, zqA, zqB, zqC])
  first | (refine wpPl_pick_and rfl rfl rfl rfl rfl rfl ?_) | (refine wpPl_pick_or rfl rfl rfl rfl rfl rfl ?_) | (refine wpPl_read (v := ?_) rfl ?_ (fun w1 h1 => ?_) ?_; rotate_left 1; rfl; (obtain ⟨os1, d1, rfl⟩ := h1.more; go_simp; first | done | rfl))
  try simp only [Act.put, zqA, zqB, zqC]
  (refine wpPl_read (v := ?_) rfl ?_ (fun _ h => ?_) ?_; rotate_left 1; rfl; (obtain ⟨_, _, rfl⟩ := h.more; go_simp; try rfl))
  try simp only [Act.put, zqA, zqB, zqC]
  iterate 4 ((first | (refine wpPl_skip rfl rfl ?_) | (refine wpPl_read (v := ?_) rfl ?_ (fun w1 h1 => ?_) ?_; rotate_left 1; rfl; (obtain ⟨os1, d1, rfl⟩ := h1.more; go_simp; first | done | rfl)) | (refine wpPl_gread (v := ?_) (c := ?_) rfl rfl rfl rfl ?_ (fun hc w1 h1 => ?_) ?_; rotate_left 2; (first | exact gc_t _ | exact gc_f _ | exact gc_gt _ _ | exact gc_gf _ _); (obtain ⟨os1, d1, rfl⟩ := h1.more; (try simp only [gv_of hc]); (try (have hc1 := and_l hc; (try simp only [gv_of hc1]); (try (have hc2 := and_l hc1; (try simp only [gv_of hc2]))))); go_simp; first | done | rfl))); try simp only [Act.put, zqA, zqB, zqC])
  first | (refine wpPl_pick_and rfl rfl rfl rfl rfl rfl ?_) | (refine wpPl_pick_or rfl rfl rfl rfl rfl rfl ?_) | (refine wpPl_read (v := ?_) rfl ?_ (fun w1 h1 => ?_) ?_; rotate_left 1; rfl; (obtain ⟨os1, d1, rfl⟩ := h1.more; go_simp; first | done | rfl))
  try simp only [Act.put, zqA, zqB, zqC]
  (refine wpPl_read (v := ?_) rfl ?_ (fun _ h => ?_) ?_; rotate_left 1; rfl; (obtain ⟨_, _, rfl⟩ := h.more; go_simp; try rfl))
  try simp only [Act.put, zqA, zqB, zqC]
  iterate 4 ((first | (refine wpPl_skip rfl rfl ?_) | (refine wpPl_read (v := ?_) rfl ?_ (fun w1 h1 => ?_) ?_; rotate_left 1; rfl; (obtain ⟨os1, d1, rfl⟩ := h1.more; go_simp; first | done | rfl)) | (refine wpPl_gread (v := ?_) (c := ?_) rfl rfl rfl rfl ?_ (fun hc w1 h1 => ?_) ?_; rotate_left 2; (first | exact gc_t _ | exact gc_f _ | exact gc_gt _ _ | exact gc_gf _ _); (obtain ⟨os1, d1, rfl⟩ := h1.more; (try simp only [gv_of hc]); (try (have hc1 := and_l hc; (try simp only [gv_of hc1]); (try (have hc2 := and_l hc1; (try simp only [gv_of hc2]))))); go_simp; first | done | rfl))); try simp only [Act.put, zqA, zqB, zqC])
  first | (refine wpPl_pick_and rfl rfl rfl rfl rfl rfl ?_) | (refine wpPl_pick_or rfl rfl rfl rfl rfl rfl ?_) | (refine wpPl_read (v := ?_) rfl ?_ (fun w1 h1 => ?_) ?_; rotate_left 1; rfl; (obtain ⟨os1, d1, rfl⟩ := h1.more; go_simp; first | done | rfl))
  try simp only [Act.put, zqA, zqB, zqC]
  (refine wpPl_read (v := ?_) rfl ?_ (fun _ h => ?_) ?_; rotate_left 1; rfl; (obtain ⟨_, _, rfl⟩ := h.more; go_simp; try rfl))
  try simp only [Act.put, zqA, zqB, zqC]
  iterate 4 ((first | (refine wpPl_skip rfl rfl ?_) | (refine wpPl_read (v := ?_) rfl ?_ (fun w1 h1 => ?_) ?_; rotate_left 1; rfl; (obtain ⟨os1, d1, rfl⟩ := h1.more; go_simp; first | done | rfl)) | (refine wpPl_gread (v := ?_) (c := ?_) rfl rfl rfl rfl ?_ (fun hc w1 h1 => ?_) ?_; rotate_left 2; (first | exact gc_t _ | exact gc_f _ | exact gc_gt _ _ | exact gc_gf _ _); (obtain ⟨os1, d1, rfl⟩ := h1.more; (try simp only [gv_of hc]); (try (have hc1 := and_l hc; (try simp only [gv_of hc1]); (try (have hc2 := and_l hc1; (try simp only [gv_of hc2]))))); go_simp; first | done | rfl))); try simp only [Act.put, zqA, zqB, zqC])
  (refine wpPl_eff rfl ?_ (fun K hK => ?_); (first | with_reducible rfl | rfl | (go_simp; done)); go_simp; refine (num15_three _).mono ?_; rintro e w' ⟨b9, off9, c9, rfl, ⟨z0, z1, z2, z3, z4, z5⟩, hc9, hb⟩; have hl9 := lt_of_cell z0; (simp only [numK] at z0 z1 z2 z3 z4 z5); obtain ⟨os9, d9, rfl⟩ := hb.more; clear hb; (try simp only [drew_more] at z0 z1 z2 z3 z4 z5); (try simp only [more_size] at hl9); refine hK _ _ ?_ ?_; (repeat (first | (with_reducible (first | exact Ext.refl _ | exact ext_d _ _ _ _ | exact ext_app _ _ _ _ _ | exact ext_app2 _ _ _ _ _ _ | exact ext_app3 _ _ _ _ _ _ _ | exact ext_app4 _ _ _ _ _ _ _ _ | exact ext_app5 _ _ _ _ _ _ _ _ _)) | ((with_reducible refine ext_suffix ⟨_, ?_⟩); (try simp only [Array.append_assoc]); rfl) | (with_reducible (first | apply Ext.drew | apply Ext.alloc | apply Ext.more_)) | apply Ext.drew | apply Ext.alloc | apply Ext.more_)))
  try simp only [Act.put, zqA, zqB, zqC]
  iterate 2 ((first | (refine wpPl_skip rfl rfl ?_) | (refine wpPl_read (v := ?_) rfl ?_ (fun w1 h1 => ?_) ?_; rotate_left 1; rfl; (obtain ⟨os1, d1, rfl⟩ := h1.more; go_simp; first | done | rfl)) | (refine wpPl_gread (v := ?_) (c := ?_) rfl rfl rfl rfl ?_ (fun hc w1 h1 => ?_) ?_; rotate_left 2; (first | exact gc_t _ | exact gc_f _ | exact gc_gt _ _ | exact gc_gf _ _); (obtain ⟨os1, d1, rfl⟩ := h1.more; (try simp only [gv_of hc]); (try (have hc1 := and_l hc; (try simp only [gv_of hc1]); (try (have hc2 := and_l hc1; (try simp only [gv_of hc2]))))); go_simp; first | done | rfl))); try simp only [Act.put, zqA, zqB, zqC])
  first | (refine wpPl_effskip rfl ?_ ?_ ?_; (first | with_reducible rfl | rfl | (go_simp; done)); (repeat (first | (with_reducible (first | exact Ext.refl _ | exact ext_d _ _ _ _ | exact ext_app _ _ _ _ _ | exact ext_app2 _ _ _ _ _ _ | exact ext_app3 _ _ _ _ _ _ _ | exact ext_app4 _ _ _ _ _ _ _ _ | exact ext_app5 _ _ _ _ _ _ _ _ _)) | ((with_reducible refine ext_suffix ⟨_, ?_⟩); (try simp only [Array.append_assoc]); rfl) | (with_reducible (first | apply Ext.drew | apply Ext.alloc | apply Ext.more_)) | apply Ext.drew | apply Ext.alloc | apply Ext.more_))) | (refine wpPl_eff rfl ?_ (fun K hK => ?_); (first | with_reducible rfl | rfl | (go_simp; done)); go_simp; refine hK _ _ ?_ ?_; (repeat (first | (with_reducible (first | exact Ext.refl _ | exact ext_d _ _ _ _ | exact ext_app _ _ _ _ _ | exact ext_app2 _ _ _ _ _ _ | exact ext_app3 _ _ _ _ _ _ _ | exact ext_app4 _ _ _ _ _ _ _ _ | exact ext_app5 _ _ _ _ _ _ _ _ _)) | ((with_reducible refine ext_suffix ⟨_, ?_⟩); (try simp only [Array.append_assoc]); rfl) | (with_reducible (first | apply Ext.drew | apply Ext.alloc | apply Ext.more_)) | apply Ext.drew | apply Ext.alloc | apply Ext.more_)))
  try simp only [Act.put, zqA, zqB, zqC]
  first | (refine wpPl_skip rfl rfl ?_) | (refine wpPl_read (v := ?_) rfl ?_ (fun w1 h1 => ?_) ?_; rotate_left 1; rfl; (obtain ⟨os1, d1, rfl⟩ := h1.more; go_simp; first | done | rfl)) | (refine wpPl_gread (v := ?_) (c := ?_) rfl rfl rfl rfl ?_ (fun hc w1 h1 => ?_) ?_; rotate_left 2; (first | exact gc_t _ | exact gc_f _ | exact gc_gt _ _ | exact gc_gf _ _); (obtain ⟨os1, d1, rfl⟩ := h1.more; (try simp only [gv_of hc]); (try (have hc1 := and_l hc; (try simp only [gv_of hc1]); (try (have hc2 := and_l hc1; (try simp only [gv_of hc2]))))); go_simp; first | done | rfl))
  try simp only [Act.put, zqA, zqB, zqC]
  first | (refine wpPl_pick_and rfl rfl rfl rfl rfl rfl ?_) | (refine wpPl_pick_or rfl rfl rfl rfl rfl rfl ?_) | (refine wpPl_read (v := ?_) rfl ?_ (fun w1 h1 => ?_) ?_; rotate_left 1; rfl; (obtain ⟨os1, d1, rfl⟩ := h1.more; go_simp; first | done | rfl))
  try simp only [Act.put, zqA, zqB, zqC]
  (refine wpPl_read (v := ?_) rfl ?_ (fun _ h => ?_) ?_; rotate_left 1; rfl; (obtain ⟨_, _, rfl⟩ := h.more; go_simp; try rfl))
  try simp only [Act.put, zqA, zqB, zqC]
  (refine wpPl_eff rfl ?_ (fun K hK => ?_); (first | with_reducible rfl | rfl | (go_simp; done)); go_simp; refine (gnames_any _).mono ?_; rintro e w' ⟨v, ss, rfl, hS, hrow, hb⟩; obtain ⟨A10, c10, rfl⟩ := own_slice hrow; obtain ⟨os10, d10, rfl⟩ := hb.more; clear hb hrow hS; refine hK _ _ ?_ ?_; (repeat (first | (with_reducible (first | exact Ext.refl _ | exact ext_d _ _ _ _ | exact ext_app _ _ _ _ _ | exact ext_app2 _ _ _ _ _ _ | exact ext_app3 _ _ _ _ _ _ _ | exact ext_app4 _ _ _ _ _ _ _ _ | exact ext_app5 _ _ _ _ _ _ _ _ _)) | ((with_reducible refine ext_suffix ⟨_, ?_⟩); (try simp only [Array.append_assoc]); rfl) | (with_reducible (first | apply Ext.drew | apply Ext.alloc | apply Ext.more_)) | apply Ext.drew | apply Ext.alloc | apply Ext.more_)))
  try simp only [Act.put, zqA, zqB, zqC]
  iterate 2 ((first | (refine wpPl_skip rfl rfl ?_) | (refine wpPl_read (v := ?_) rfl ?_ (fun w1 h1 => ?_) ?_; rotate_left 1; rfl; (obtain ⟨os1, d1, rfl⟩ := h1.more; go_simp; first | done | rfl)) | (refine wpPl_gread (v := ?_) (c := ?_) rfl rfl rfl rfl ?_ (fun hc w1 h1 => ?_) ?_; rotate_left 2; (first | exact gc_t _ | exact gc_f _ | exact gc_gt _ _ | exact gc_gf _ _); (obtain ⟨os1, d1, rfl⟩ := h1.more; (try simp only [gv_of hc]); (try (have hc1 := and_l hc; (try simp only [gv_of hc1]); (try (have hc2 := and_l hc1; (try simp only [gv_of hc2]))))); go_simp; first | done | rfl))); try simp only [Act.put, zqA, zqB, zqC])
  first | (refine wpPl_pick_and rfl rfl rfl rfl rfl rfl ?_) | (refine wpPl_pick_or rfl rfl rfl rfl rfl rfl ?_) | (refine wpPl_read (v := ?_) rfl ?_ (fun w1 h1 => ?_) ?_; rotate_left 1; rfl; (obtain ⟨os1, d1, rfl⟩ := h1.more; go_simp; first | done | rfl))
  try simp only [Act.put, zqA, zqB, zqC]
  (refine wpPl_read (v := ?_) rfl ?_ (fun _ h => ?_) ?_; rotate_left 1; rfl; (obtain ⟨_, _, rfl⟩ := h.more; go_simp; try rfl))
  try simp only [Act.put, zqA, zqB]
  refine wpPl_nil ?_
  go_wp2_with fail
  go_ret
  exact ⟨rfl, hx0.trans (by repeat (first | (with_reducible (first | exact Ext.refl _ | exact ext_app _ _ _ _ _ | exact ext_app2 _ _ _ _ _ _)) | ((with_reducible refine ext_suffix ⟨_, ?_⟩); (try simp only [Array.append_assoc]); rfl) | (with_reducible (first | apply Ext.drew | apply Ext.alloc | apply Ext.more_))))⟩
end Go.Proofs.YtfpaalkllfbeoaaGreatDoor
namespace Go.Proofs.YtfpaalkllfbeoaaGreatDoor
open Go.RowKit NM
theorem pcall_mmult (A : Option Addr) (n cap : Nat) (gs : List GA) (w : World) (htab : Tab w) (h : ArgsG w A n cap gs) : Calls Tryz.prog 18 #[.string ⟨#[77, 77, 85, 76, 84]⟩, .slice A n cap] w (CallG w (callX 2 2 gs (productO (arsOf gs)))) :=
  gcall_any ⟨#[77, 77, 85, 76, 84]⟩ 2 2 45 (fun _ _ => #[]) (by decide) (fun _ _ => rfl) (fun args W => by go_simp) (by decide) (by decide) A n cap gs w h _ (fun hr h1 h2 p1 p2 W hW _ => gmult_any A n cap _ W (htab.ext hW) ((arsOf_in h hr).ext hW) h1 h2)
theorem call_mmult (A : Option Addr) (n cap : Nat) (gs : List GA) (w : World) (htab : Tab w) (h : ArgsG w A n cap gs) : Calls Tryz.prog 15 #[.string ⟨#[77, 77, 85, 76, 84]⟩, .slice A n cap] w fun e w' => e = .returned (.bool true) ∧ Ext w w' :=
  call15_any ⟨#[77, 77, 85, 76, 84]⟩ A n cap w (callX 2 2 gs (productO (arsOf gs))) (fun W hW => pcall_mmult A n cap gs W (htab.ext hW) (h.ext hW)) (fun W hW => rcall_x _ 2 2 (by decide) (by decide) (by decide) (fun W' => rcount_mmult W') _ A n cap gs W (h.ext hW) (fun hi h1 h2 => rcall_mmult A n cap _ W hi h1 h2))
set_option maxHeartbeats 4000000 in
theorem farrayProduct_any (A : Option Addr) (n cap : Nat) (gs : List GA) (w : World) (htab : Tab w) (h : ArgsG w A n cap gs) :
    Calls Tryz.prog 5 #[.slice A n cap] w fun e w' => e = .returned (.bool true) ∧ Ext w w' := by
  have HT := Lib.hid htab
  have H := Lib.hid h
  clear htab h
  go_enter Tryz.func5, Tryz.ntmps5
  go_wp2_with (first | (go_at_call 11; (with_reducible refine (awake15_any _ (HT.out.ext (by with_reducible repeat (first | exact Ext.refl _ | apply Ext.drew | apply Ext.alloc | apply Ext.more_)))).mono ?_); rintro e w' ⟨rfl, hb⟩; obtain ⟨osw, dw, rfl⟩ := hb.more; clear hb) | (go_at_call 14; (with_reducible refine (small15_any _ _ _ _ _ (H.out.ext (by with_reducible repeat (first | exact Ext.refl _ | apply Ext.drew | apply Ext.alloc | apply Ext.more_)))).mono ?_); rintro e w' ⟨s, rfl, hs, hb⟩; obtain ⟨oss, ds, rfl⟩ := hb.more; clear hb; rcases hs with rfl | rfl) | (go_at_call 15; (with_reducible refine (call_mmult _ _ _ _ _ (HT.out.ext (by with_reducible repeat (first | exact Ext.refl _ | apply Ext.drew | apply Ext.alloc | apply Ext.more_))) (H.out.ext (by with_reducible repeat (first | exact Ext.refl _ | apply Ext.drew | apply Ext.alloc | apply Ext.more_)))).mono ?_); rintro e w' ⟨rfl, hb⟩; obtain ⟨os1, d1, rfl⟩ := hb.more; clear hb))
  all_goals
    go_ret
    exact ⟨rfl, by with_reducible repeat (first | exact Ext.refl _ | apply Ext.drew | apply Ext.alloc | apply Ext.more_)⟩
end Go.Proofs.YtfpaalkllfbeoaaGreatDoor
namespace Go.Proofs.YtfpaalkllfbeoaaGreatDoor
open Go.ChangeShapes Go.WideShapes Go.ChangeAt Go.RowKit Go.Deep
theorem own : ownKnob Tryz.prog.godebug = none := by kernel_rfl
theorem laidOut : laidOutB Tryz.prog = true := by kernel_rfl
theorem cells_num : Tryz.prog.cellsOf 41 = 2 := by kernel_rfl
theorem cells_int : Tryz.prog.cellsOf 3 = 1 := by kernel_rfl
/-- What all rows of this seat list. -/
def laid3 : List (String × DataW Unit) := [("math/bits.deBruijn32tab", Rows.laid_math_bits_deBruijn32tab), ("math/bits.deBruijn64tab", Rows.laid_math_bits_deBruijn64tab), ("internal/strconv.uint64pow10", Rows.laid_internal_strconv_uint64pow10)]
theorem pow10_data : (Rows.laid_internal_strconv_uint64pow10 : DataW Unit) = Lib.tabData .u64 Lib.pow10Tab := by
  unfold Rows.laid_internal_strconv_uint64pow10 Lib.tabData Lib.pow10Tab
  simp [List.range_succ]
theorem gPow : Tryz.prog.globalNamed "internal/strconv.uint64pow10" = some 3 := by kernel_rfl
theorem tPow : (Tryz.prog.globals[3]?).map (·.type) = some 199 := by kernel_rfl
theorem tab_of_laid {W : World} (h : laidMetH Tryz.prog laid3 W) : Tab W := by
  rw [MakeChecks.laidMetH_plain _ _ _ (by kernel_rfl)] at h
  obtain ⟨ps, ⟨g0, t0, cs0, f0, p0, q0, hg0, ht0, hv0, hd0, ⟨g1, t1, cs1, f1, p1, q1, hg1, ht1, hv1, hd1, ⟨g2, t2, cs2, f2, p2, q2, hg2, ht2, hv2, hd2, _, _⟩, _⟩, _⟩, _, _⟩ := h
  obtain rfl := Option.some.inj (gPow.symm.trans hg2)
  obtain rfl := Option.some.inj (tPow.symm.trans ht2)
  rw [pow10_data] at hd2
  unfold Tab Lib.TabIs
  rw [hv2, ← Lib.cells_of_tab Tryz.underlying199 Tryz.underlying47 (by kernel_rfl) (by kernel_rfl) hd2]
theorem door_met (os : Os) (args : Array Value) : laidMetH Tryz.prog laid3 ((World.doorLaid Tryz.prog 400 os).forCall (fun _ _ => 0) ⟨#[], args, []⟩).memory :=
  laidMetH_of_parts3 (fuel := 8) (laidMet_of_run' 8 (by kernel_rfl) (by kernel_rfl)) (by kernel_rfl) (by kernel_rfl)
set_option maxRecDepth 100000
section
variable {H : Type} {enc : TypeId × Value → H} {w : World} {base : Nat} {spare : Nat → Bool} {held : Bool}
theorem i64_of {n : Int} (h : (Lit.int .i64 n).wf = true) : I64 n := by
  simpa [Lit.wf, IntKind.min, IntKind.max, IntKind.signed, IntKind.bits, I64] using h
theorem trod_blocks_ {t : TypeId} {v : Value} {d : DataW H} {p : List MemPlace} (h : DataW.Trod enc Tryz.prog w base spare held t v d p) : ∀ x ∈ p, x.block < w.heap.size := by
  obtain ⟨m, hm⟩ := h
  exact DataW.trod_lt m _ _ _ hm
end
end Go.Proofs.YtfpaalkllfbeoaaGreatDoor
namespace Go.Proofs.YtfpaalkllfbeoaaGreatDoor
open Go.ChangeShapes Go.WideShapes Go.ChangeAt Go.RowKit Go.Deep
theorem cells_val : Tryz.prog.cellsOf 43 = 6 := by kernel_rfl
theorem cells_string : Tryz.prog.cellsOf 9 = 1 := by kernel_rfl
theorem cells_bool : Tryz.prog.cellsOf 4 = 1 := by kernel_rfl
theorem cells_arr : Tryz.prog.cellsOf 31 = 3 := by kernel_rfl
set_option maxRecDepth 100000
section
variable {H : Type} {enc : TypeId × Value → H} {w : World} {base : Nat} {spare : Nat → Bool} {held : Bool}
theorem open_num {fuel : Nat} {c1 c2 : Value} {x : DataW H × List MemPlace} (h : DataW.trod enc Tryz.prog w base spare held fuel 41 [c1, c2] = some x) : ∃ m e : Int, [c1, c2] = [.int .i64 m, .int .i64 e] ∧ I64 m ∧ I64 e := by
  obtain ⟨xs, n, rfl, _, hl, hxs, hf⟩ := DataW.trod_struct Tryz.underlying41 h
  obtain ⟨y0, hy0⟩ : ∃ y, xs[0]? = some y := ⟨_, List.getElem?_eq_getElem (by rw [hxs]; decide)⟩
  have g0 : DataW.trod enc Tryz.prog w base spare held n 3 [c1] = some y0 := by rw [← hy0]; have := hf 0 _ rfl; simpa [cells_int] using this
  obtain ⟨y1, hy1⟩ : ∃ y, xs[1]? = some y := ⟨_, List.getElem?_eq_getElem (by rw [hxs]; decide)⟩
  have g1 : DataW.trod enc Tryz.prog w base spare held n 3 [c2] = some y1 := by rw [← hy1]; have := hf 1 _ rfl; simpa [cells_int] using this
  obtain ⟨m, e0, _, w0⟩ := DataW.trod_int Tryz.underlying3 g0
  obtain ⟨e, e1, _, w1⟩ := DataW.trod_int Tryz.underlying3 g1
  simp only [List.cons.injEq, and_true] at e0 e1
  subst e0 e1
  exact ⟨m, e, rfl, i64_of w0, i64_of w1⟩
set_option maxHeartbeats 800000 in
theorem open_val {fuel : Nat} {cs : List Value} {x : DataW H × List MemPlace} (h : DataW.trod enc Tryz.prog w base spare held fuel 43 cs = some x) : ∃ y : Val, cs = y.cells ∧ y.ok := by
  obtain ⟨xs, n, rfl, _, hl, hxs, hf⟩ := DataW.trod_struct Tryz.underlying43 h
  rw [cells_val] at hl
  match cs, hl with
  | [c0, c1, c2, c3, c4, c5], _ =>
    obtain ⟨y0, hy0⟩ : ∃ y, xs[0]? = some y := ⟨_, List.getElem?_eq_getElem (by rw [hxs]; decide)⟩
    have g0 : DataW.trod enc Tryz.prog w base spare held n 3 [c0] = some y0 := by rw [← hy0]; have := hf 0 _ rfl; simpa [cells_int] using this
    obtain ⟨y1, hy1⟩ : ∃ y, xs[1]? = some y := ⟨_, List.getElem?_eq_getElem (by rw [hxs]; decide)⟩
    have g1 : DataW.trod enc Tryz.prog w base spare held n 41 [c1, c2] = some y1 := by rw [← hy1]; have := hf 1 _ rfl; simpa [cells_num] using this
    obtain ⟨y2, hy2⟩ : ∃ y, xs[2]? = some y := ⟨_, List.getElem?_eq_getElem (by rw [hxs]; decide)⟩
    have g2 : DataW.trod enc Tryz.prog w base spare held n 9 [c3] = some y2 := by rw [← hy2]; have := hf 2 _ rfl; simpa [cells_string] using this
    obtain ⟨y3, hy3⟩ : ∃ y, xs[3]? = some y := ⟨_, List.getElem?_eq_getElem (by rw [hxs]; decide)⟩
    have g3 : DataW.trod enc Tryz.prog w base spare held n 4 [c4] = some y3 := by rw [← hy3]; have := hf 3 _ rfl; simpa [cells_bool] using this
    obtain ⟨y4, hy4⟩ : ∃ y, xs[4]? = some y := ⟨_, List.getElem?_eq_getElem (by rw [hxs]; decide)⟩
    have g4 : DataW.trod enc Tryz.prog w base spare held n 3 [c5] = some y4 := by rw [← hy4]; have := hf 4 _ rfl; simpa [cells_int] using this
    obtain ⟨k, e0, _, w0⟩ := DataW.trod_int Tryz.underlying3 g0
    obtain ⟨m, ex, e1, w1, w2⟩ := open_num g1
    obtain ⟨t, e3, _, w3⟩ := DataW.trod_string Tryz.underlying9 g2
    obtain ⟨b, e4, _⟩ := DataW.trod_bool Tryz.underlying4 g3
    obtain ⟨f, e5, _, w5⟩ := DataW.trod_int Tryz.underlying3 g4
    simp only [List.cons.injEq, and_true] at e0 e1 e3 e4 e5
    obtain ⟨rfl, rfl⟩ := e1
    subst e0 e3 e4 e5
    exact ⟨⟨k, m, ex, t, b, f⟩, rfl, i64_of w0, w1, w2, w3, i64_of w5⟩
/-- A slice of values. -/
theorem open_vals {fuel : Nat} {a : Option Addr} {len cap : Nat} {x : DataW H × List MemPlace} (h : DataW.trod enc Tryz.prog w base spare held fuel 29 [.slice a len cap] = some x) : ∃ l, ArrIn w a len cap l := by
  rcases open_slice Tryz.underlying29 h with ⟨hcs, _⟩ | ⟨ad, len', cap', m, n, D, Pl, hcs, hb, hl, hm, hmm, _, hi⟩
  · simp only [List.cons.injEq, Value.slice.injEq, and_true] at hcs
    obtain ⟨rfl, rfl, rfl⟩ := hcs
    exact ⟨[], SlV.nil _ _ _, rfl, Nat.le_refl _, by omega, by simp⟩
  · simp only [List.cons.injEq, Value.slice.injEq, and_true] at hcs
    obtain ⟨rfl, rfl, rfl⟩ := hcs
    have hlm : len ≤ m := by rw [hmm]; split <;> omega
    obtain ⟨X, hX⟩ := choose_lt (α := Val) (n := len) (p := fun i y => w.cells? base (ad.add (i * 6)) 6 = some y.cells ∧ y.ok) (fun i hil => by
      obtain ⟨cs', h1, h2⟩ := hi i (by omega)
      rw [cells_val] at h1
      obtain ⟨y, rfl, hy⟩ := open_val h2
      exact ⟨y, h1, hy⟩)
    refine ⟨(List.range len).map X, ?_, by simp, hl, by simp only [maxLen] at hm; omega, ?_⟩
    · intro j u hu
      have hj : j / 6 < len := by
        have := (List.getElem?_eq_some_iff.1 hu).1
        rw [vcells_length] at this
        simp at this
        omega
      have hat := vcells_at ((List.range len).map X) (j / 6) (X (j / 6)) (by simp [hj]) (j % 6) (by omega)
      rw [show j / 6 * 6 + j % 6 = j by omega, hu] at hat
      obtain ⟨_, _, hc⟩ := World.cells?_some (hX (j / 6) hj).1
      have h6 := hc (j % 6) (by omega)
      rw [← hat, Go.Deep.add_add, show j / 6 * 6 + j % 6 = j by omega] at h6
      obtain ⟨b, off, spot⟩ := ad
      have hsp : spot = none := by
        obtain ⟨_, _, hc0⟩ := World.cells?_some (hX 0 (by omega)).1
        have h0 := hc0 0 (by omega)
        simp [Addr.add, Val.cells] at h0
        exact World.cell?_spot h0
      subst hsp
      rw [Addr.add_mid] at h6
      exact ⟨b, off, rfl, Nat.zero_le _, h6⟩
    · intro y hy
      simp only [List.mem_map, List.mem_range] at hy
      obtain ⟨i, hi', rfl⟩ := hy
      exact (hX i hi').2
theorem open_arr {r : Reach} {b0 : Nat} {v : Value} {d : DataW H} {p : List MemPlace} (hv : Value.okWide Tryz.prog w r b0 31 v) (h : DataW.Trod enc Tryz.prog w base spare held 31 v d p) :
    ∃ (a c : Int) (A : Option Addr) (n cap : Nat) (l : List Val), v = AV a c (.slice A n cap) ∧ I64 a ∧ I64 c ∧ ArrIn w A n cap l := by
  obtain ⟨c0, c1, c2, y0, y1, y2, m, rfl, rfl, rfl, hy0, hy1, hy2⟩ := Joins.open_agg3 Tryz.underlying31 (by kernel_rfl) cells_arr hv h
  obtain ⟨a, e0, _, w0⟩ := DataW.trod_int Tryz.underlying3 hy0
  obtain ⟨c, e1, _, w1⟩ := DataW.trod_int Tryz.underlying3 hy1
  obtain ⟨A, n, cap, e2⟩ := Joins.slice_form Tryz.underlying29 hy2
  simp only [List.cons.injEq, and_true] at e0 e1 e2
  subst e0 e1 e2
  obtain ⟨l, hl⟩ := open_vals hy2
  exact ⟨a, c, A, n, cap, l, rfl, i64_of w0, i64_of w1, hl⟩
end
end Go.Proofs.YtfpaalkllfbeoaaGreatDoor
namespace Go.Proofs.YtfpaalkllfbeoaaGreatDoor
open Go.ChangeShapes Go.WideShapes Go.ChangeAt Go.RowKit Go.Deep
variable {H : Type} {enc : TypeId × Value → H} {w : World} {base : Nat} {spare : Nat → Bool} {held : Bool}
theorem cells_slV : Tryz.prog.cellsOf 29 = 1 := by kernel_rfl
set_option maxHeartbeats 800000 in
theorem open_arrc {fuel : Nat} {cs : List Value} {x : DataW H × List MemPlace} (h : DataW.trod enc Tryz.prog w base spare held fuel 31 cs = some x) : ∃ g : GA, cs = g.cells ∧ ArrIn w g.A g.n g.cap g.l := by
  obtain ⟨xs, n, rfl, _, hl, hxs, hf⟩ := DataW.trod_struct Tryz.underlying31 h
  rw [cells_arr] at hl
  match cs, hl with
  | [c0, c1, c2], _ =>
    obtain ⟨y0, hy0⟩ : ∃ y, xs[0]? = some y := ⟨_, List.getElem?_eq_getElem (by rw [hxs]; decide)⟩
    have g0 : DataW.trod enc Tryz.prog w base spare held n 3 [c0] = some y0 := by rw [← hy0]; have := hf 0 _ rfl; simpa [cells_int] using this
    obtain ⟨y1, hy1⟩ : ∃ y, xs[1]? = some y := ⟨_, List.getElem?_eq_getElem (by rw [hxs]; decide)⟩
    have g1 : DataW.trod enc Tryz.prog w base spare held n 3 [c1] = some y1 := by rw [← hy1]; have := hf 1 _ rfl; simpa [cells_int] using this
    obtain ⟨y2, hy2⟩ : ∃ y, xs[2]? = some y := ⟨_, List.getElem?_eq_getElem (by rw [hxs]; decide)⟩
    have g2 : DataW.trod enc Tryz.prog w base spare held n 29 [c2] = some y2 := by rw [← hy2]; have := hf 2 _ rfl; simpa [cells_slV] using this
    obtain ⟨a, e0, _, w0⟩ := DataW.trod_int Tryz.underlying3 g0
    obtain ⟨c, e1, _, w1⟩ := DataW.trod_int Tryz.underlying3 g1
    obtain ⟨A, m, cap, e2⟩ := Joins.slice_form Tryz.underlying29 g2
    simp only [List.cons.injEq, and_true] at e0 e1 e2
    subst e0 e1 e2
    obtain ⟨l, hl⟩ := open_vals g2
    exact ⟨⟨a, c, A, m, cap, l⟩, rfl, hl⟩
theorem gcells_length : ∀ gs : List GA, (gcells gs).length = gs.length * 3
  | [] => rfl
  | g :: gs => by
    show (GA.cells g ++ gcells gs).length = _
    rw [List.length_append, gcells_length gs]; simp [GA.cells]; omega
theorem open_gs {fuel : Nat} {a : Option Addr} {len cap : Nat} {x : DataW H × List MemPlace} (h : DataW.trod enc Tryz.prog w base spare held fuel 22 [.slice a len cap] = some x) : ∃ gs, ArgsG w a len cap gs := by
  rcases open_slice Tryz.underlying22 h with ⟨hcs, _⟩ | ⟨ad, len', cap', m, n, D, Pl, hcs, hb, hl, hm, hmm, _, hi⟩
  · simp only [List.cons.injEq, Value.slice.injEq, and_true] at hcs
    obtain ⟨rfl, rfl, rfl⟩ := hcs
    exact ⟨[], Rd.nil _ _ _, rfl, Nat.le_refl _, by omega, by simp⟩
  · simp only [List.cons.injEq, Value.slice.injEq, and_true] at hcs
    obtain ⟨rfl, rfl, rfl⟩ := hcs
    have hlm : len ≤ m := by rw [hmm]; split <;> omega
    haveI : Inhabited GA := ⟨⟨0, 0, none, 0, 0, []⟩⟩
    obtain ⟨X, hX⟩ := choose_lt (α := GA) (n := len) (p := fun i y => w.cells? base (ad.add (i * 3)) 3 = some y.cells ∧ ArrIn w y.A y.n y.cap y.l) (fun i hil => by
      obtain ⟨cs', h1, h2⟩ := hi i (by omega)
      rw [cells_arr] at h1
      obtain ⟨y, rfl, hy⟩ := open_arrc h2
      exact ⟨y, h1, hy⟩)
    refine ⟨(List.range len).map X, ?_, by simp, hl, by simp only [maxLen] at hm; omega, ?_⟩
    · intro j u hu
      have hj : j / 3 < len := by
        have := (List.getElem?_eq_some_iff.1 hu).1
        rw [gcells_length] at this
        simp at this
        omega
      have hat := gcells_at ((List.range len).map X) (j / 3) (X (j / 3)) (by simp [hj]) (j % 3) (by omega)
      rw [show j / 3 * 3 + j % 3 = j by omega, hu] at hat
      obtain ⟨_, _, hc⟩ := World.cells?_some (hX (j / 3) hj).1
      have h6 := hc (j % 3) (by omega)
      rw [← hat, Go.Deep.add_add, show j / 3 * 3 + j % 3 = j by omega] at h6
      obtain ⟨b, off, spot⟩ := ad
      have hsp : spot = none := by
        obtain ⟨_, _, hc0⟩ := World.cells?_some (hX 0 (by omega)).1
        have h0 := hc0 0 (by omega)
        simp [Addr.add, GA.cells] at h0
        exact World.cell?_spot h0
      subst hsp
      rw [Addr.add_mid] at h6
      exact ⟨b, off, rfl, Nat.zero_le _, h6⟩
    · intro y hy
      simp only [List.mem_map, List.mem_range] at hy
      obtain ⟨i, hi', rfl⟩ := hy
      exact (hX i hi').2
theorem open_arrs {r : Reach} {b0 : Nat} {v : Value} {d : DataW H} {p : List MemPlace} (hv : Value.okWide Tryz.prog w r b0 22 v) (h : DataW.Trod enc Tryz.prog w base spare held 22 v d p) :
    ∃ (A : Option Addr) (n cap : Nat) (gs : List GA), v = .slice A n cap ∧ ArgsG w A n cap gs := by
  obtain ⟨A, n, cap, rfl⟩ := okWide_slice Tryz.underlying22 hv
  obtain ⟨fuel, hf⟩ := h
  obtain ⟨gs, hl⟩ := open_gs hf
  exact ⟨A, n, cap, gs, rfl, hl⟩
end Go.Proofs.YtfpaalkllfbeoaaGreatDoor
namespace Go.Proofs.YtfpaalkllfbeoaaGreatDoor
open Go.RowKit NM
theorem gargs_one {w : World} {t : TypeId} {p : Nat} {cs : Array Value} {r c : Int} {A : Option Addr} {n cap : Nat} {l : List Val} (hp : p = w.heap.size) (hc : cs = #[.int .i64 r, .int .i64 c, .slice A n cap]) (h : ArrIn w A n cap l) :
    ArgsG (w.alloc (.cells cs t)) (some ⟨p, 0, none⟩) 1 1 [⟨r, c, A, n, cap, l⟩] :=
  ⟨by subst hp hc; exact Rd.of_row (cs := [.int .i64 r, .int .i64 c, .slice A n cap]) (gheap_new _ _) 0 (Nat.zero_le _), rfl, Nat.le_refl _, by decide, fun g hg => by rw [List.mem_singleton.1 hg]; exact h.ext ((Ext.refl _).alloc _)⟩
end Go.Proofs.YtfpaalkllfbeoaaGreatDoor
