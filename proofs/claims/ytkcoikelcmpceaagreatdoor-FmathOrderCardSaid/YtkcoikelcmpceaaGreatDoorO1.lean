/- What the rows' proofs lean on: the contracts of the functions that they reach, and plain facts (part O1). -/
import Derived.WalkKit
import Derived.WalkLawsBesides
import Derived.WalkSpells
import Derived.Outline
import Derived.Below
import Derived.Deep.RegionHeld3
import Derived.Deep.DeepCutAuto
import Derived.Deep.AppendLies
import Derived.Maps.AppendAt
import Derived.Lib.Hide
import Derived.OrdersHeld
import Derived.Test.YtkcoikelcmpceaaGreatDoorProg
import Derived.Shelf.Strings.Builder1
import Derived.Shelf.Strings.Builder2
import Derived.Shelf.Small.Bits
import Derived.Shelf.Small.Strs
import Derived.Shelf.Small.Wraps
import Derived.Shelf.Strings.BuilderF
import Derived.Shelf.Strconv.Itoa0
import Derived.Shelf.Strconv.Itoa1
import Derived.Shelf.LaysM
import Derived.Shelf.Strconv.Itoa2
import Derived.Shelf.Strings.Prefix
import Derived.Shelf.Bits.Mul64
import Derived.Shelf.Strings.Repeat
import Derived.Lib.ItoaMem
import Derived.Lib.OthersKept
import Derived.Deep.CutBlock
import Derived.Laws.Bits64b
import Derived.Lib.AppendZeros
import Derived.Lib.Bytealg
import Derived.Laws.RangeAny
import Derived.Maps.OwnSet
import Derived.Maps.Own
import Derived.Laws.EntriesVeiled
import Derived.Lib.ConvBytes
import Derived.Lib.SlBytesRow
import Derived.Lib.SmallJoins
import Derived.RegionTactic
import Derived.Test.YtkcoikelcmpceaaGreatDoorRows
import Derived.Test.YtkcoikelcmpceaaGreatDoorCards
import Derived.Test.YtkcoikelcmpceaaGreatDoorTie
import Derived.ProofKit
import Derived.LaidMore
import Derived.OpenShut
import Derived.ShutString
import Derived.ChangeOld
import Derived.Stop.Joined
import Derived.Deep.Slices
import Derived.SevenTiedAt
import Derived.Test.YtkcoikelcmpceaaGreatDoorP4
set_option linter.unusedSimpArgs false
set_option linter.unusedVariables false
set_option maxRecDepth 100000
namespace Go.Proofs.YtkcoikelcmpceaaGreatDoor
open Go.RowKit NM
theorem rt_of_rnd {neg : Bool} {N : Nat} {more : Bool} {e : Int} : Rt (rm (rnd neg N more e)) (re (rnd neg N more e)) := by
  cases h : rnd neg N more e with
  | none => exact Or.inl ⟨rfl, rfl⟩
  | some r => exact rnd_right h
end Go.Proofs.YtkcoikelcmpceaaGreatDoor
namespace Go.Proofs.YtkcoikelcmpceaaGreatDoor
open NM
theorem sign_lt {x : Int} : x.sign < 0 ↔ x < 0 := by
  rcases Int.lt_trichotomy x 0 with h | h | h
  · rw [Int.sign_eq_neg_one_of_neg h]; omega
  · subst h; simp
  · rw [Int.sign_eq_one_of_pos h]; omega
theorem cmp_lt {ma ea mb eb : Int} (h1 : Rt ma ea) (h2 : Rt mb eb) : cmpS ma ea mb eb < 0 ↔ sc ma ea < sc mb eb := by
  rw [cmp_sc h1 h2, sign_lt]; omega
end Go.Proofs.YtkcoikelcmpceaaGreatDoor
namespace Go.Proofs.YtkcoikelcmpceaaGreatDoor
open Go.RowKit NM
/-- n, k times multiplied by ten, as long as it is an int. -/
def intGo (n : Int) : Nat → Option Int
  | 0 => some n
  | k + 1 => if 922337203685477580 < n.natAbs then none else intGo (n * 10) k
def intS (m e : Int) : Option Int := if ¬ Rt m e ∨ e < 0 then none else intGo m e.toNat
abbrev inV (r : Option Int) : Value := .tuple #[.int .i64 (r.getD 0), .bool r.isSome]
theorem mul64_ten (x : Nat) (hx : x < 18446744073709551616) (w : World) :
    Calls Tryz.prog 169 #[.int .u64 (x : Int), .int .u64 10] w fun e w' => e = .returned (.tuple #[.int .u64 ((x * 10 / 18446744073709551616 : Nat) : Int), .int .u64 ((x * 10 % 18446744073709551616 : Nat) : Int)]) ∧ w = w' :=
  (Tryz.bits_Mul64 x 10 hx (by omega) w).mono fun e w' ⟨h1, h2⟩ => ⟨h1, h2.symm⟩
set_option maxHeartbeats 2000000 in
theorem int_any (m ex : Int) (w : World) (hm : I64 m) :
    Calls Tryz.prog 155 #[NV m ex] w fun e w' => e = .returned (inV (intS m ex)) ∧ Ext w w' := by
  by_cases h : Rt m ex
  · have r1 := rtB_yes h
    obtain ⟨b1, b2, b3⟩ := Rt_bd h
    by_cases h1 : ex < 0
    · have hs : intS m ex = none := by unfold intS; rw [if_pos (Or.inr h1)]
      rw [hs]
      clear h hs
      go_enter Tryz.func155, Tryz.ntmps155
      go_wp2_with (go_at_call 110; (with_reducible refine (right_rt _ _ _ (by assumption)).mono ?_); rintro e w' ⟨rfl, hbr⟩; obtain ⟨osr, dr, rfl⟩ := hbr.more)
      go_ret2
      exact ⟨rfl, by repeat (first | exact Ext.refl _ | apply Ext.drew | apply Ext.alloc | apply Ext.more_)⟩
    · obtain ⟨n, rfl⟩ : ∃ n : Nat, ex = n := ⟨ex.toNat, by omega⟩
      have hs : intS m (n : Int) = intGo m n := by unfold intS; rw [if_neg (by rintro (h3 | h3); exact h3 h; omega)]; rfl
      generalize hR : intS m (n : Int) = R at *
      have HR := Lib.hid hs
      clear hs hR h
      go_enter Tryz.func155, Tryz.ntmps155
      go_wp2_with (go_at_call 110; (with_reducible refine (right_rt _ _ _ (by assumption)).mono ?_); rintro e w' ⟨rfl, hbr⟩; obtain ⟨osr, dr, rfl⟩ := hbr.more)
      go_loop [4, 19] (fun a i => ∃ (j : Nat) (x : Int), j ≤ n ∧ i = .int .i64 (j : Int) ∧ a = .int .i64 x ∧ Hid (I64 x) ∧ Hid (R = intGo x (n - j))) (fun _ i => n - (intOf i).toNat)
      case atStart => exact ⟨0, m, Nat.zero_le _, rfl, rfl, hm, HR⟩
      case round =>
        obtain ⟨j, x, hj, rfl, rfl, HX, HG⟩ := hrel
        by_cases hlt : j < n
        · have hx64 : x.natAbs < 18446744073709551616 := by obtain ⟨h1, h2⟩ := HX.out; omega
          have hml := mul64_ten x.natAbs hx64
          have hsz := fun W => size_nat x W HX.out
          have HG1 : Hid (R = if 922337203685477580 < x.natAbs then none else intGo (x * 10) (n - (j + 1))) := by
            show _ = _
            rw [HG.out, show n - j = n - (j + 1) + 1 by omega]; rfl
          by_cases hbig : 922337203685477580 < x.natAbs
          · have hRn : R = none := by rw [HG1.out, if_pos hbig]
            have hor : x.natAbs * 10 / 18446744073709551616 ≠ 0 ∨ 9223372036854775807 < x.natAbs * 10 % 18446744073709551616 := by omega
            generalize x.natAbs * 10 / 18446744073709551616 = hi at *
            generalize x.natAbs * 10 % 18446744073709551616 = lo at *
            generalize x.natAbs = xa at *
            subst hRn
            clear hx64 hbig
            by_cases hh : hi = 0
            · have e1 : ((hi : Int) != 0) = false := by simp [hh]
              have e1b : (hi != 0) = false := by simp [hh]
              have e2 : decide ((9223372036854775807 : Int) < (lo : Int)) = true := by simp; omega
              have e3 : decide (9223372036854775807 < lo) = true := by simp; omega
              clear hor hh
              go_wp2_with (first | (go_at_call 119; (with_reducible refine (hsz _).mono ?_); rintro e w' ⟨rfl, rfl⟩) | (go_at_call 169; (with_reducible refine (hml _).mono ?_); rintro e w' ⟨rfl, rfl⟩))
              go_ret2
              exact ⟨rfl, by repeat (first | exact Ext.refl _ | apply Ext.drew | apply Ext.alloc | apply Ext.more_)⟩
            · have e1 : ((hi : Int) != 0) = true := by simp [hh]
              have e1b : (hi != 0) = true := by simp [hh]
              clear hor hh
              go_wp2_with (first | (go_at_call 119; (with_reducible refine (hsz _).mono ?_); rintro e w' ⟨rfl, rfl⟩) | (go_at_call 169; (with_reducible refine (hml _).mono ?_); rintro e w' ⟨rfl, rfl⟩))
              go_ret2
              exact ⟨rfl, by repeat (first | exact Ext.refl _ | apply Ext.drew | apply Ext.alloc | apply Ext.more_)⟩
          · have HRn : Hid (R = intGo (x * 10) (n - (j + 1))) := by show _ = _; rw [HG1.out, if_neg hbig]
            have h10 : Hid (I64 (x * 10)) := by show I64 _; unfold I64; omega
            have hhi : x.natAbs * 10 / 18446744073709551616 = 0 := by omega
            have hlo : ¬ 9223372036854775807 < x.natAbs * 10 % 18446744073709551616 := by omega
            have w1 : IntKind.i64.wrap (x * 10) = x * 10 := i64w h10.out.1 h10.out.2
            have w2 : wrap64 (x * 10) = x * 10 := IntWalk.wrap64_in _ h10.out
            rw [hhi] at hml
            generalize x.natAbs * 10 % 18446744073709551616 = lo at *
            generalize x.natAbs = xa at *
            clear hx64 hbig hhi HG1
            have e2 : decide ((9223372036854775807 : Int) < (lo : Int)) = false := by simp; omega
            have e3 : decide (9223372036854775807 < lo) = false := by simp; omega
            clear hlo
            simp only [show ((0 : Nat) : Int) = 0 from rfl] at hml
            go_wp2_with (first | (go_at_call 119; (with_reducible refine (hsz _).mono ?_); rintro e w' ⟨rfl, rfl⟩) | (go_at_call 169; (with_reducible refine (hml _).mono ?_); rintro e w' ⟨rfl, rfl⟩))
            exact ⟨⟨j + 1, x * 10, by omega, by go_num, rfl, h10, HRn⟩, by simp [intOf]; omega⟩
        · have hRn : R = some x := by rw [HG.out, show n - j = 0 by omega]; rfl
          subst hRn
          go_wp2_with fail
          go_ret2
          exact ⟨rfl, by repeat (first | exact Ext.refl _ | apply Ext.drew | apply Ext.alloc | apply Ext.more_)⟩
  · have r1 := rtB_no h
    have hs : intS m ex = none := by unfold intS; rw [if_pos (Or.inl h)]
    rw [hs]
    clear h hs
    go_enter Tryz.func155, Tryz.ntmps155
    go_wp2_with (go_at_call 110; (with_reducible refine (right_rt _ _ _ (by assumption)).mono ?_); rintro e w' ⟨rfl, hbr⟩; obtain ⟨osr, dr, rfl⟩ := hbr.more)
    go_ret2
    exact ⟨rfl, by repeat (first | exact Ext.refl _ | apply Ext.drew | apply Ext.alloc | apply Ext.more_)⟩
end Go.Proofs.YtkcoikelcmpceaaGreatDoor
namespace Go.Proofs.YtkcoikelcmpceaaGreatDoor
open Go.RowKit NM
theorem int_go : ∀ (k : Nat) (n : Int), (n * (T k : Nat)).natAbs ≤ 1000000000000000 → intGo n k = some (n * (T k : Nat))
  | 0, n, _ => by simp [intGo, T]
  | k + 1, n, h => by
    have h1 : n * ((T (k + 1) : Nat) : Int) = n * 10 * ((T k : Nat) : Int) := by rw [T_succ, Int.natCast_mul, ← Int.mul_assoc]; rfl
    rw [h1] at h ⊢
    have h2 : n.natAbs * 10 ≤ 1000000000000000 := by
      have h3 : (n * 10 * ((T k : Nat) : Int)).natAbs = n.natAbs * 10 * T k := by rw [Int.natAbs_mul, Int.natAbs_mul, Int.natAbs_natCast]; rfl
      rw [h3] at h
      exact Nat.le_trans (Nat.le_mul_of_pos_right _ (T_pos k)) h
    rw [intGo, if_neg (by omega)]
    exact int_go k (n * 10) h
end Go.Proofs.YtkcoikelcmpceaaGreatDoor
namespace Go.Proofs.YtkcoikelcmpceaaGreatDoor
open Go.RowKit NM
/-- A value's whole number, and a fault. -/
def wholeO (v : Val) : Int × Int := if tnF v = 0 then ((intS (floorS (tnP v).1 (tnP v).2).1 (floorS (tnP v).1 (tnP v).2).2).getD 0, if (intS (floorS (tnP v).1 (tnP v).2).1 (floorS (tnP v).1 (tnP v).2).2).isSome then 0 else 5) else (0, tnF v)
end Go.Proofs.YtkcoikelcmpceaaGreatDoor
namespace Go.Proofs.YtkcoikelcmpceaaGreatDoor
open Go.RowKit NM
/-- The least (of -1), or the greatest (of 1) number. -/
def outO (side : Int) : Nm → List Nm → Nm
  | f, [] => f
  | f, n :: l => outO side (if cmpS n.1 n.2 f.1 f.2 = side then n else f) l
def outV (side : Int) : List Nm → Val
  | [] => nV (0, 0)
  | n :: l => nV (outO side n (n :: l))
end Go.Proofs.YtkcoikelcmpceaaGreatDoor
namespace Go.Proofs.YtkcoikelcmpceaaGreatDoor
open Go.RowKit NM
theorem whole_one : wholeN 1 = (1, 0) := by unfold wholeN; rw [rndx_right (m := 1) (e := 0) rt_one]; rfl
end Go.Proofs.YtkcoikelcmpceaaGreatDoor
namespace Go.Proofs.YtkcoikelcmpceaaGreatDoor
open Go.RowKit NM
set_option maxHeartbeats 1000000 in
theorem wholeNumber_any (x : Val) (w : World) (hr : x.right) (y : Int × Int) (hy : wholeO x = y) :
    Calls Tryz.prog 109 #[VV x.kind x.mant x.exp x.text x.truth x.fault] w fun e w' => e = .returned (.tuple #[.int .i64 y.1, .int .i64 y.2]) ∧ Ext w w' := by
  have ht := fun W => toNum_any x W hr
  have hi1 : I64 (tnP x).1 := rt_i64 (tn_rt hr)
  subst hy
  unfold wholeO
  generalize htp : tnP x = p at *
  generalize htf : tnF x = f at *
  by_cases hf : f = 0
  · subst hf
    rw [if_pos rfl]
    have hfl := fun W => floor_any p.1 p.2 W hi1
    have hi2 : I64 (floorS p.1 p.2).1 := rt_i64 (by exact (floor_spec (by rw [← htp]; exact tn_rt hr)).1)
    generalize hq : floorS p.1 p.2 = q at *
    have hin := fun W => int_any q.1 q.2 W hi2
    cases hI : intS q.1 q.2 with
    | none =>
      rw [hI] at hin
      simp only [inV, Option.getD_none, Option.isSome_none] at hin ⊢
      simp only [tnV, htp, htf] at ht
      clear hI hq htp htf hr hi1 hi2
      go_enter Tryz.func109, Tryz.ntmps109
      go_wp2_with (first | (go_at_call 117; (with_reducible refine (ht _).mono ?_); rintro e w' ⟨rfl, hb⟩; obtain ⟨os, d, rfl⟩ := hb.more; clear hb) | (go_at_call 59; (with_reducible refine (hfl _).mono ?_); rintro e w' ⟨rfl, hb⟩; obtain ⟨os, d, rfl⟩ := hb.more; clear hb) | (go_at_call 155; (with_reducible refine (hin _).mono ?_); rintro e w' ⟨rfl, hb⟩; obtain ⟨os, d, rfl⟩ := hb.more; clear hb))
      exact bodyPost_ret (v := .tuple #[.int .i64 0, .int .i64 5]) (by simp [results, Tryz.results109, go_sem]) rfl ⟨rfl, by with_reducible repeat (first | exact Ext.refl _ | apply Ext.drew | apply Ext.alloc | apply Ext.more_)⟩
    | some i =>
      rw [hI] at hin
      simp only [inV, Option.getD_some, Option.isSome_some] at hin ⊢
      simp only [tnV, htp, htf] at ht
      clear hI hq htp htf hr hi1 hi2
      go_enter Tryz.func109, Tryz.ntmps109
      go_wp2_with (first | (go_at_call 117; (with_reducible refine (ht _).mono ?_); rintro e w' ⟨rfl, hb⟩; obtain ⟨os, d, rfl⟩ := hb.more; clear hb) | (go_at_call 59; (with_reducible refine (hfl _).mono ?_); rintro e w' ⟨rfl, hb⟩; obtain ⟨os, d, rfl⟩ := hb.more; clear hb) | (go_at_call 155; (with_reducible refine (hin _).mono ?_); rintro e w' ⟨rfl, hb⟩; obtain ⟨os, d, rfl⟩ := hb.more; clear hb))
      exact bodyPost_ret (v := .tuple #[.int .i64 i, .int .i64 0]) (by simp [results, Tryz.results109, go_sem]) rfl ⟨rfl, by with_reducible repeat (first | exact Ext.refl _ | apply Ext.drew | apply Ext.alloc | apply Ext.more_)⟩
  · rw [if_neg hf]
    have hf' : (f != 0) = true := by simpa using hf
    simp only [tnV, htp, htf] at ht
    clear htp htf hr hi1
    go_enter Tryz.func109, Tryz.ntmps109
    go_wp2_with (first | (go_at_call 117; (with_reducible refine (ht _).mono ?_); rintro e w' ⟨rfl, hb⟩; obtain ⟨os, d, rfl⟩ := hb.more; clear hb))
    exact bodyPost_ret (v := .tuple #[.int .i64 0, .int .i64 f]) (by simp [results, Tryz.results109, go_sem]) rfl ⟨rfl, by with_reducible repeat (first | exact Ext.refl _ | apply Ext.drew | apply Ext.alloc | apply Ext.more_)⟩
end Go.Proofs.YtkcoikelcmpceaaGreatDoor
namespace Go.Proofs.YtkcoikelcmpceaaGreatDoor
open Go.RowKit
/-- Places are told apart by lt, else by themselves. -/
def Lx (lt : Nat → Nat → Bool) (i j : Nat) : Prop := lt i j = true ∨ (lt j i = false ∧ i < j)
/-- lt is an order of classes. -/
structure Swo (lt : Nat → Nat → Bool) : Prop where
  asym : ∀ i j, lt i j = true → lt j i = false
  trans : ∀ i j k, lt j i = false → lt k j = false → lt k i = false
section
variable {lt : Nat → Nat → Bool} (h : Swo lt)
include h
theorem Lx.le {i j : Nat} (h1 : Lx lt i j) : lt j i = false := by
  rcases h1 with h1 | h1
  · exact h.asym _ _ h1
  · exact h1.1
theorem Lx.tr {i j k : Nat} (h1 : Lx lt i j) (h2 : Lx lt j k) : Lx lt i k := by
  have l1 := Lx.le h h1
  have l2 := Lx.le h h2
  cases hk : lt i k with
  | true => exact Or.inl hk
  | false =>
    refine Or.inr ⟨h.trans _ _ _ l1 l2, ?_⟩
    have e1 : lt i j = false := h.trans _ _ _ l2 hk
    have e2 : lt j k = false := h.trans _ _ _ hk l1
    rcases h1 with h1 | h1
    · rw [e1] at h1; cases h1
    · rcases h2 with h2 | h2
      · rw [e2] at h2; cases h2
      · omega
theorem Lx.asymm {i j : Nat} (h1 : Lx lt i j) (h2 : Lx lt j i) : i = j := by
  have l1 := Lx.le h h1
  have l2 := Lx.le h h2
  rcases h1 with h1 | h1
  · rw [l2] at h1; cases h1
  · rcases h2 with h2 | h2
    · rw [l1] at h2; cases h2
    · omega
omit h in
theorem Lx.of_not {i j : Nat} (hij : j < i) (hn : lt i j = false) : Lx lt j i := by
  cases hk : lt j i with
  | true => exact Or.inl hk
  | false => exact Or.inr ⟨hn, hij⟩
theorem Lx.one {l l' : List Nat} (h1 : l.Pairwise (Lx lt)) (h2 : l'.Pairwise (Lx lt)) (hp : l.Perm l') : l = l' :=
  List.Perm.eq_of_pairwise (fun a b _ _ k1 k2 => Lx.asymm h k1 k2) h1 h2 hp
end
end Go.Proofs.YtkcoikelcmpceaaGreatDoor
namespace Go.Proofs.YtkcoikelcmpceaaGreatDoor
open Go.RowKit
/-- Two cells swapped. -/
def sw1 (D : List Nat) (i j : Nat) : List Nat := (D.set i (D.getD j 0)).set j (D.getD i 0)
theorem sw1_length (D : List Nat) (i j : Nat) : (sw1 D i j).length = D.length := by simp [sw1]
theorem sw1_mid (p q r : List Nat) (x y : Nat) {i j : Nat} (hi : i = p.length) (hj : j = p.length + 1 + q.length) : sw1 (p ++ x :: (q ++ y :: r)) i j = p ++ y :: (q ++ x :: r) := by
  subst hi hj
  have h1 : (p ++ x :: (q ++ y :: r)).getD p.length 0 = x := by simp
  have h2 : (p ++ x :: (q ++ y :: r)).getD (p.length + 1 + q.length) 0 = y := by
    have : p ++ x :: (q ++ y :: r) = (p ++ x :: q) ++ y :: r := by simp
    rw [this]
    have hl : p.length + 1 + q.length = (p ++ x :: q).length := by simp; omega
    rw [hl]; simp
  unfold sw1
  rw [h1, h2]
  rw [List.set_append_right _ _ (Nat.le_refl _), Nat.sub_self, List.set_cons_zero]
  have : p ++ y :: (q ++ y :: r) = (p ++ y :: q) ++ y :: r := by simp
  rw [this, List.set_append_right _ _ (by simp; omega)]
  rw [show p.length + 1 + q.length - (p ++ y :: q).length = 0 by simp; omega, List.set_cons_zero]
  simp
/-- Ranges swapped, cell by cell. -/
def swp (D : List Nat) (a b : Nat) : Nat → List Nat
  | 0 => D
  | i + 1 => sw1 (swp D a b i) (a + i) (b + i)
theorem swp_length (D : List Nat) (a b : Nat) : ∀ n, (swp D a b n).length = D.length
  | 0 => rfl
  | n + 1 => by rw [swp, sw1_length, swp_length]
theorem swp_mid : ∀ (n : Nat) (pre P M Q post : List Nat) {a b : Nat}, P.length = n → Q.length = n → a = pre.length → b = pre.length + n + M.length →
    swp (pre ++ (P ++ (M ++ (Q ++ post)))) a b n = pre ++ (Q ++ (M ++ (P ++ post)))
  | 0, pre, P, M, Q, post, a, b, hP, hQ, ha, hb => by
    rw [List.eq_nil_of_length_eq_zero hP, List.eq_nil_of_length_eq_zero hQ]; rfl
  | n + 1, pre, P, M, Q, post, a, b, hP, hQ, ha, hb => by
    obtain ⟨P', p, rfl⟩ : ∃ P' p, P = P' ++ [p] := ⟨P.dropLast, P.getLast (by intro e; subst e; simp at hP), (List.dropLast_concat_getLast _).symm⟩
    obtain ⟨Q', q, rfl⟩ : ∃ Q' q, Q = Q' ++ [q] := ⟨Q.dropLast, Q.getLast (by intro e; subst e; simp at hQ), (List.dropLast_concat_getLast _).symm⟩
    simp only [List.length_append, List.length_singleton, Nat.add_right_cancel_iff] at hP hQ
    have h := swp_mid n pre P' (p :: M) Q' (q :: post) (a := a) (b := b) hP hQ ha (by simp; omega)
    rw [swp]
    have e1 : pre ++ (P' ++ [p] ++ (M ++ (Q' ++ [q] ++ post))) = pre ++ (P' ++ (p :: M ++ (Q' ++ q :: post))) := by simp
    rw [e1, h]
    have e2 : pre ++ (Q' ++ (p :: M ++ (P' ++ q :: post))) = (pre ++ Q') ++ p :: ((M ++ P') ++ q :: post) := by simp
    rw [e2, sw1_mid (pre ++ Q') (M ++ P') post p q (by simp; omega) (by simp; omega)]
    simp
section
variable {lt : Nat → Nat → Bool} (h : Swo lt)
include h
theorem pw_mid {X Y : List Nat} (hX : X.Pairwise (Lx lt)) (hY : Y.Pairwise (Lx lt)) (hb : ∀ x, X.getLast? = some x → ∀ y, Y.head? = some y → Lx lt x y) : (X ++ Y).Pairwise (Lx lt) := by
  rw [List.pairwise_append]
  refine ⟨hX, hY, fun x hx y hy => ?_⟩
  obtain ⟨X', l, rfl⟩ : ∃ X' l, X = X' ++ [l] := ⟨X.dropLast, X.getLast (by intro e; subst e; cases hx), (List.dropLast_concat_getLast _).symm⟩
  obtain ⟨f, Y', rfl⟩ : ∃ f Y', Y = f :: Y' := by
    cases Y with
    | nil => cases hy
    | cons f Y' => exact ⟨f, Y', rfl⟩
  have hlf := hb l (by simp) f rfl
  have h1 : x = l ∨ Lx lt x l := by
    rcases List.mem_append.1 hx with hx | hx
    · right; exact (List.pairwise_append.1 hX).2.2 x hx l (by simp)
    · left; simpa using hx
  have h2 : y = f ∨ Lx lt f y := by
    rcases List.mem_cons.1 hy with hy | hy
    · left; exact hy
    · right; exact (List.pairwise_cons.1 hY).1 y hy
  have h3 : Lx lt x f := by
    rcases h1 with rfl | h1
    · exact hlf
    · exact Lx.tr h h1 hlf
  rcases h2 with rfl | h2
  · exact h3
  · exact Lx.tr h h3 h2
/-- One place into a list that rises. -/
theorem pw_insert {X Y : List Nat} {x : Nat} (hXY : (X ++ Y).Pairwise (Lx lt)) (h1 : ∀ l, X.getLast? = some l → Lx lt l x) (h2 : ∀ f, Y.head? = some f → Lx lt x f) : (X ++ x :: Y).Pairwise (Lx lt) := by
  obtain ⟨hX, hY, hc⟩ := List.pairwise_append.1 hXY
  have hxY : (x :: Y).Pairwise (Lx lt) := by
    have := pw_mid h (X := [x]) (Y := Y) (List.pairwise_singleton _ _) hY (fun a ha y hy => by
      obtain rfl : x = a := by simpa using ha
      exact h2 y hy)
    simpa using this
  exact pw_mid h hX hxY fun l hl y hy => by
    obtain rfl : x = y := by simpa using hy
    exact h1 l hl
/-- Four parts, of which the second and the third are turned: the first two stand ahead of the last two. -/
theorem cross_parts {X1 X2 Y1 Y2 : List Nat} (hX : (X1 ++ X2).Pairwise (Lx lt)) (hY : (Y1 ++ Y2).Pairwise (Lx lt))
    (b1 : ∀ x, X1.getLast? = some x → ∀ y, Y2.head? = some y → Lx lt x y) (b2 : ∀ y, Y1.getLast? = some y → ∀ x, X2.head? = some x → Lx lt y x) :
    ∀ u ∈ X1 ++ Y1, ∀ v ∈ X2 ++ Y2, Lx lt u v := by
  obtain ⟨x1, x2, xc⟩ := List.pairwise_append.1 hX
  obtain ⟨y1, y2, yc⟩ := List.pairwise_append.1 hY
  have p := (List.pairwise_append.1 (pw_mid h x1 y2 b1)).2.2
  have q := (List.pairwise_append.1 (pw_mid h y1 x2 b2)).2.2
  intro u hu v hv
  rcases List.mem_append.1 hu with hu | hu <;> rcases List.mem_append.1 hv with hv | hv
  · exact xc u hu v hv
  · exact p u hu v hv
  · exact q u hu v hv
  · exact yc u hu v hv
end
/-- A part of a list. -/
def seg (D : List Nat) (a b : Nat) : List Nat := (D.take b).drop a
theorem seg_length {D : List Nat} {a b : Nat} (hb : b ≤ D.length) : (seg D a b).length = b - a := by simp [seg]; omega
theorem seg_split {D : List Nat} {a b : Nat} (hab : a ≤ b) : D = D.take a ++ (seg D a b ++ D.drop b) := by
  unfold seg
  have h1 : D.take a = (D.take b).take a := by rw [List.take_take, Nat.min_eq_left hab]
  rw [h1, ← List.append_assoc, List.take_append_drop, List.take_append_drop]
theorem seg_of {pre Z post : List Nat} {a b : Nat} (ha : a = pre.length) (hb : b = pre.length + Z.length) : seg (pre ++ (Z ++ post)) a b = Z := by
  subst ha hb
  unfold seg
  rw [← List.append_assoc, List.take_append_of_le_length (by simp), show pre.length + Z.length = (pre ++ Z).length by simp, List.take_length, List.drop_left]
theorem seg_seg {D : List Nat} {a m b : Nat} (h1 : a ≤ m) (h2 : m ≤ b) : seg D a b = seg D a m ++ seg D m b := by
  unfold seg
  have e1 : D.take m = (D.take b).take m := by rw [List.take_take, Nat.min_eq_left h2]
  rw [e1]
  generalize D.take b = E
  have : E.drop a = ((E.take m).drop a) ++ E.drop m := by
    conv => lhs; rw [← List.take_append_drop m E]
    rw [List.drop_append]
    by_cases hm : m ≤ E.length
    · rw [show a - (E.take m).length = 0 by simp; omega]; rfl
    · rw [List.drop_eq_nil_of_le (show E.length ≤ m by omega)]; simp
  exact this
/-- These places stand here, in order. -/
def Srt (lt : Nat → Nat → Bool) (D : List Nat) (a b : Nat) : Prop := (seg D a b).Perm (List.range' a (b - a)) ∧ (seg D a b).Pairwise (Lx lt)
end Go.Proofs.YtkcoikelcmpceaaGreatDoor
namespace Go.Proofs.YtkcoikelcmpceaaGreatDoor
open Go.RowKit
def insL (lt : Nat → Nat → Bool) (i : Nat) : List Nat → List Nat
  | [] => [i]
  | x :: l => if lt i x then i :: x :: l else x :: insL lt i l
def sortN (lt : Nat → Nat → Bool) : Nat → List Nat
  | 0 => []
  | n + 1 => insL lt n (sortN lt n)
theorem insL_perm (lt : Nat → Nat → Bool) (i : Nat) : ∀ l, (insL lt i l).Perm (i :: l)
  | [] => List.Perm.refl _
  | x :: l => by
    unfold insL
    split
    · exact List.Perm.refl _
    · exact (List.Perm.cons x (insL_perm lt i l)).trans (List.Perm.swap i x l)
section
variable {lt : Nat → Nat → Bool} (h : Swo lt)
include h
theorem insL_sorted {i : Nat} : ∀ {l : List Nat}, (∀ x ∈ l, x < i) → l.Pairwise (Lx lt) → (insL lt i l).Pairwise (Lx lt)
  | [], _, _ => List.pairwise_singleton _ _
  | x :: l, hl, hs => by
    obtain ⟨h1, h2⟩ := List.pairwise_cons.1 hs
    unfold insL
    split
    · rename_i hi
      refine List.pairwise_cons.2 ⟨fun y hy => ?_, hs⟩
      rcases List.mem_cons.1 hy with rfl | hy
      · exact Or.inl hi
      · exact Lx.tr h (Or.inl hi) (h1 y hy)
    · rename_i hi
      have hi : lt i x = false := by simpa using hi
      refine List.pairwise_cons.2 ⟨fun y hy => ?_, insL_sorted (fun y hy => hl y (List.mem_cons_of_mem _ hy)) h2⟩
      rcases List.mem_cons.1 ((insL_perm lt i l).mem_iff.1 hy) with rfl | hy
      · exact Lx.of_not (hl x (by simp)) hi
      · exact h1 y hy
theorem sortN_spec : ∀ n, (sortN lt n).Perm (List.range n) ∧ (sortN lt n).Pairwise (Lx lt)
  | 0 => ⟨List.Perm.refl _, List.Pairwise.nil⟩
  | n + 1 => by
    obtain ⟨p, s⟩ := sortN_spec n
    refine ⟨?_, insL_sorted h (fun x hx => by have := p.mem_iff.1 hx; simpa using this) s⟩
    rw [List.range_succ]
    exact (insL_perm lt n _).trans ((List.Perm.cons n p).trans (List.perm_append_singleton n _).symm)
theorem sortN_one {n : Nat} {l : List Nat} (hp : l.Perm (List.range n)) (hs : l.Pairwise (Lx lt)) : l = sortN lt n :=
  Lx.one h hs (sortN_spec h n).2 (hp.trans (sortN_spec h n).1.symm)
end
theorem sortN_length (lt : Nat → Nat → Bool) : ∀ n, (sortN lt n).length = n
  | 0 => rfl
  | n + 1 => by
    have := (insL_perm lt n (sortN lt n)).length_eq
    rw [List.length_cons, sortN_length lt n] at this
    exact this
end Go.Proofs.YtkcoikelcmpceaaGreatDoor
namespace Go.Proofs.YtkcoikelcmpceaaGreatDoor
open Go.RowKit
/-- Outside of a part nothing turns. -/
structure Part (a b : Nat) (D D' : List Nat) : Prop where
  len : D'.length = D.length
  lo : D'.take a = D.take a
  hi : D'.drop b = D.drop b
theorem Part.refl (a b : Nat) (D : List Nat) : Part a b D D := ⟨rfl, rfl, rfl⟩
theorem Part.trans {a b : Nat} {D D' D2 : List Nat} (h : Part a b D D') (k : Part a b D' D2) : Part a b D D2 := ⟨k.len.trans h.len, k.lo.trans h.lo, k.hi.trans h.hi⟩
theorem Part.mono {a b a' b' : Nat} {D D' : List Nat} (h : Part a b D D') (ha : a' ≤ a) (hb : b ≤ b') : Part a' b' D D' := by
  refine ⟨h.len, ?_, ?_⟩
  · have : ∀ E : List Nat, E.take a' = (E.take a).take a' := fun E => by rw [List.take_take, Nat.min_eq_left ha]
    rw [this D', this D, h.lo]
  · have : ∀ E : List Nat, E.drop b' = (E.drop b).drop (b' - b) := fun E => by rw [List.drop_drop]; congr 1; omega
    rw [this D', this D, h.hi]
theorem Part.seg_lo {a b lo hi : Nat} {D D' : List Nat} (h : Part a b D D') (hh : hi ≤ a) : seg D' lo hi = seg D lo hi := by
  unfold seg
  have : ∀ E : List Nat, E.take hi = (E.take a).take hi := fun E => by rw [List.take_take, Nat.min_eq_left hh]
  rw [this D', this D, h.lo]
theorem Part.seg_hi {a b lo hi : Nat} {D D' : List Nat} (h : Part a b D D') (hh : b ≤ lo) : seg D' lo hi = seg D lo hi := by
  unfold seg
  rw [List.drop_take, List.drop_take]
  have : ∀ E : List Nat, E.drop lo = (E.drop b).drop (lo - b) := fun E => by rw [List.drop_drop]; congr 1; omega
  rw [this D', this D, h.hi]
theorem Part.of_mid {pre Z Z' post : List Nat} {a b : Nat} (ha : a = pre.length) (hl : Z'.length = Z.length) (hb : b = pre.length + Z.length) : Part a b (pre ++ (Z ++ post)) (pre ++ (Z' ++ post)) := by
  subst ha hb
  refine ⟨by simp [hl], by simp, ?_⟩
  have e1 : (pre ++ (Z' ++ post)).drop (pre.length + Z.length) = post := by
    rw [← List.append_assoc, ← hl, ← List.length_append, List.drop_left]
  have e2 : (pre ++ (Z ++ post)).drop (pre.length + Z.length) = post := by
    rw [← List.append_assoc, ← List.length_append, List.drop_left]
  rw [e1, e2]
/-- A part is put in order. -/
structure Mrg (lt : Nat → Nat → Bool) (a b : Nat) (D D' : List Nat) : Prop where
  part : Part a b D D'
  perm : (seg D' a b).Perm (seg D a b)
  sorted : (seg D' a b).Pairwise (Lx lt)
theorem seg_nil {D : List Nat} {a b : Nat} (h : b ≤ a) : seg D a b = [] := by
  unfold seg; rw [List.drop_eq_nil_of_le (by rw [List.length_take]; omega)]
theorem seg_last {D : List Nat} {a s : Nat} (ha : a < s) (hs : s ≤ D.length) : (seg D a s).getLast? = D[s - 1]? := by
  rw [List.getLast?_eq_getElem?, seg_length hs]
  unfold seg
  rw [List.getElem?_drop, List.getElem?_take, if_pos (by omega)]
  congr 1; omega
theorem seg_head {D : List Nat} {e b : Nat} (h : e < b) : (seg D e b).head? = D[e]? := by
  rw [List.head?_eq_getElem?]
  unfold seg
  rw [List.getElem?_drop, List.getElem?_take, if_pos (by omega)]; rfl
theorem seg_mem {D : List Nat} {a b j x : Nat} (h : D[j]? = some x) (h1 : a ≤ j) (h2 : j < b) : x ∈ seg D a b := by
  refine List.mem_of_getElem? (i := j - a) ?_
  unfold seg
  rw [List.getElem?_drop, List.getElem?_take, if_pos (by omega), ← h]
  congr 1; omega
theorem seg_mono_mem {D : List Nat} {a b a' b' x : Nat} (ha : a ≤ a') (hb : b' ≤ b) (h : x ∈ seg D a' b') : x ∈ seg D a b := by
  obtain ⟨i, hi⟩ := List.mem_iff_getElem?.1 h
  unfold seg at hi
  rw [List.getElem?_drop, List.getElem?_take] at hi
  split at hi
  · exact seg_mem hi (by omega) (by omega)
  · cases hi
section
variable {lt : Nat → Nat → Bool} (h : Swo lt)
include h
/-- Two parts, turned about their middle: the first half stands ahead of the last one. -/
theorem merge_split {D : List Nat} {a m b s e mid : Nat} (h1 : a ≤ s) (h2 : s ≤ m) (h3 : m ≤ e) (h4 : e ≤ b) (h5 : b ≤ D.length) (hmid : mid = s + (e - m))
    (hX : (seg D a m).Pairwise (Lx lt)) (hY : (seg D m b).Pairwise (Lx lt)) (hxy : ∀ x ∈ seg D a m, ∀ y ∈ seg D m b, x < y)
    (b1 : s = a ∨ e = b ∨ ∃ u v, D[e]? = some u ∧ D[s - 1]? = some v ∧ lt u v = false)
    (b2 : s = m ∨ e = m ∨ ∃ u v, D[e - 1]? = some u ∧ D[s]? = some v ∧ lt u v = true)
    {D1 : List Nat} (hD1 : D1 = D.take s ++ (seg D m e ++ (seg D s m ++ D.drop e))) :
    Part a b D D1 ∧ seg D1 a s = seg D a s ∧ seg D1 s mid = seg D m e ∧ seg D1 mid e = seg D s m ∧ seg D1 e b = seg D e b ∧ ∀ u ∈ seg D1 a mid, ∀ v ∈ seg D1 mid b, Lx lt u v := by
  have hse : D = D.take s ++ ((seg D s m ++ seg D m e) ++ D.drop e) := by
    rw [← seg_seg h2 h3]; exact seg_split (by omega)
  have l1 : (D.take s).length = s := by rw [List.length_take]; omega
  have l2 : (seg D m e).length = e - m := seg_length (by omega)
  have l3 : (seg D s m).length = m - s := seg_length (by omega)
  have e1 : seg D1 a s = seg D a s := by
    unfold seg; rw [hD1, List.take_append_of_le_length (by omega), List.take_of_length_le (by omega)]
  have e2 : seg D1 s mid = seg D m e := by rw [hD1]; exact seg_of (by omega) (by omega)
  have e3 : seg D1 mid e = seg D s m := by
    rw [hD1, ← List.append_assoc]
    exact seg_of (by rw [List.length_append]; omega) (by rw [List.length_append]; omega)
  have hp : Part s e D D1 := by
    rw [hD1]
    have := Part.of_mid (pre := D.take s) (Z := seg D s m ++ seg D m e) (Z' := seg D m e ++ seg D s m) (post := D.drop e) (a := s) (b := e) (by omega) (by simp; omega) (by rw [List.length_append]; omega)
    rw [← hse, List.append_assoc] at this
    exact this
  have e4 : seg D1 e b = seg D e b := hp.seg_hi (Nat.le_refl _)
  refine ⟨hp.mono h1 h4, e1, e2, e3, e4, ?_⟩
  rw [seg_seg h1 (show s ≤ mid by omega), seg_seg (show mid ≤ e by omega) h4, e1, e2, e3, e4]
  rw [seg_seg h1 h2] at hX
  rw [seg_seg h3 h4] at hY
  refine cross_parts h hX hY ?_ ?_
  · intro x hx y hy
    rcases b1 with b1 | b1 | ⟨u, v, hu, hv, hl⟩
    · rw [seg_nil (by omega)] at hx; cases hx
    · rw [seg_nil (by omega)] at hy; cases hy
    · have ha : a < s := by
        rcases Nat.lt_or_ge a s with ha | ha
        · exact ha
        · rw [seg_nil ha] at hx; cases hx
      have hb : e < b := by
        rcases Nat.lt_or_ge e b with hb | hb
        · exact hb
        · rw [seg_nil hb] at hy; cases hy
      rw [seg_last ha (by omega), hv] at hx
      rw [seg_head hb, hu] at hy
      obtain rfl : v = x := by simpa using hx
      obtain rfl : u = y := by simpa using hy
      exact Lx.of_not (hxy _ (seg_mem hv (by omega) (by omega)) _ (seg_mem hu (by omega) (by omega))) hl
  · intro y hy x hx
    rcases b2 with b2 | b2 | ⟨u, v, hu, hv, hl⟩
    · rw [seg_nil (by omega)] at hx; cases hx
    · rw [seg_nil (by omega)] at hy; cases hy
    · have ha : m < e := by
        rcases Nat.lt_or_ge m e with ha | ha
        · exact ha
        · rw [seg_nil ha] at hy; cases hy
      have hb : s < m := by
        rcases Nat.lt_or_ge s m with hb | hb
        · exact hb
        · rw [seg_nil hb] at hx; cases hx
      rw [seg_last ha (by omega), hu] at hy
      rw [seg_head hb, hv] at hx
      obtain rfl : u = y := by simpa using hy
      obtain rfl : v = x := by simpa using hx
      exact Or.inl hl
omit h in
/-- Both halves put in order, and the whole is. -/
theorem merge_join {D D1 D2 D3 : List Nat} {a mid b : Nat} (h1 : a ≤ mid) (h2 : mid ≤ b) (hp : Part a b D D1) (hq : (seg D1 a b).Perm (seg D a b))
    (hc : ∀ u ∈ seg D1 a mid, ∀ v ∈ seg D1 mid b, Lx lt u v) (m1 : Mrg lt a mid D1 D2) (m2 : Mrg lt mid b D2 D3) : Mrg lt a b D D3 := by
  have s1 : seg D3 a mid = seg D2 a mid := m2.part.seg_lo (Nat.le_refl _)
  have s2 : seg D2 mid b = seg D1 mid b := m1.part.seg_hi (Nat.le_refl _)
  have p1 := m1.perm
  have p2 := m2.perm
  rw [s2] at p2
  refine ⟨hp.trans ((m1.part.mono (Nat.le_refl _) h2).trans (m2.part.mono h1 (Nat.le_refl _))), ?_, ?_⟩
  · refine List.Perm.trans ?_ hq
    rw [seg_seg h1 h2, seg_seg (D := D1) h1 h2, s1]
    exact p1.append p2
  · rw [seg_seg h1 h2, s1, List.pairwise_append]
    exact ⟨m1.sorted, m2.sorted, fun u hu v hv => hc u (p1.mem_iff.1 hu) v (p2.mem_iff.1 hv)⟩
omit h in
theorem Mrg.of_sorted {D : List Nat} {a b : Nat} (hs : (seg D a b).Pairwise (Lx lt)) : Mrg lt a b D D := ⟨Part.refl _ _ _, List.Perm.refl _, hs⟩
end
end Go.Proofs.YtkcoikelcmpceaaGreatDoor
namespace Go.Proofs.YtkcoikelcmpceaaGreatDoor
open Go.RowKit
theorem range'_split {a m b : Nat} (h1 : a ≤ m) (h2 : m ≤ b) : List.range' a (b - a) = List.range' a (m - a) ++ List.range' m (b - m) := by
  have := List.range'_append_1 (s := a) (m := m - a) (n := b - m)
  rw [show a + (m - a) = m by omega, show m - a + (b - m) = b - a by omega] at this
  exact this.symm
theorem Srt.mem {lt : Nat → Nat → Bool} {D : List Nat} {a b x : Nat} (h : Srt lt D a b) (hx : x ∈ seg D a b) : a ≤ x ∧ x < b := by
  have := h.1.mem_iff.1 hx
  rw [List.mem_range'_1] at this
  omega
theorem Srt.keep_lo {lt : Nat → Nat → Bool} {D D' : List Nat} {a b lo hi : Nat} (h : Srt lt D lo hi) (hp : Part a b D D') (hh : hi ≤ a) : Srt lt D' lo hi := by
  unfold Srt; rw [hp.seg_lo hh]; exact h
theorem Srt.keep_hi {lt : Nat → Nat → Bool} {D D' : List Nat} {a b lo hi : Nat} (h : Srt lt D lo hi) (hp : Part a b D D') (hh : b ≤ lo) : Srt lt D' lo hi := by
  unfold Srt; rw [hp.seg_hi hh]; exact h
theorem Srt.merged {lt : Nat → Nat → Bool} {D D' : List Nat} {a m b : Nat} (h1 : a ≤ m) (h2 : m ≤ b) (hX : Srt lt D a m) (hY : Srt lt D m b) (hm : Mrg lt a b D D') : Srt lt D' a b := by
  refine ⟨hm.perm.trans ?_, hm.sorted⟩
  rw [seg_seg h1 h2, range'_split h1 h2]
  exact hX.1.append hY.1
theorem Srt.cross {lt : Nat → Nat → Bool} {D : List Nat} {a m b : Nat} (hX : Srt lt D a m) (hY : Srt lt D m b) : ∀ x ∈ seg D a m, ∀ y ∈ seg D m b, x < y := fun x hx y hy => by
  have := hX.mem hx; have := hY.mem hy; omega
/-- Every block of this size is in order. -/
def AllB (lt : Nat → Nat → Bool) (n bs : Nat) (D : List Nat) : Prop := ∀ q, q * bs < n → Srt lt D (q * bs) (min (q * bs + bs) n)
/-- Blocks of 20, one after the other. -/
structure Ins (lt : Nat → Nat → Bool) (n q : Nat) (D : List Nat) : Prop where
  len : D.length = n
  done : ∀ p, p < q → Srt lt D (p * 20) (p * 20 + 20)
  rest : ∀ j, q * 20 ≤ j → j < n → D[j]? = some j
theorem Ins.start (lt : Nat → Nat → Bool) (n : Nat) : Ins lt n 0 (List.range n) := ⟨by simp, fun p hp => absurd hp (by omega), fun j _ hj => by simp [hj]⟩
theorem part_get {a b j : Nat} {D D' : List Nat} (h : Part a b D D') (hj : b ≤ j) : D'[j]? = D[j]? := by
  have h1 : (D'.drop b)[j - b]? = (D.drop b)[j - b]? := by rw [h.hi]
  rw [List.getElem?_drop, List.getElem?_drop, show b + (j - b) = j by omega] at h1
  exact h1
theorem Ins.step {lt : Nat → Nat → Bool} {n q : Nat} {D D' : List Nat} (h : Ins lt n q D) (hp : Part (q * 20) (q * 20 + 20) D D') (hs : Srt lt D' (q * 20) (q * 20 + 20)) : Ins lt n (q + 1) D' := by
  refine ⟨hp.len.trans h.len, fun p hpq => ?_, fun j hj hn => ?_⟩
  · by_cases e : p = q
    · subst e; exact hs
    · exact (h.done p (by omega)).keep_lo hp (by omega)
  · rw [part_get hp (by omega)]; exact h.rest j (by omega) hn
theorem Ins.seg {lt : Nat → Nat → Bool} {n q b : Nat} {D : List Nat} (h : Ins lt n q D) (hb : b ≤ n) : seg D (q * 20) b = List.range' (q * 20) (b - q * 20) := by
  refine List.ext_getElem? fun i => ?_
  unfold Go.Proofs.YtkcoikelcmpceaaGreatDoor.seg
  rw [List.getElem?_drop, List.getElem?_take]
  split
  · rw [h.rest _ (by omega) (by omega), List.getElem?_range' (by omega), Nat.one_mul]
  · rw [List.getElem?_eq_none]; simp; omega
theorem Ins.all {lt : Nat → Nat → Bool} {n q : Nat} {D D' : List Nat} (h : Ins lt n q D) (hq : q * 20 ≤ n) (hn : n < q * 20 + 20) (hp : Part (q * 20) n D D') (hs : Srt lt D' (q * 20) n) : AllB lt n 20 D' := by
  intro p hpn
  by_cases e : p < q
  · rw [Nat.min_eq_left (by omega)]
    exact (h.done p e).keep_lo hp (by omega)
  · obtain rfl : p = q := by omega
    rw [Nat.min_eq_right (by omega)]; exact hs
/-- Pairs of blocks, merged one after the other. -/
structure Mrs (lt : Nat → Nat → Bool) (n bs q : Nat) (D : List Nat) : Prop where
  len : D.length = n
  done : ∀ p, p < q → Srt lt D (p * (2 * bs)) (p * (2 * bs) + 2 * bs)
  rest : ∀ p, 2 * q ≤ p → p * bs < n → Srt lt D (p * bs) (min (p * bs + bs) n)
theorem Mrs.start {lt : Nat → Nat → Bool} {n bs : Nat} {D : List Nat} (hl : D.length = n) (h : AllB lt n bs D) : Mrs lt n bs 0 D := ⟨hl, fun p hp => absurd hp (by omega), fun p _ hp => h p hp⟩
theorem two_mul_ (q bs : Nat) : q * (2 * bs) = 2 * q * bs := by rw [← Nat.mul_assoc, Nat.mul_comm q 2]
theorem lt_step {p q bs : Nat} (h : p < q) : p * bs + bs ≤ q * bs := by
  have := Nat.mul_le_mul_right bs (show p + 1 ≤ q from h)
  rw [Nat.add_mul, Nat.one_mul] at this; exact this
theorem Mrs.two {lt : Nat → Nat → Bool} {n bs q b : Nat} {D : List Nat} (h : Mrs lt n bs q D) (hm : q * (2 * bs) + bs < n) (hb : b = min (q * (2 * bs) + 2 * bs) n) (hbs : 0 < bs) :
    Srt lt D (q * (2 * bs)) (q * (2 * bs) + bs) ∧ Srt lt D (q * (2 * bs) + bs) b := by
  have h1 := h.rest (2 * q) (Nat.le_refl _) (by rw [← two_mul_]; omega)
  have h2 := h.rest (2 * q + 1) (by omega) (by rw [Nat.add_mul, Nat.one_mul, ← two_mul_]; exact hm)
  rw [← two_mul_, Nat.min_eq_left (by omega)] at h1
  rw [Nat.add_mul, Nat.one_mul, ← two_mul_] at h2
  refine ⟨h1, ?_⟩
  rw [hb, show q * (2 * bs) + 2 * bs = q * (2 * bs) + bs + bs by omega]; exact h2
theorem Mrs.step {lt : Nat → Nat → Bool} {n bs q : Nat} {D D' : List Nat} (h : Mrs lt n bs q D) (hp : Part (q * (2 * bs)) (q * (2 * bs) + 2 * bs) D D') (hs : Srt lt D' (q * (2 * bs)) (q * (2 * bs) + 2 * bs)) : Mrs lt n bs (q + 1) D' := by
  refine ⟨hp.len.trans h.len, fun p hpq => ?_, fun p hp1 hp2 => ?_⟩
  · by_cases e : p = q
    · subst e; exact hs
    · exact (h.done p (by omega)).keep_lo hp (lt_step (by omega))
  · refine (h.rest p (by omega) hp2).keep_hi hp ?_
    have := Nat.mul_le_mul_right bs (show 2 * q + 2 ≤ p by omega)
    rw [Nat.add_mul, ← two_mul_] at this
    omega
theorem Mrs.last {lt : Nat → Nat → Bool} {n bs q : Nat} {D D' : List Nat} (h : Mrs lt n bs q D) (hq : q * (2 * bs) ≤ n) (hn : n < q * (2 * bs) + 2 * bs) (hp : Part (q * (2 * bs)) n D D') (hs : q * (2 * bs) < n → Srt lt D' (q * (2 * bs)) n) : AllB lt n (2 * bs) D' := by
  intro p hpn
  by_cases e : p < q
  · have := lt_step (bs := 2 * bs) e
    rw [Nat.min_eq_left (by omega)]
    exact (h.done p e).keep_lo hp this
  · have hpq : p = q := by
      rcases Nat.lt_or_ge q p with h1 | h1
      · have := lt_step (bs := 2 * bs) h1; omega
      · omega
    subst hpq
    rw [Nat.min_eq_right (by omega)]; exact hs hpn
theorem Mrs.none {lt : Nat → Nat → Bool} {n bs q : Nat} {D : List Nat} (h : Mrs lt n bs q D) (hm : ¬ q * (2 * bs) + bs < n) (hq : q * (2 * bs) < n) : Srt lt D (q * (2 * bs)) n := by
  have h1 := h.rest (2 * q) (Nat.le_refl _) (by rw [← two_mul_]; exact hq)
  rw [← two_mul_, Nat.min_eq_right (by omega)] at h1
  exact h1
theorem AllB.whole {lt : Nat → Nat → Bool} (h : Swo lt) {n bs : Nat} {D : List Nat} (hl : D.length = n) (hb : n ≤ bs) (ha : AllB lt n bs D) : D = sortN lt n := by
  by_cases hn : n = 0
  · subst hn
    rw [List.eq_nil_of_length_eq_zero hl]; rfl
  · have h0 := ha 0 (by omega)
    rw [Nat.zero_mul, Nat.zero_add, Nat.min_eq_right hb] at h0
    have e : seg D 0 n = D := by unfold seg; rw [List.drop_zero, List.take_of_length_le (by omega)]
    unfold Srt at h0
    rw [e] at h0
    refine sortN_one h ?_ h0.2
    rw [List.range_eq_range']; exact h0.1
end Go.Proofs.YtkcoikelcmpceaaGreatDoor
namespace Go.Proofs.YtkcoikelcmpceaaGreatDoor
open Go.RowKit NM
/-- What lies below 'base', and what is no row of numbers, is as it was. -/
structure Bq (base : Nat) (w w' : World) : Prop where
  bel : Below base w w'
  oth : Lib.OthersKept 26 none w w'
theorem Bq.of_ext {base : Nat} {w w' : World} (h : Ext w w') (hb : base ≤ w.heap.size) : Bq base w w' := ⟨Below.mono h hb, fun k o hk _ _ => by rw [h.block (lt_block hk)]; exact hk⟩
theorem Bq.refl (base : Nat) (w : World) : Bq base w w := ⟨Below.refl _ _, Lib.OthersKept.refl _ _ _⟩
theorem Bq.trans {base : Nat} {a b c : World} (h : Bq base a b) (k : Bq base b c) : Bq base a c := ⟨h.bel.trans k.bel, h.oth.trans k.oth⟩
theorem Bq.size {base : Nat} {a b : World} (h : Bq base a b) : a.heap.size ≤ b.heap.size := h.bel.size
theorem Bq.drew {base : Nat} {a b : World} (h : Bq base a b) : Bq base a b.drew := ⟨h.bel.drew, h.oth.drew⟩
/-- A number is written. -/
abbrev nset (w : World) (b o : Nat) (q : Nm) : World := (w.setCell ⟨b, o, none⟩ (.int .i64 q.1)).setCell ⟨b, o + 1, none⟩ (.int .i64 q.2)
/-- Numbers that are written: those of some places. -/
def Wr (g : Nat → Nm) (base : Nat) (w : World) (A : Option Addr) (cap : Nat) (l : List Nat) : Prop :=
  l.length ≤ cap ∧ (l = [] ∨ ∃ b off cur, A = some ⟨b, off, none⟩ ∧ base ≤ b ∧ w.heap[b]? = some (.cells cur 26 (0, 0)) ∧ ∀ (j d : Nat), l[j]? = some d → cur[off + j * 2]? = some (.int .i64 (g d).1) ∧ cur[off + j * 2 + 1]? = some (.int .i64 (g d).2))
section
variable {g : Nat → Nm}
theorem Wr.of_ext {base : Nat} {w w' : World} {A : Option Addr} {cap : Nat} {l : List Nat} (h : Wr g base w A cap l) (hx : Ext w w') : Wr g base w' A cap l := by
  refine ⟨h.1, ?_⟩
  rcases h.2 with h | ⟨b, off, cur, h1, h2, h3, h4⟩
  · exact Or.inl h
  · exact Or.inr ⟨b, off, cur, h1, h2, by rw [hx.block (lt_block h3)]; exact h3, h4⟩
theorem Wr.drew {base : Nat} {w : World} {A : Option Addr} {cap : Nat} {l : List Nat} (h : Wr g base w A cap l) : Wr g base w.drew A cap l := h.of_ext ((Ext.refl _).drew)
theorem Wr.at {base i d cap : Nat} {w : World} {A : Option Addr} {l : List Nat} (h : Wr g base w A cap l) (hd : l[i]? = some d) :
    ∃ b off, A = some ⟨b, off, none⟩ ∧ base ≤ b ∧ (w.cell? ⟨b, off + i * 2, none⟩ = some (.int .i64 (g d).1) ∧ w.cell? ⟨b, off + i * 2 + 1, none⟩ = some (.int .i64 (g d).2)) ∧ w.frozen? ⟨b, off + i * 2, none⟩ = false ∧ w.frozen? ⟨b, off + i * 2 + 1, none⟩ = false := by
  rcases h.2 with h | ⟨b, off, cur, rfl, h2, h3, h4⟩
  · subst h; simp at hd
  · obtain ⟨e0, e1⟩ := h4 i d hd
    refine ⟨b, off, rfl, h2, ⟨?_, ?_⟩, ?_, ?_⟩
    · unfold World.cell?; rw [h3]; simpa using e0
    · unfold World.cell?; rw [h3]; simpa using e1
    · unfold World.frozen?; rw [h3]; simp
    · unfold World.frozen?; rw [h3]; simp
theorem Wr.bel {base : Nat} {a w : World} (h : Bq base a w) {b off cap i : Nat} {l : List Nat} (hd : Wr g base w (some ⟨b, off, none⟩) cap l) (hl : i < l.length) (q : Nm) : Bq base a (nset w b (off + i * 2) q) := by
  rcases hd.2 with h0 | ⟨b', off', cur, h1, h2, h3, h4⟩
  · subst h0; simp at hl
  · simp only [Option.some.injEq, Addr.mk.injEq, and_true] at h1
    obtain ⟨rfl, rfl⟩ := h1
    refine ⟨(h.bel.setCell h2 _).setCell h2 _, fun k o hk hb ho => ?_⟩
    have h5 := h.oth k o hk hb ho
    have hne : k ≠ b := fun he => by
      subst he
      rw [h3] at h5
      exact ho cur (0, 0) (Option.some.inj h5).symm
    rw [RowKit.Below.heap_setCell _ _ _ _ hne, RowKit.Below.heap_setCell _ _ _ _ hne]
    exact h5
theorem Wr.set {base : Nat} {w : World} {b off cap i d : Nat} {l : List Nat} (h : Wr g base w (some ⟨b, off, none⟩) cap l) (hi : i < l.length) : Wr g base (nset w b (off + i * 2) (g d)) (some ⟨b, off, none⟩) cap (l.set i d) := by
  refine ⟨by simpa using h.1, ?_⟩
  rcases h.2 with h | ⟨b', off', cur, h1, h2, h3, h4⟩
  · subst h; simp at hi
  · simp only [Option.some.injEq, Addr.mk.injEq, and_true] at h1
    obtain ⟨rfl, rfl⟩ := h1
    refine Or.inr ⟨b, off, (cur.setIfInBounds (off + i * 2) (.int .i64 (g d).1)).setIfInBounds (off + i * 2 + 1) (.int .i64 (g d).2), rfl, h2, ?_, fun j d' hd => ?_⟩
    · simp [nset, World.setCell, Array.getElem?_modify, h3]
    · obtain ⟨y, hy⟩ : ∃ y, l[i]? = some y := ⟨l[i], by simp [hi]⟩
      obtain ⟨x0, x1⟩ := h4 i y hy
      have hlt0 : off + i * 2 < cur.size := by
        rcases Nat.lt_or_ge (off + i * 2) cur.size with hl | hl
        · exact hl
        · rw [Array.getElem?_eq_none hl] at x0; cases x0
      have hlt1 : off + i * 2 + 1 < cur.size := by
        rcases Nat.lt_or_ge (off + i * 2 + 1) cur.size with hl | hl
        · exact hl
        · rw [Array.getElem?_eq_none hl] at x1; cases x1
      by_cases hji : i = j
      · subst hji
        rw [List.getElem?_set_self hi] at hd
        obtain rfl : d = d' := by simpa using hd
        refine ⟨?_, ?_⟩
        · rw [Array.getElem?_setIfInBounds_ne (by omega), Array.getElem?_setIfInBounds_self_of_lt hlt0]
        · rw [Array.getElem?_setIfInBounds_self_of_lt (by rw [Array.size_setIfInBounds]; exact hlt1)]
      · rw [List.getElem?_set_ne hji] at hd
        obtain ⟨y0, y1⟩ := h4 j d' hd
        refine ⟨?_, ?_⟩
        · rw [Array.getElem?_setIfInBounds_ne (by omega), Array.getElem?_setIfInBounds_ne (by omega)]; exact y0
        · rw [Array.getElem?_setIfInBounds_ne (by omega), Array.getElem?_setIfInBounds_ne (by omega)]; exact y1
theorem Wr.sw {base : Nat} {w : World} {b off cap i j x y : Nat} {l : List Nat} (h : Wr g base w (some ⟨b, off, none⟩) cap l) (hx : l[i]? = some x) (hy : l[j]? = some y) :
    Wr g base (nset (nset w b (off + i * 2) (g y)) b (off + j * 2) (g x)) (some ⟨b, off, none⟩) cap (sw1 l i j) := by
  have hi := (List.getElem?_eq_some_iff.1 hx).1
  have hj := (List.getElem?_eq_some_iff.1 hy).1
  have h1 : l.getD i 0 = x := by simp [List.getD, hx]
  have h2 : l.getD j 0 = y := by simp [List.getD, hy]
  unfold sw1
  rw [h1, h2]
  exact Wr.set (Wr.set h hi) (by simpa using hj)
end
section
variable {g : Nat → Nm}
theorem swp_step (D : List Nat) (a b k : Nat) : swp D a b (k + 1) = sw1 (swp D a b k) (a + k) (b + k) := rfl
set_option maxHeartbeats 2000000 in
theorem swapRange_any (base : Nat) (A : Option Addr) (cap : Nat) (D : List Nat) (a b n : Nat) (cf : Value) (w : World) (h : Wr g base w A cap D) (hs : D.length ≤ 100000) (h1 : a + n ≤ D.length) (h2 : b + n ≤ D.length) :
    Calls Tryz.prog 228 #[.slice A D.length cap, .int .i64 (a : Int), .int .i64 (b : Int), .int .i64 (n : Int), cf] w fun e w' => e = .returned (.tuple #[]) ∧ Wr g base w' A cap (swp D a b n) ∧ Bq base w w' := by
  have hcap := h.1
  have hn : n ≤ 100000 := by omega
  go_enter Tryz.func228, Tryz.ntmps228
  go_wp2_with fail
  go_loopw [10] (fun i wr => ∃ k : Nat, k ≤ n ∧ i = .int .i64 (k : Int) ∧ Hid (Wr g base wr A cap (swp D a b k)) ∧ Bq base w wr) (fun i _ => n - (intOf i).toNat)
  case atStart => exact ⟨0, Nat.zero_le _, rfl, h, Bq.refl _ _⟩
  case round =>
    obtain ⟨k, hk, rfl, HW, hX⟩ := hrel
    by_cases hlt : k < n
    · have hl : (swp D a b k).length = D.length := swp_length _ _ _ _
      have hst := swp_step D a b k
      generalize swp D a b k = E at *
      obtain ⟨x, hx⟩ : ∃ x, E[a + k]? = some x := ⟨_, List.getElem?_eq_getElem (by omega)⟩
      obtain ⟨y, hy⟩ : ∃ y, E[b + k]? = some y := ⟨_, List.getElem?_eq_getElem (by omega)⟩
      obtain ⟨bl, off, rfl, hb1, ⟨cx, cx'⟩, fx, fx'⟩ := HW.out.at hx
      obtain ⟨bl', off', e, hb2, ⟨cy, cy'⟩, fy, fy'⟩ := HW.out.at hy
      simp only [Option.some.injEq, Addr.mk.injEq, and_true] at e
      obtain ⟨rfl, rfl⟩ := e
      have hb : bl < wr.heap.size := lt_of_cell cx
      have e1 : IntKind.i64.wrap ((a : Int) + (k : Int)) = ((a + k : Nat) : Int) := by rw [IntKind.wrap_i64]; omega
      have e2 : IntKind.i64.wrap ((b : Int) + (k : Int)) = ((b + k : Nat) : Int) := by rw [IntKind.wrap_i64]; omega
      have l1 : a + k < D.length := by omega
      have l2 : b + k < D.length := by omega
      obtain ⟨z, hz⟩ : ∃ z, (E.set (a + k) y)[b + k]? = some z := ⟨_, List.getElem?_eq_getElem (by rw [List.length_set]; omega)⟩
      obtain ⟨bl', off', e, _, ⟨cz, cz'⟩, fz, fz'⟩ := (Wr.set (d := y) HW.out (show a + k < E.length by omega)).at hz
      simp only [Option.some.injEq, Addr.mk.injEq, and_true] at e
      obtain ⟨rfl, rfl⟩ := e
      have hX2 := (Wr.bel (Wr.bel hX HW.out (show a + k < E.length by omega) (g y)) (Wr.set (d := y) HW.out (show a + k < E.length by omega)) (show b + k < (E.set (a + k) y).length by rw [List.length_set]; omega) (g x))
      have HX := Lib.hid hx
      have HY := Lib.hid hy
      have HS := Lib.hid hst
      have HL := Lib.hid hl
      generalize hp : a + k = p at *
      generalize hq : b + k = q at *
      clear h h1 h2 hst hx hy hz hl hp hq
      go_wp2_with fail
      go_region
      go_wp2_with fail
      refine ⟨⟨k + 1, by omega, by go_num, ?_, hX2.drew⟩, by simp [intOf]; omega⟩
      show Wr _ _ _ _ _ (swp D a b (k + 1))
      rw [HS.out]
      exact (Wr.sw HW.out HX.out HY.out).drew
    · obtain rfl : k = n := by omega
      go_wp2_with fail
      exact bodyPost_end (v := .tuple #[]) (by simp [results, Tryz.results228, go_sem]) rfl ⟨rfl, HW.out, hX⟩
/-- The same at parts known by name. -/
theorem swapParts_any (base : Nat) (A : Option Addr) (cap N : Nat) (pre P M Q post : List Nat) (a b n : Int) (cf : Value) (w : World) (h : Wr g base w A cap (pre ++ (P ++ (M ++ (Q ++ post))))) (hN : (pre ++ (P ++ (M ++ (Q ++ post)))).length = N) (hs : N ≤ 100000)
    (hP : (P.length : Int) = n) (hQ : Q.length = P.length) (ha : (pre.length : Int) = a) (hb : ((pre.length + P.length + M.length : Nat) : Int) = b) :
    Calls Tryz.prog 228 #[.slice A N cap, .int .i64 a, .int .i64 b, .int .i64 n, cf] w fun e w' => e = .returned (.tuple #[]) ∧ Wr g base w' A cap (pre ++ (Q ++ (M ++ (P ++ post)))) ∧ Bq base w w' := by
  have hl : (pre ++ (P ++ (M ++ (Q ++ post)))).length = pre.length + P.length + M.length + Q.length + post.length := by simp only [List.length_append]; omega
  have := swapRange_any base A cap _ pre.length (pre.length + P.length + M.length) P.length cf w h (by omega) (by omega) (by omega)
  rw [swp_mid P.length pre P M Q post rfl hQ rfl rfl, hN, hP, ha, hb] at this
  exact this
set_option maxHeartbeats 2000000 in
theorem rotate_any (base : Nat) (A : Option Addr) (cap N : Nat) (pre U V post : List Nat) (a m b : Int) (cf : Value) (w : World) (h : Wr g base w A cap (pre ++ (U ++ (V ++ post)))) (hN : (pre ++ (U ++ (V ++ post))).length = N) (hs : N ≤ 100000)
    (ha : (pre.length : Int) = a) (hm : ((pre.length + U.length : Nat) : Int) = m) (hb : ((pre.length + U.length + V.length : Nat) : Int) = b) (hU : 0 < U.length) (hV : 0 < V.length) :
    Calls Tryz.prog 208 #[.slice A N cap, .int .i64 a, .int .i64 m, .int .i64 b, cf] w fun e w' => e = .returned (.tuple #[]) ∧ Wr g base w' A cap (pre ++ (V ++ (U ++ post))) ∧ Bq base w w' := by
  have hl : (pre ++ (U ++ (V ++ post))).length = pre.length + U.length + V.length + post.length := by simp only [List.length_append]; omega
  have e1 : IntKind.i64.wrap (m - a) = (U.length : Int) := by rw [IntKind.wrap_i64]; omega
  have e2 : IntKind.i64.wrap (b - m) = (V.length : Int) := by rw [IntKind.wrap_i64]; omega
  have hm4 : m ≤ 100000 ∧ 0 ≤ m := by omega
  obtain ⟨R, hR⟩ : ∃ R, pre ++ (V ++ (U ++ post)) = R := ⟨_, rfl⟩
  rw [hR]
  obtain ⟨x0, hx⟩ : ∃ x, U.length = x := ⟨_, rfl⟩
  obtain ⟨y0, hy⟩ : ∃ y, V.length = y := ⟨_, rfl⟩
  rw [hx] at e1
  rw [hy] at e2
  have H0 : Hid (∃ pre' U' V' post' : List Nat, U'.length = x0 ∧ V'.length = y0 ∧ ((pre'.length + U'.length : Nat) : Int) = m ∧ (pre' ++ (U' ++ (V' ++ post'))).length = N ∧ pre' ++ (V' ++ (U' ++ post')) = R ∧ Wr g base w A cap (pre' ++ (U' ++ (V' ++ post')))) := ⟨pre, U, V, post, hx, hy, hm, hN, hR, h⟩
  have hx0 : 0 < x0 ∧ x0 ≤ 100000 := by omega
  have hy0 : 0 < y0 ∧ y0 ≤ 100000 := by omega
  clear h hN ha hm hb hU hV hl hR hx hy
  go_enter Tryz.func208, Tryz.ntmps208
  go_wp2_with fail
  go_loopw [10, 11] (fun i j wr => ∃ x y : Nat, 0 < x ∧ x ≤ 100000 ∧ 0 < y ∧ y ≤ 100000 ∧ i = .int .i64 (x : Int) ∧ j = .int .i64 (y : Int) ∧ Hid (∃ pre' U' V' post' : List Nat, U'.length = x ∧ V'.length = y ∧ ((pre'.length + U'.length : Nat) : Int) = m ∧ (pre' ++ (U' ++ (V' ++ post'))).length = N ∧ pre' ++ (V' ++ (U' ++ post')) = R ∧ Wr g base wr A cap (pre' ++ (U' ++ (V' ++ post')))) ∧ Bq base w wr) (fun i j _ => (intOf i).toNat + (intOf j).toNat)
  case atStart => exact ⟨x0, y0, hx0.1, hx0.2, hy0.1, hy0.2, rfl, rfl, H0, Bq.refl _ _⟩
  case round =>
    clear H0 hx0 hy0 e1 e2
    obtain ⟨x, y, x1, x2, y1, y2, rfl, rfl, HW, hX⟩ := hrel
    obtain ⟨pre', U', V', post', hx, hy, hm, hN, hR, hW⟩ := HW.out
    clear HW
    have hl : (pre' ++ (U' ++ (V' ++ post'))).length = pre'.length + U'.length + V'.length + post'.length := by simp only [List.length_append]; omega
    have e3 : IntKind.i64.wrap (m - (x : Int)) = m - (x : Int) := by rw [IntKind.wrap_i64]; omega
    by_cases hne : x = y
    · subst hne
      have hsw := swapParts_any base A cap N pre' U' [] V' post' (m - (x : Int)) m (x : Int) cf wr hW hN hs (by omega) (by omega) (by omega) (by simp only [List.length_nil]; omega)
      rw [List.nil_append, hR] at hsw
      clear hN hW hR hm hx hy hl
      go_wp2_with (go_at_call 228; refine hsw.mono ?_; rintro e w' ⟨rfl, hW, hb⟩)
      exact bodyPost_end (v := .tuple #[]) (by simp [results, Tryz.results208, go_sem]) rfl ⟨rfl, hW, hX.trans hb⟩
    · have hne' : ((x : Int) != (y : Int)) = true := by simp; omega
      by_cases hgt : y < x
      · obtain ⟨U1, U2, rfl, hU1⟩ : ∃ U1 U2, U' = U1 ++ U2 ∧ U1.length = y := ⟨U'.take y, U'.drop y, (List.take_append_drop _ _).symm, by rw [List.length_take]; omega⟩
        have hU2 : U2.length = x - y := by rw [List.length_append] at hx; omega
        have hsw := swapParts_any base A cap N pre' U1 U2 V' post' (m - (x : Int)) m (y : Int) cf wr (by simpa using hW) (by simpa using hN) hs (by omega) (by omega) (by rw [List.length_append] at hm; omega) (by rw [List.length_append] at hm; omega)
        have e4 : IntKind.i64.wrap ((x : Int) - (y : Int)) = ((x - y : Nat) : Int) := by rw [IntKind.wrap_i64]; omega
        have HF := Lib.hid (show ((pre' ++ V').length + U2.length : Nat) = m ∧ ((pre' ++ V') ++ (U2 ++ (U1 ++ post'))).length = N ∧ (pre' ++ V') ++ (U1 ++ (U2 ++ post')) = R ∧ U2.length = x - y ∧ U1.length = y from ⟨by simp only [List.length_append] at hm ⊢; omega, by simp only [List.length_append] at hN ⊢; omega, by rw [← hR]; simp, hU2, hU1⟩)
        clear hN hW hR hm hx hy hl hU1 hU2 hne
        go_wp2_with (go_at_call 228; refine hsw.mono ?_; rintro e w' ⟨rfl, hW, hb⟩)
        refine ⟨⟨x - y, y, by omega, by omega, y1, y2, rfl, rfl, ?_, hX.trans hb⟩, by simp [intOf]; omega⟩
        obtain ⟨f1, f2, f3, f4, f5⟩ := HF.out
        exact ⟨pre' ++ V', U2, U1, post', f4, f5, f1, f2, f3, by simpa using hW⟩
      · obtain ⟨V1, V2, rfl, hV1⟩ : ∃ V1 V2, V' = V1 ++ V2 ∧ V1.length = y - x := ⟨V'.take (y - x), V'.drop (y - x), (List.take_append_drop _ _).symm, by rw [List.length_take]; omega⟩
        have hV2 : V2.length = x := by rw [List.length_append] at hy; omega
        have hxy : x < y := by omega
        have e5 : IntKind.i64.wrap (m + (y : Int)) = m + (y : Int) := by rw [IntKind.wrap_i64]; omega
        have e6 : IntKind.i64.wrap (m + (y : Int) - (x : Int)) = m + (y : Int) - (x : Int) := by rw [IntKind.wrap_i64]; omega
        have hsw := swapParts_any base A cap N pre' U' V1 V2 post' (m - (x : Int)) (m + (y : Int) - (x : Int)) (x : Int) cf wr (by simpa using hW) (by simpa using hN) hs (by omega) (by omega) (by omega) (by omega)
        have e4 : IntKind.i64.wrap ((y : Int) - (x : Int)) = ((y - x : Nat) : Int) := by rw [IntKind.wrap_i64]; omega
        have HF := Lib.hid (show (pre'.length + V2.length : Nat) = m ∧ (pre' ++ (V2 ++ (V1 ++ (U' ++ post')))).length = N ∧ pre' ++ (V1 ++ (V2 ++ (U' ++ post'))) = R ∧ V2.length = x ∧ V1.length = y - x from ⟨by omega, by simp only [List.length_append] at hN ⊢; omega, by rw [← hR]; simp, hV2, hV1⟩)
        clear hN hW hR hm hx hy hl hV1 hV2 hne
        go_wp2_with (go_at_call 228; refine hsw.mono ?_; rintro e w' ⟨rfl, hW, hb⟩)
        refine ⟨⟨x, y - x, by omega, by omega, by omega, by omega, rfl, rfl, ?_, hX.trans hb⟩, by simp [intOf]; omega⟩
        obtain ⟨f1, f2, f3, f4, f5⟩ := HF.out
        exact ⟨pre', V2, V1, U' ++ post', f4, f5, f1, f2, f3, hW⟩
end
end Go.Proofs.YtkcoikelcmpceaaGreatDoor
namespace Go.Proofs.YtkcoikelcmpceaaGreatDoor
open Go.RowKit
theorem sw1_comm {D : List Nat} {i j : Nat} (h : i ≠ j) : sw1 D i j = sw1 D j i := by unfold sw1; exact List.set_comm _ _ h
theorem sw_dn (p r : List Nat) (x y : Nat) {i j : Nat} (hi : i = p.length) (hj : j = p.length + 1) : sw1 (p ++ x :: y :: r) i j = p ++ y :: x :: r := by
  have := sw1_mid p [] r x y (i := i) (j := j) hi (by simp; omega)
  simpa using this
theorem sw_up (p r : List Nat) (l x : Nat) {i j : Nat} (hi : i = p.length + 1) (hj : j = p.length) : sw1 (p ++ l :: x :: r) i j = p ++ x :: l :: r := by
  rw [sw1_comm (by omega)]; exact sw_dn p r l x hj hi
/-- A place on its way down among places in order. -/
def InI (lt : Nat → Nat → Bool) (pre X0 rest : List Nat) (x k : Nat) (E : List Nat) : Prop :=
  ∃ X1 Y, X1 ++ Y = X0 ∧ E = pre ++ (X1 ++ x :: (Y ++ rest)) ∧ X1.length = k ∧ ∀ f, Y.head? = some f → lt x f = true
section
variable {lt : Nat → Nat → Bool} {pre X0 rest E : List Nat} {x k : Nat}
theorem InI.start (lt : Nat → Nat → Bool) (pre X0 rest : List Nat) (x : Nat) : InI lt pre X0 rest x X0.length (pre ++ (X0 ++ x :: rest)) :=
  ⟨X0, [], by simp, by simp, rfl, fun f hf => by cases hf⟩
theorem InI.len (h : InI lt pre X0 rest x k E) : E.length = pre.length + X0.length + 1 + rest.length := by
  obtain ⟨X1, Y, rfl, rfl, _, _⟩ := h
  simp only [List.length_append, List.length_cons]; omega
theorem InI.at (h : InI lt pre X0 rest x k E) : E[pre.length + k]? = some x := by
  obtain ⟨X1, Y, rfl, rfl, rfl, _⟩ := h
  rw [← List.append_assoc, ← List.length_append, List.getElem?_append_right (Nat.le_refl _), Nat.sub_self]; rfl
theorem InI.prev (h : InI lt pre X0 rest x (k + 1) E) : ∃ l, l ∈ X0 ∧ E[pre.length + k]? = some l := by
  obtain ⟨X1, Y, rfl, rfl, hk, _⟩ := h
  obtain ⟨X2, l, rfl⟩ : ∃ X2 l, X1 = X2 ++ [l] := ⟨X1.dropLast, X1.getLast (by intro e; subst e; simp at hk), (List.dropLast_concat_getLast _).symm⟩
  have hk : X2.length = k := by simpa using hk
  subst hk
  refine ⟨l, by simp, ?_⟩
  rw [← List.append_assoc, ← List.append_assoc, ← List.length_append, List.append_assoc, List.getElem?_append_right (Nat.le_refl _), Nat.sub_self]; rfl
theorem InI.step (h : InI lt pre X0 rest x (k + 1) E) {l : Nat} (hl : E[pre.length + k]? = some l) (hlt : lt x l = true) {i j : Nat} (hi : i = pre.length + (k + 1)) (hj : j = pre.length + k) : InI lt pre X0 rest x k (sw1 E i j) := by
  obtain ⟨X1, Y, rfl, rfl, hk, _⟩ := h
  obtain ⟨X2, l2, rfl⟩ : ∃ X2 l, X1 = X2 ++ [l] := ⟨X1.dropLast, X1.getLast (by intro e; subst e; simp at hk), (List.dropLast_concat_getLast _).symm⟩
  have hk : X2.length = k := by simpa using hk
  subst hk
  have e1 : pre ++ (X2 ++ [l2] ++ x :: (Y ++ rest)) = (pre ++ X2) ++ l2 :: x :: (Y ++ rest) := by simp
  rw [e1] at hl ⊢
  rw [← List.length_append, List.getElem?_append_right (Nat.le_refl _), Nat.sub_self] at hl
  obtain rfl : l2 = l := by simpa using hl
  rw [sw_up _ _ _ _ (by simp; omega) (by simp; omega)]
  exact ⟨X2, l2 :: Y, by simp, by simp, rfl, fun f hf => by
    have hq : l2 = f := Option.some.inj hf
    rw [← hq]; exact hlt⟩
theorem InI.done (h : Swo lt) (hI : InI lt pre X0 rest x k E) (hs : X0.Pairwise (Lx lt)) (hb : ∀ y ∈ X0, y < x) (hk : k = 0 ∨ ∃ j l, k = j + 1 ∧ E[pre.length + j]? = some l ∧ lt x l = false) :
    ∃ X', X'.Perm (x :: X0) ∧ X'.Pairwise (Lx lt) ∧ E = pre ++ (X' ++ rest) := by
  obtain ⟨X1, Y, rfl, rfl, rfl, hf⟩ := hI
  refine ⟨X1 ++ x :: Y, List.perm_middle, pw_insert h hs ?_ (fun f e => Or.inl (hf f e)), by simp⟩
  intro l hl
  rcases hk with hk | ⟨j, l', hk, hl', hlt⟩
  · rw [List.eq_nil_of_length_eq_zero hk] at hl; cases hl
  · have hl2 : X1[j]? = some l := by rw [List.getLast?_eq_getElem?, hk] at hl; simpa using hl
    rw [List.getElem?_append_right (by omega), show pre.length + j - pre.length = j by omega, List.getElem?_append_left (by omega), hl2] at hl'
    obtain rfl : l = l' := by simpa using hl'
    exact Lx.of_not (hb _ (List.mem_append_left _ (List.mem_of_getElem? hl2))) hlt
end
/-- A place walks up, walks down. -/
def up1 (D : List Nat) (a : Nat) : Nat → List Nat
  | 0 => D
  | t + 1 => sw1 (up1 D a t) (a + t) (a + t + 1)
def dn1 (D : List Nat) (m : Nat) : Nat → List Nat
  | 0 => D
  | t + 1 => sw1 (dn1 D m t) (m - t) (m - t - 1)
theorem up1_length (D : List Nat) (a : Nat) : ∀ t, (up1 D a t).length = D.length
  | 0 => rfl
  | t + 1 => by rw [up1, sw1_length, up1_length]
theorem dn1_length (D : List Nat) (a : Nat) : ∀ t, (dn1 D a t).length = D.length
  | 0 => rfl
  | t + 1 => by rw [dn1, sw1_length, dn1_length]
theorem up1_mid : ∀ (t : Nat) (pre Y post : List Nat) (x : Nat) {a : Nat}, Y.length = t → a = pre.length → up1 (pre ++ x :: (Y ++ post)) a t = pre ++ (Y ++ x :: post)
  | 0, pre, Y, post, x, a, hY, ha => by rw [List.eq_nil_of_length_eq_zero hY]; rfl
  | t + 1, pre, Y, post, x, a, hY, ha => by
    obtain ⟨Y', y, rfl⟩ : ∃ P' p, Y = P' ++ [p] := ⟨Y.dropLast, Y.getLast (by intro e; subst e; simp at hY), (List.dropLast_concat_getLast _).symm⟩
    simp only [List.length_append, List.length_singleton, Nat.add_right_cancel_iff] at hY
    have h := up1_mid t pre Y' (y :: post) x (a := a) hY ha
    rw [up1, show pre ++ x :: (Y' ++ [y] ++ post) = pre ++ x :: (Y' ++ y :: post) by simp, h]
    have e : pre ++ (Y' ++ x :: y :: post) = (pre ++ Y') ++ x :: y :: post := by simp
    rw [e, sw_dn _ _ _ _ (by simp; omega) (by simp; omega)]
    simp
theorem dn1_mid : ∀ (t : Nat) (pre Y post : List Nat) (x : Nat) {m : Nat}, Y.length = t → m = pre.length + t → dn1 (pre ++ (Y ++ x :: post)) m t = pre ++ x :: (Y ++ post)
  | 0, pre, Y, post, x, m, hY, hm => by rw [List.eq_nil_of_length_eq_zero hY]; rfl
  | t + 1, pre, [], post, x, m, hY, hm => by cases hY
  | t + 1, pre, y :: Y, post, x, m, hY, hm => by
    simp only [List.length_cons, Nat.add_right_cancel_iff] at hY
    have h := dn1_mid t (pre ++ [y]) Y post x (m := m) hY (by simp; omega)
    rw [dn1, show pre ++ (y :: Y ++ x :: post) = pre ++ [y] ++ (Y ++ x :: post) by simp, h]
    have e : pre ++ [y] ++ x :: (Y ++ post) = pre ++ y :: x :: (Y ++ post) := by simp
    rw [e, sw_up _ _ _ _ (by omega) (by omega)]
    simp
theorem seg_one {D : List Nat} {a x : Nat} (h : D[a]? = some x) : seg D a (a + 1) = [x] := by
  have ha := (List.getElem?_eq_some_iff.1 h).1
  refine List.ext_getElem? fun i => ?_
  unfold seg
  rw [List.getElem?_drop, List.getElem?_take]
  match i with
  | 0 => rw [if_pos (by omega)]; simpa using h
  | i + 1 => rw [if_neg (by omega)]; rfl
theorem drop_seg {D : List Nat} {i b : Nat} (h : i ≤ b) : D.drop i = seg D i b ++ D.drop b := by
  unfold seg
  rw [List.drop_take]
  conv => lhs; rw [← List.take_append_drop (b - i) (D.drop i)]
  rw [List.drop_drop, show i + (b - i) = b by omega]
theorem take_seg {D : List Nat} {a i : Nat} (h : a ≤ i) : D.take i = D.take a ++ seg D a i := by
  unfold seg
  conv => lhs; rw [← List.take_append_drop a (D.take i)]
  rw [List.take_take, Nat.min_eq_left h]
section
variable {lt : Nat → Nat → Bool} (h : Swo lt)
include h
/-- The first part is one place. -/
theorem merge_left {D : List Nat} {a i b x : Nat} (hx : D[a]? = some x) (h1 : a + 1 ≤ i) (h2 : i ≤ b) (h3 : b ≤ D.length) (hY : (seg D (a + 1) b).Pairwise (Lx lt)) (hxy : ∀ y ∈ seg D (a + 1) b, x < y)
    (c1 : i = a + 1 ∨ ∃ u, D[i - 1]? = some u ∧ lt u x = true) (c2 : i = b ∨ ∃ u, D[i]? = some u ∧ lt u x = false) : Mrg lt a b D (up1 D a (i - 1 - a)) := by
  have la : (D.take a).length = a := by rw [List.length_take]; omega
  have l2 : (seg D (a + 1) i).length = i - 1 - a := by rw [seg_length (by omega)]; omega
  have l3 : (seg D i b).length = b - i := seg_length h3
  have e0 : seg D (a + 1) b = seg D (a + 1) i ++ seg D i b := seg_seg h1 h2
  have e1 : D = D.take a ++ ((x :: (seg D (a + 1) i ++ seg D i b)) ++ D.drop b) := by
    conv => lhs; rw [← List.take_append_drop a D, drop_seg (show a ≤ a + 1 by omega), seg_one hx, drop_seg h1, drop_seg h2]
    simp
  have e2 : up1 D a (i - 1 - a) = D.take a ++ ((seg D (a + 1) i ++ x :: seg D i b) ++ D.drop b) := by
    have := up1_mid (i - 1 - a) (D.take a) (seg D (a + 1) i) (seg D i b ++ D.drop b) x (a := a) l2 la.symm
    rw [show D.take a ++ x :: (seg D (a + 1) i ++ (seg D i b ++ D.drop b)) = D by conv => rhs; rw [e1]
                                                                                  simp] at this
    rw [this]; simp
  have l4 : (seg D (a + 1) i ++ x :: seg D i b).length = b - a := by simp only [List.length_append, List.length_cons]; omega
  have es : seg (up1 D a (i - 1 - a)) a b = seg D (a + 1) i ++ x :: seg D i b := by rw [e2]; exact seg_of la.symm (by omega)
  have e3 : seg D a b = x :: (seg D (a + 1) i ++ seg D i b) := by rw [seg_seg (show a ≤ a + 1 by omega) (show a + 1 ≤ b by omega), seg_one hx, e0]; rfl
  refine ⟨?_, ?_, ?_⟩
  · have := Part.of_mid (pre := D.take a) (Z := x :: (seg D (a + 1) i ++ seg D i b)) (Z' := seg D (a + 1) i ++ x :: seg D i b) (post := D.drop b) (a := a) (b := b) la.symm (by simp; omega) (by simp only [List.length_cons, List.length_append]; omega)
    rw [← e1, ← e2] at this
    exact this
  · rw [es, e3]; exact List.perm_middle
  · rw [es]
    rw [e0] at hY hxy
    refine pw_insert h hY ?_ ?_
    · intro l hl
      rcases c1 with c1 | ⟨u, hu, hlt⟩
      · rw [seg_nil (by omega)] at hl; cases hl
      · by_cases hi : i = a + 1
        · rw [seg_nil (by omega)] at hl; cases hl
        · rw [seg_last (by omega) (by omega), hu] at hl
          obtain rfl : u = l := by simpa using hl
          exact Or.inl hlt
    · intro f hf
      rcases c2 with c2 | ⟨u, hu, hlt⟩
      · rw [seg_nil (by omega)] at hf; cases hf
      · by_cases hi : i = b
        · rw [seg_nil (by omega)] at hf; cases hf
        · rw [seg_head (by omega), hu] at hf
          obtain rfl : u = f := by simpa using hf
          exact Lx.of_not (hxy _ (List.mem_append_right _ (seg_mem hu (by omega) (by omega)))) hlt
/-- The last part is one place. -/
theorem merge_right {D : List Nat} {a i m y : Nat} (hy : D[m]? = some y) (h1 : a ≤ i) (h2 : i ≤ m) (hX : (seg D a m).Pairwise (Lx lt)) (hxy : ∀ x ∈ seg D a m, x < y)
    (c1 : i = a ∨ ∃ u, D[i - 1]? = some u ∧ lt y u = false) (c2 : i = m ∨ ∃ u, D[i]? = some u ∧ lt y u = true) : Mrg lt a (m + 1) D (dn1 D m (m - i)) := by
  have h3 := (List.getElem?_eq_some_iff.1 hy).1
  have la : (D.take a).length = a := by rw [List.length_take]; omega
  have li : (D.take i).length = i := by rw [List.length_take]; omega
  have l1 : (seg D a i).length = i - a := seg_length (by omega)
  have l2 : (seg D i m).length = m - i := seg_length (by omega)
  have e0 : seg D a m = seg D a i ++ seg D i m := seg_seg h1 h2
  have e3 : seg D a (m + 1) = seg D a i ++ (seg D i m ++ [y]) := by rw [seg_seg (show a ≤ m by omega) (Nat.le_succ m), seg_one hy, e0, List.append_assoc]
  have e1 : D = D.take a ++ ((seg D a i ++ (seg D i m ++ [y])) ++ D.drop (m + 1)) := by
    rw [← e3]; exact seg_split (by omega)
  have e2 : dn1 D m (m - i) = D.take a ++ ((seg D a i ++ y :: seg D i m) ++ D.drop (m + 1)) := by
    have := dn1_mid (m - i) (D.take i) (seg D i m) (D.drop (m + 1)) y (m := m) l2 (by omega)
    rw [show D.take i ++ (seg D i m ++ y :: D.drop (m + 1)) = D by
      conv => rhs; rw [e1]
      rw [take_seg h1]; simp] at this
    rw [this, take_seg h1]; simp
  have l4 : (seg D a i ++ y :: seg D i m).length = m + 1 - a := by simp only [List.length_append, List.length_cons]; omega
  have es : seg (dn1 D m (m - i)) a (m + 1) = seg D a i ++ y :: seg D i m := by rw [e2]; exact seg_of la.symm (by omega)
  refine ⟨?_, ?_, ?_⟩
  · have := Part.of_mid (pre := D.take a) (Z := seg D a i ++ (seg D i m ++ [y])) (Z' := seg D a i ++ y :: seg D i m) (post := D.drop (m + 1)) (a := a) (b := m + 1) la.symm (by simp only [List.length_cons, List.length_append, List.length_nil]) (by simp only [List.length_cons, List.length_append, List.length_nil]; omega)
    rw [← e1, ← e2] at this
    exact this
  · rw [es, e3]
    refine List.Perm.append_left _ ?_
    exact (List.perm_append_singleton y _).symm
  · rw [es]
    rw [e0] at hX hxy
    refine pw_insert h hX ?_ ?_
    · intro l hl
      rcases c1 with c1 | ⟨u, hu, hlt⟩
      · rw [seg_nil (by omega)] at hl; cases hl
      · by_cases hi : i = a
        · rw [seg_nil (by omega)] at hl; cases hl
        · rw [seg_last (by omega) (by omega), hu] at hl
          obtain rfl : u = l := by simpa using hl
          exact Lx.of_not (hxy _ (List.mem_append_left _ (seg_mem hu (by omega) (by omega)))) hlt
    · intro f hf
      rcases c2 with c2 | ⟨u, hu, hlt⟩
      · rw [seg_nil (by omega)] at hf; cases hf
      · by_cases hi : i = m
        · rw [seg_nil (by omega)] at hf; cases hf
        · rw [seg_head (by omega), hu] at hf
          obtain rfl : u = f := by simpa using hf
          exact Or.inl hlt
/-- Both parts turned about their middle: what the halves ask for. -/
structure Turned (lt : Nat → Nat → Bool) (a s mid e b : Nat) (D D1 : List Nat) : Prop where
  part : Part a b D D1
  perm : (seg D1 a b).Perm (seg D a b)
  cross : ∀ u ∈ seg D1 a mid, ∀ v ∈ seg D1 mid b, Lx lt u v
  p1 : (seg D1 a s).Pairwise (Lx lt)
  p2 : (seg D1 s mid).Pairwise (Lx lt)
  c1 : ∀ x ∈ seg D1 a s, ∀ y ∈ seg D1 s mid, x < y
  p3 : (seg D1 mid e).Pairwise (Lx lt)
  p4 : (seg D1 e b).Pairwise (Lx lt)
  c2 : ∀ x ∈ seg D1 mid e, ∀ y ∈ seg D1 e b, x < y
theorem turned_of {D : List Nat} {a m b s e mid : Nat} (h1 : a ≤ s) (h2 : s ≤ m) (h3 : m ≤ e) (h4 : e ≤ b) (h5 : b ≤ D.length) (hmid : mid = s + (e - m))
    (hX : (seg D a m).Pairwise (Lx lt)) (hY : (seg D m b).Pairwise (Lx lt)) (hxy : ∀ x ∈ seg D a m, ∀ y ∈ seg D m b, x < y)
    (b1 : s = a ∨ e = b ∨ ∃ u v, D[e]? = some u ∧ D[s - 1]? = some v ∧ lt u v = false)
    (b2 : s = m ∨ e = m ∨ ∃ u v, D[e - 1]? = some u ∧ D[s]? = some v ∧ lt u v = true) : Turned lt a s mid e b D (D.take s ++ (seg D m e ++ (seg D s m ++ D.drop e))) := by
  obtain ⟨g1, g2, g3, g4, g5, g6⟩ := merge_split h h1 h2 h3 h4 h5 hmid hX hY hxy b1 b2 rfl
  generalize D.take s ++ (seg D m e ++ (seg D s m ++ D.drop e)) = D1 at *
  have x1 := seg_seg (D := D) h1 h2
  have y1 := seg_seg (D := D) h3 h4
  rw [x1] at hX
  rw [y1] at hY
  obtain ⟨xa, xb, _⟩ := List.pairwise_append.1 hX
  obtain ⟨ya, yb, _⟩ := List.pairwise_append.1 hY
  refine ⟨g1, ?_, g6, by rw [g2]; exact xa, by rw [g3]; exact ya, ?_, by rw [g4]; exact xb, by rw [g5]; exact yb, ?_⟩
  · rw [seg_seg h1 (show s ≤ b by omega), seg_seg (show s ≤ mid by omega) (show mid ≤ b by omega), seg_seg (show mid ≤ e by omega) h4, g2, g3, g4, g5]
    rw [seg_seg h1 (show s ≤ b by omega), seg_seg h2 (show m ≤ b by omega), y1]
    refine List.Perm.append_left _ ?_
    rw [← List.append_assoc, ← List.append_assoc]
    exact List.Perm.append_right _ List.perm_append_comm
  · rw [g2, g3]
    intro x hx y hy
    exact hxy x (by rw [x1]; exact List.mem_append_left _ hx) y (by rw [y1]; exact List.mem_append_left _ hy)
  · rw [g4, g5]
    intro x hx y hy
    exact hxy x (by rw [x1]; exact List.mem_append_right _ hx) y (by rw [y1]; exact List.mem_append_right _ hy)
end
theorem turn_none {D : List Nat} {m s e : Nat} (h2 : s ≤ m) (h3 : m ≤ e) (hh : s = m ∨ m = e) : D.take s ++ (seg D m e ++ (seg D s m ++ D.drop e)) = D := by
  rcases hh with rfl | rfl
  · rw [seg_nil (Nat.le_refl _), List.nil_append, ← drop_seg h3, List.take_append_drop]
  · rw [seg_nil (Nat.le_refl _), List.nil_append, ← drop_seg h2, List.take_append_drop]
theorem turn_as {D : List Nat} {m s e : Nat} (h2 : s ≤ m) (h3 : m ≤ e) : D = D.take s ++ (seg D s m ++ (seg D m e ++ D.drop e)) := by
  rw [← drop_seg h3, ← drop_seg h2, List.take_append_drop]
end Go.Proofs.YtkcoikelcmpceaaGreatDoor
namespace Go.Proofs.YtkcoikelcmpceaaGreatDoor
open Go.RowKit NM
section
variable {g : Nat → Nm}
/-- A function that tells the order of places, and keeps nothing. -/
structure CmpS (g : Nat → Nm) (cl : FuncId) (capt : Array Value) (lt : Nat → Nat → Bool) (M base : Nat) (w : World) : Prop where
  ent : ∀ (args : Array Value) (W : World), (callFunc cl args).run Tryz.prog W = .ok (.enter cl args) W
  run : ∀ (i j : Nat) (W : World), i < M → j < M → Bq base w W → Calls Tryz.prog cl (#[NV (g i).1 (g i).2, NV (g j).1 (g j).2] ++ capt) W fun e W' => ∃ c : Int, e = .returned (.int .i64 c) ∧ decide (c < 0) = lt i j ∧ Ext W W'
theorem CmpS.keep {cl : FuncId} {capt : Array Value} {lt : Nat → Nat → Bool} {M base : Nat} {w w' : World} (h : CmpS g cl capt lt M base w) (hb : Bq base w w') : CmpS g cl capt lt M base w' :=
  ⟨h.ent, fun i j W hi hj hW => h.run i j W hi hj (hb.trans hW)⟩
theorem below_ext {base : Nat} {w X Y : World} (h : Bq base w X) (hb : base ≤ w.heap.size) (hx : Ext X Y) : Bq base w Y := Bq.trans h (Bq.of_ext hx (Nat.le_trans hb h.size))
theorem perm_range_succ {a k : Nat} {X X' : List Nat} (hX : X.Perm (List.range' a k)) (hX' : X'.Perm ((a + k) :: X)) : X'.Perm (List.range' a (k + 1)) := by
  rw [List.range'_concat, Nat.one_mul]
  exact hX'.trans ((hX.cons _).trans (List.perm_append_singleton _ _).symm)
set_option maxHeartbeats 4000000 in
theorem insSort_any {lt : Nat → Nat → Bool} (hlt : Swo lt) (cl : FuncId) (capt : Array Value) (M base : Nat) (A : Option Addr) (cap N a m : Nat) (b : Int) (pre post : List Nat) (w : World) (hc : CmpS g cl capt lt M base w) (hbw : base ≤ w.heap.size)
    (h : Wr g base w A cap (pre ++ (List.range' a m ++ post))) (ha : pre.length = a) (hN : pre.length + m + post.length = N) (hs : N ≤ 100000) (hM : a + m ≤ M) (hb : (a : Int) + m = b) :
    Calls Tryz.prog 184 #[.slice A N cap, .int .i64 (a : Int), .int .i64 b, .func (.func cl) #[] capt] w fun e w' => e = .returned (.tuple #[]) ∧ (∃ X, X.Perm (List.range' a m) ∧ X.Pairwise (Lx lt) ∧ Wr g base w' A cap (pre ++ (X ++ post))) ∧ Bq base w w' := by
  have ha4 : a ≤ 100000 := by omega
  have hm4 : a + m ≤ 100000 := by omega
  have e1 : IntKind.i64.wrap ((a : Int) + 1) = (a : Int) + 1 := by rw [IntKind.wrap_i64]; omega
  have HC := Lib.hid hc
  by_cases hm : m = 0
  · subst hm
    have hX : ∃ X, X.Perm (List.range' a 0) ∧ X.Pairwise (Lx lt) ∧ Wr g base w A cap (pre ++ (X ++ post)) := ⟨[], List.Perm.refl _, List.Pairwise.nil, h⟩
    have HX := Lib.hid hX
    have hb' : ¬ (a : Int) + 1 < b := by omega
    clear hX h hb hc
    go_enter Tryz.func184, Tryz.ntmps184
    go_wp2_with fail
    go_loopw [8] (fun i wr => i = .int .i64 ((a : Int) + 1) ∧ wr = w) (fun i _ => 0)
    case atStart => exact ⟨rfl, rfl⟩
    case round =>
      obtain ⟨rfl, rfl⟩ := hrel
      go_wp2_with fail
      exact bodyPost_end (v := .tuple #[]) (by simp [results, Tryz.results184, go_sem]) rfl ⟨rfl, HX.out, Bq.refl _ _⟩
  · have H0 : Hid (∃ X, X.Perm (List.range' a 1) ∧ X.Pairwise (Lx lt) ∧ Wr g base w A cap (pre ++ (X ++ (List.range' (a + 1) (m - 1) ++ post)))) := by
      refine ⟨[a], List.Perm.refl _, List.pairwise_singleton _ _, ?_⟩
      have e : List.range' a m = a :: List.range' (a + 1) (m - 1) := by rw [show m = (m - 1) + 1 by omega, List.range'_succ]; rfl
      rw [e] at h
      simpa using h
    clear h hc
    go_enter Tryz.func184, Tryz.ntmps184
    go_wp2_with fail
    go_loopw [8] (fun i wr => ∃ k p : Nat, 1 ≤ k ∧ k ≤ m ∧ p = a + k ∧ i = .int .i64 (p : Int) ∧ Hid (∃ X, X.Perm (List.range' a k) ∧ X.Pairwise (Lx lt) ∧ Wr g base wr A cap (pre ++ (X ++ (List.range' (a + k) (m - k) ++ post)))) ∧ Bq base w wr) (fun i _ => (b - intOf i).toNat)
    case atStart => exact ⟨1, a + 1, Nat.le_refl _, by omega, rfl, by go_num, H0, Bq.refl _ _⟩
    case round =>
      clear H0
      obtain ⟨k, p, hk1, hk, hp, rfl, HW, hX⟩ := hrel
      by_cases hkm : k < m
      · have hpb : (p : Int) < b := by omega
        have ep : IntKind.i64.wrap ((p : Int) + 1) = ((p + 1 : Nat) : Int) := by rw [IntKind.wrap_i64]; omega
        obtain ⟨X, hXp, hXs, hXw⟩ := HW.out
        have er : List.range' (a + k) (m - k) = (a + k) :: List.range' (a + k + 1) (m - (k + 1)) := by rw [show m - k = (m - (k + 1)) + 1 by omega, List.range'_succ]
        rw [er] at hXw
        obtain ⟨rest, hrest⟩ : ∃ rest, List.range' (a + k + 1) (m - (k + 1)) ++ post = rest := ⟨_, rfl⟩
        have hrl : rest.length = m - (k + 1) + post.length := by rw [← hrest]; simp
        rw [List.cons_append, hrest] at hXw
        have hXl : X.length = k := by have := hXp.length_eq; simpa using this
        have HI0 : Hid (InI lt pre X rest p k (pre ++ (X ++ p :: rest)) ∧ Wr g base wr A cap (pre ++ (X ++ p :: rest))) := by rw [hp]; exact ⟨hXl ▸ InI.start lt pre X rest (a + k), hXw⟩
        have HF := Lib.hid (And.intro hXp (And.intro hXs hrest))
        have HB : Hid (∀ y ∈ X, y < p) := fun y hy => by
          have := hXp.mem_iff.1 hy
          rw [List.mem_range'_1] at this; omega
        have HN : Hid (pre.length + k + 1 + rest.length = N) := by show _ = _; omega
        clear HW hXp hXs hXw er hrest hrl
        have hpM : p < M := by omega
        have HP := Lib.hid hp
        have HK := Lib.hid hX
        have HX0 : Hid (X.length = k) := hXl
        clear hp hX hXl
        go_wp2_with fail
        obtain ⟨wo, rfl⟩ : ∃ wo : World, wo = wr := ⟨_, rfl⟩
        go_loopw [9] (fun j wr => ∃ q s : Nat, s = a + q ∧ q ≤ k ∧ j = .int .i64 (s : Int) ∧ Hid (∃ E, InI lt pre X rest p q E ∧ Wr g base wr A cap E) ∧ Bq base w wr) (fun j _ => (intOf j - (a : Int)).toNat)
        case atStart => exact ⟨k, p, HP.out, Nat.le_refl _, rfl, ⟨_, HI0.out⟩, HK.out⟩
        case round =>
          clear HI0
          obtain ⟨q, s, hsq, hq, rfl, HE, hX⟩ := hrel
          obtain ⟨E, hI, hE⟩ := HE.out
          have hEl := hI.len
          by_cases hq0 : q = 0
          · obtain ⟨X', x1, x2, x3⟩ := hI.done hlt HF.out.2.1 HB.out (Or.inl hq0)
            have HO : Hid (∃ X, X.Perm (List.range' a (k + 1)) ∧ X.Pairwise (Lx lt) ∧ Wr g base wr A cap (pre ++ (X ++ (List.range' (a + (k + 1)) (m - (k + 1)) ++ post)))) := by
              refine ⟨X', perm_range_succ HF.out.1 (by rw [← HP.out]; exact x1), x2, ?_⟩
              rw [show a + (k + 1) = a + k + 1 by omega, HF.out.2.2, ← x3]; exact hE
            have hsa : s = a := by omega
            subst hsa
            clear HE hI hE hEl x1 x2 x3 hsq
            go_upto_region 4 with fail
            refine wp_plan (S := Ext _) [(0, 0), (1, 0), (2, 0), (3, 0), (4, 0), (5, 0), (6, 0), (7, 0), (8, 0), (9, 0), (10, 0), (11, 0), (12, 0), (13, 0), (14, 1), (15, 0), (16, 0)] [] (by kernel_rfl) (by kernel_rfl) (by kernel_rfl) (fun _ _ d _ _ h => by cases d <;> exact h) (Ext.drew (Ext.refl _)) ?_
            iterate 4 ((refine wpPl_read (v := ?_) rfl ?_ (fun _ h => ?_) ?_; rotate_left 1; rfl; (obtain ⟨_, _, rfl⟩ := h.more; go_simp; try rfl)); try simp only [Act.put, zqA, zqB, zqC])
            iterate 10 ((first | (refine wpPl_skip rfl rfl ?_) | (refine wpPl_read (v := ?_) rfl ?_ (fun w1 h1 => ?_) ?_; rotate_left 1; rfl; (obtain ⟨os1, d1, rfl⟩ := h1.more; go_simp; first | done | rfl)) | (refine wpPl_gread (v := ?_) (c := ?_) rfl rfl rfl rfl ?_ (fun hc w1 h1 => ?_) ?_; rotate_left 2; (first | exact gc_t _ | exact gc_f _ | exact gc_gt _ _ | exact gc_gf _ _); (obtain ⟨os1, d1, rfl⟩ := h1.more; (try simp only [gv_of hc]); (try (have hc1 := and_l hc; (try simp only [gv_of hc1]); (try (have hc2 := and_l hc1; (try simp only [gv_of hc2]))))); go_simp; first | done | rfl))); try simp only [Act.put, zqA, zqB, zqC])
            (refine wpPl_effskip rfl ?_ ?_ ?_; (first | with_reducible rfl | rfl | (go_simp; done)); (repeat (first | (with_reducible (first | exact Ext.refl _ | exact ext_d _ _ _ _ | exact ext_app _ _ _ _ _ | exact ext_app2 _ _ _ _ _ _ | exact ext_app3 _ _ _ _ _ _ _ | exact ext_app4 _ _ _ _ _ _ _ _ | exact ext_app5 _ _ _ _ _ _ _ _ _)) | ((with_reducible refine ext_suffix ⟨_, ?_⟩); (try simp only [Array.append_assoc]); rfl) | (with_reducible (first | apply Ext.drew | apply Ext.alloc | apply Ext.more_)) | apply Ext.drew | apply Ext.alloc | apply Ext.more_)))
            try simp only [Act.put, zqA, zqB, zqC]
            first | (refine wpPl_skip rfl rfl ?_) | (refine wpPl_read (v := ?_) rfl ?_ (fun w1 h1 => ?_) ?_; rotate_left 1; rfl; (obtain ⟨os1, d1, rfl⟩ := h1.more; go_simp; first | done | rfl)) | (refine wpPl_gread (v := ?_) (c := ?_) rfl rfl rfl rfl ?_ (fun hc w1 h1 => ?_) ?_; rotate_left 2; (first | exact gc_t _ | exact gc_f _ | exact gc_gt _ _ | exact gc_gf _ _); (obtain ⟨os1, d1, rfl⟩ := h1.more; (try simp only [gv_of hc]); (try (have hc1 := and_l hc; (try simp only [gv_of hc1]); (try (have hc2 := and_l hc1; (try simp only [gv_of hc2]))))); go_simp; first | done | rfl))
            try simp only [Act.put, zqA, zqB, zqC]
            first | (refine wpPl_pick_and rfl rfl rfl rfl rfl rfl ?_) | (refine wpPl_pick_or rfl rfl rfl rfl rfl rfl ?_) | (refine wpPl_read (v := ?_) rfl ?_ (fun w1 h1 => ?_) ?_; rotate_left 1; rfl; (obtain ⟨os1, d1, rfl⟩ := h1.more; go_simp; first | done | rfl))
            try simp only [Act.put, zqA, zqB, zqC]
            refine wpPl_nil ?_
            go_wp2_with fail
            refine ⟨⟨k + 1, p + 1, by omega, by omega, by have := HP.out; omega, by go_num, ?_, by first | exact hX | exact hX.drew | exact hX.drew.drew⟩, by simp [intOf]; omega⟩
            obtain ⟨X2, y1, y2, y3⟩ := HO.out
            exact ⟨X2, y1, y2, y3.of_ext (by with_reducible repeat (first | exact Ext.refl _ | apply Ext.drew | apply Ext.alloc | apply Ext.more_))⟩
          · obtain ⟨q', rfl⟩ : ∃ q', q = q' + 1 := ⟨q - 1, by omega⟩
            have hat := hI.at
            obtain ⟨l, hlX, hl⟩ := hI.prev
            have hlM : l < M := by have := HB.out l hlX; have := HP.out; omega
            rw [ha] at hat hl
            rw [← hsq] at hat
            obtain ⟨s', hs'⟩ : ∃ s', a + q' = s' := ⟨_, rfl⟩
            rw [hs'] at hl
            obtain ⟨bl, off, rfl, hb1, ⟨cx, cx'⟩, fx, fx'⟩ := Wr.at hE hat
            obtain ⟨bl', off', e, _, ⟨cl0, cl1⟩, fl, fl'⟩ := Wr.at hE hl
            simp only [Option.some.injEq, Addr.mk.injEq, and_true] at e
            obtain ⟨rfl, rfl⟩ := e
            have hblk : bl < wr.heap.size := lt_of_cell cx
            have hsa : (a : Int) < (s : Int) := by omega
            have es : IntKind.i64.wrap ((s : Int) - 1) = (s' : Int) := by rw [IntKind.wrap_i64]; omega
            have hsN : s < N := by have := HN.out; have := HX0.out; omega
            have hs'N : s' < N := by omega
            have hcap := hE.1
            have hent := HC.out.ent
            have hcall := fun (W : World) (hW : Ext wr W) => HC.out.run p l W hpM hlM (below_ext hX hbw hW)
            cases hlx : lt p l with
            | true =>
              rw [hlx] at hcall
              have HSw : Hid (∃ E', InI lt pre X rest p q' E' ∧ Wr g base (nset (nset wr bl (off + s * 2) (g l)) bl (off + s' * 2) (g p)) (some ⟨bl, off, none⟩) cap E') := by
                refine ⟨sw1 E s s', hI.step (by rw [ha, hs']; exact hl) hlx (by omega) (by omega), ?_⟩
                exact Wr.sw hE hat hl
              have hsE : s < E.length := (List.getElem?_eq_some_iff.1 hat).1
              have hz : (E.set s l)[s']? = some l := by rw [List.getElem?_set_ne (by omega)]; exact hl
              obtain ⟨bl', off', e, _, ⟨cz, cz'⟩, fz, fz'⟩ := Wr.at (Wr.set (d := l) hE hsE) hz
              simp only [Option.some.injEq, Addr.mk.injEq, and_true] at e
              obtain ⟨rfl, rfl⟩ := e
              have hX2 := Wr.bel (Wr.bel hX hE hsE (g l)) (Wr.set (d := l) hE hsE) (show s' < (E.set s l).length by rw [List.length_set]; omega) (g p)
              have HQ : Hid (s' = a + q' ∧ q' ≤ k ∧ s = a + (q' + 1)) := ⟨hs'.symm, by omega, hsq⟩
              clear HE hI hE hEl hq0 hsq hs' hlx hX hsE hz hat hl hlX hq
              go_upto_region 4 with fail
              refine wp_plan (S := Ext _) [(0, 0), (1, 0), (2, 0), (3, 0), (4, 0), (5, 0), (6, 0), (7, 0), (8, 0), (9, 0), (10, 0), (11, 0), (12, 0), (13, 0), (14, 1), (15, 0), (16, 0)] [] (by kernel_rfl) (by kernel_rfl) (by kernel_rfl) (fun _ _ d _ _ h => by cases d <;> exact h) (Ext.drew (Ext.refl _)) ?_
              iterate 4 ((refine wpPl_read (v := ?_) rfl ?_ (fun _ h => ?_) ?_; rotate_left 1; rfl; (obtain ⟨_, _, rfl⟩ := h.more; go_simp; try rfl)); try simp only [Act.put, zqA, zqB, zqC])
              iterate 10 ((first | (refine wpPl_skip rfl rfl ?_) | (refine wpPl_read (v := ?_) rfl ?_ (fun w1 h1 => ?_) ?_; rotate_left 1; rfl; (obtain ⟨os1, d1, rfl⟩ := h1.more; go_simp; first | done | rfl)) | (refine wpPl_gread (v := ?_) (c := ?_) rfl rfl rfl rfl ?_ (fun hc w1 h1 => ?_) ?_; rotate_left 2; (first | exact gc_t _ | exact gc_f _ | exact gc_gt _ _ | exact gc_gf _ _); (obtain ⟨os1, d1, rfl⟩ := h1.more; (try simp only [gv_of hc]); (try (have hc1 := and_l hc; (try simp only [gv_of hc1]); (try (have hc2 := and_l hc1; (try simp only [gv_of hc2]))))); go_simp; first | done | rfl))); try simp only [Act.put, zqA, zqB, zqC])
              (refine wpPl_eff rfl ?_ (fun K hK => ?_); (first | with_reducible rfl | rfl | (go_simp; done)); go_simp; refine (hcall _ (by with_reducible repeat (first | exact Ext.refl _ | apply Ext.drew | apply Ext.alloc | apply Ext.more_))).mono ?_; rintro e w' ⟨c, rfl, hlc, hb⟩; obtain ⟨os1, d1, rfl⟩ := hb.more; clear hb; refine hK _ _ ?_ ?_; (repeat (first | (with_reducible (first | exact Ext.refl _ | exact ext_d _ _ _ _ | exact ext_app _ _ _ _ _ | exact ext_app2 _ _ _ _ _ _ | exact ext_app3 _ _ _ _ _ _ _ | exact ext_app4 _ _ _ _ _ _ _ _ | exact ext_app5 _ _ _ _ _ _ _ _ _)) | ((with_reducible refine ext_suffix ⟨_, ?_⟩); (try simp only [Array.append_assoc]); rfl) | (with_reducible (first | apply Ext.drew | apply Ext.alloc | apply Ext.more_)) | apply Ext.drew | apply Ext.alloc | apply Ext.more_)))
              try simp only [Act.put, zqA, zqB, zqC]
              first | (refine wpPl_skip rfl rfl ?_) | (refine wpPl_read (v := ?_) rfl ?_ (fun w1 h1 => ?_) ?_; rotate_left 1; rfl; (obtain ⟨os1, d1, rfl⟩ := h1.more; go_simp; first | done | rfl)) | (refine wpPl_gread (v := ?_) (c := ?_) rfl rfl rfl rfl ?_ (fun hc w1 h1 => ?_) ?_; rotate_left 2; (first | exact gc_t _ | exact gc_f _ | exact gc_gt _ _ | exact gc_gf _ _); (obtain ⟨os1, d1, rfl⟩ := h1.more; (try simp only [gv_of hc]); (try (have hc1 := and_l hc; (try simp only [gv_of hc1]); (try (have hc2 := and_l hc1; (try simp only [gv_of hc2]))))); go_simp; first | done | rfl))
              try simp only [Act.put, zqA, zqB, zqC]
              first | (refine wpPl_pick_and rfl rfl rfl rfl rfl rfl ?_) | (refine wpPl_pick_or rfl rfl rfl rfl rfl rfl ?_) | (refine wpPl_read (v := ?_) rfl ?_ (fun w1 h1 => ?_) ?_; rotate_left 1; rfl; (obtain ⟨os1, d1, rfl⟩ := h1.more; go_simp; first | done | rfl))
              try simp only [Act.put, zqA, zqB, zqC]
              refine wpPl_nil ?_
              go_upto_region 6 with fail
              go_region
              go_wp2_with fail
              refine ⟨⟨q', s', HQ.out.1, HQ.out.2.1, rfl, ?_, ?_⟩, by have := HQ.out; simp [intOf]; omega⟩
              · obtain ⟨E', f1, f2⟩ := HSw.out
                exact ⟨E', f1, f2.of_ext (by with_reducible repeat (first | exact Ext.refl _ | apply Ext.drew | apply Ext.alloc | apply Ext.more_))⟩
              · exact below_ext hX2 hbw (by with_reducible repeat (first | exact Ext.refl _ | apply Ext.drew | apply Ext.alloc | apply Ext.more_))
            | false =>
              rw [hlx] at hcall
              obtain ⟨X', x1, x2, x3⟩ := hI.done hlt HF.out.2.1 HB.out (Or.inr ⟨q', l, rfl, by rw [ha, hs']; exact hl, hlx⟩)
              have HO : Hid (∃ X, X.Perm (List.range' a (k + 1)) ∧ X.Pairwise (Lx lt) ∧ Wr g base wr (some ⟨bl, off, none⟩) cap (pre ++ (X ++ (List.range' (a + (k + 1)) (m - (k + 1)) ++ post)))) := by
                refine ⟨X', perm_range_succ HF.out.1 (by rw [← HP.out]; exact x1), x2, ?_⟩
                rw [show a + (k + 1) = a + k + 1 by omega, HF.out.2.2, ← x3]; exact hE
              clear HE hI hE hEl hq0 hsq hs' hlx x1 x2 x3 hat hl hlX hq
              go_upto_region 4 with fail
              refine wp_plan (S := Ext _) [(0, 0), (1, 0), (2, 0), (3, 0), (4, 0), (5, 0), (6, 0), (7, 0), (8, 0), (9, 0), (10, 0), (11, 0), (12, 0), (13, 0), (14, 1), (15, 0), (16, 0)] [] (by kernel_rfl) (by kernel_rfl) (by kernel_rfl) (fun _ _ d _ _ h => by cases d <;> exact h) (Ext.drew (Ext.refl _)) ?_
              iterate 4 ((refine wpPl_read (v := ?_) rfl ?_ (fun _ h => ?_) ?_; rotate_left 1; rfl; (obtain ⟨_, _, rfl⟩ := h.more; go_simp; try rfl)); try simp only [Act.put, zqA, zqB, zqC])
              iterate 10 ((first | (refine wpPl_skip rfl rfl ?_) | (refine wpPl_read (v := ?_) rfl ?_ (fun w1 h1 => ?_) ?_; rotate_left 1; rfl; (obtain ⟨os1, d1, rfl⟩ := h1.more; go_simp; first | done | rfl)) | (refine wpPl_gread (v := ?_) (c := ?_) rfl rfl rfl rfl ?_ (fun hc w1 h1 => ?_) ?_; rotate_left 2; (first | exact gc_t _ | exact gc_f _ | exact gc_gt _ _ | exact gc_gf _ _); (obtain ⟨os1, d1, rfl⟩ := h1.more; (try simp only [gv_of hc]); (try (have hc1 := and_l hc; (try simp only [gv_of hc1]); (try (have hc2 := and_l hc1; (try simp only [gv_of hc2]))))); go_simp; first | done | rfl))); try simp only [Act.put, zqA, zqB, zqC])
              (refine wpPl_eff rfl ?_ (fun K hK => ?_); (first | with_reducible rfl | rfl | (go_simp; done)); go_simp; refine (hcall _ (by with_reducible repeat (first | exact Ext.refl _ | apply Ext.drew | apply Ext.alloc | apply Ext.more_))).mono ?_; rintro e w' ⟨c, rfl, hlc, hb⟩; obtain ⟨os1, d1, rfl⟩ := hb.more; clear hb; refine hK _ _ ?_ ?_; (repeat (first | (with_reducible (first | exact Ext.refl _ | exact ext_d _ _ _ _ | exact ext_app _ _ _ _ _ | exact ext_app2 _ _ _ _ _ _ | exact ext_app3 _ _ _ _ _ _ _ | exact ext_app4 _ _ _ _ _ _ _ _ | exact ext_app5 _ _ _ _ _ _ _ _ _)) | ((with_reducible refine ext_suffix ⟨_, ?_⟩); (try simp only [Array.append_assoc]); rfl) | (with_reducible (first | apply Ext.drew | apply Ext.alloc | apply Ext.more_)) | apply Ext.drew | apply Ext.alloc | apply Ext.more_)))
              try simp only [Act.put, zqA, zqB, zqC]
              first | (refine wpPl_skip rfl rfl ?_) | (refine wpPl_read (v := ?_) rfl ?_ (fun w1 h1 => ?_) ?_; rotate_left 1; rfl; (obtain ⟨os1, d1, rfl⟩ := h1.more; go_simp; first | done | rfl)) | (refine wpPl_gread (v := ?_) (c := ?_) rfl rfl rfl rfl ?_ (fun hc w1 h1 => ?_) ?_; rotate_left 2; (first | exact gc_t _ | exact gc_f _ | exact gc_gt _ _ | exact gc_gf _ _); (obtain ⟨os1, d1, rfl⟩ := h1.more; (try simp only [gv_of hc]); (try (have hc1 := and_l hc; (try simp only [gv_of hc1]); (try (have hc2 := and_l hc1; (try simp only [gv_of hc2]))))); go_simp; first | done | rfl))
              try simp only [Act.put, zqA, zqB, zqC]
              first | (refine wpPl_pick_and rfl rfl rfl rfl rfl rfl ?_) | (refine wpPl_pick_or rfl rfl rfl rfl rfl rfl ?_) | (refine wpPl_read (v := ?_) rfl ?_ (fun w1 h1 => ?_) ?_; rotate_left 1; rfl; (obtain ⟨os1, d1, rfl⟩ := h1.more; go_simp; first | done | rfl))
              try simp only [Act.put, zqA, zqB, zqC]
              refine wpPl_nil ?_
              go_wp2_with fail
              refine ⟨⟨k + 1, p + 1, by omega, by omega, by have := HP.out; omega, by go_num, ?_, below_ext hX hbw (by with_reducible repeat (first | exact Ext.refl _ | apply Ext.drew | apply Ext.alloc | apply Ext.more_))⟩, by simp [intOf]; omega⟩
              obtain ⟨X2, y1, y2, y3⟩ := HO.out
              exact ⟨X2, y1, y2, y3.of_ext (by with_reducible repeat (first | exact Ext.refl _ | apply Ext.drew | apply Ext.alloc | apply Ext.more_))⟩
      · obtain rfl : k = m := by omega
        have hpb : ¬ (p : Int) < b := by omega
        have HO : Hid (∃ X, X.Perm (List.range' a k) ∧ X.Pairwise (Lx lt) ∧ Wr g base wr A cap (pre ++ (X ++ post))) := by
          obtain ⟨X, x1, x2, x3⟩ := HW.out
          exact ⟨X, x1, x2, by simpa using x3⟩
        clear HW
        go_wp2_with fail
        obtain ⟨X, x1, x2, x3⟩ := HO.out
        exact bodyPost_end (v := .tuple #[]) (by simp [results, Tryz.results184, go_sem]) rfl ⟨rfl, ⟨X, x1, x2, x3⟩, hX⟩
end
end Go.Proofs.YtkcoikelcmpceaaGreatDoor
namespace Go.Proofs.YtkcoikelcmpceaaGreatDoor
open Go.RowKit NM
section
variable {g : Nat → Nm}
theorem mid_facts {i j h : Nat} (hb : i + j ≤ 200000) (hh : (i + j) / 2 = h) : IntKind.i64.wrap ((i : Int) + (j : Int)) = (i : Int) + (j : Int) ∧ IntKind.u64.wrap ((i : Int) + (j : Int)) = (i : Int) + (j : Int) ∧ ((i : Int) + (j : Int)) / 2 = (h : Int) ∧ IntKind.u64.wrap (h : Int) = (h : Int) ∧ IntKind.i64.wrap (h : Int) = (h : Int) := by
  refine ⟨?_, ?_, ?_, ?_, ?_⟩
  · rw [IntKind.wrap_i64]; omega
  · rw [IntKind.wrap_u64]; omega
  · omega
  · rw [IntKind.wrap_u64]; omega
  · rw [IntKind.wrap_i64]; omega
/-- What a merge asks for, and what it hands back. -/
structure MrgIn (g : Nat → Nm) (lt : Nat → Nat → Bool) (cl : FuncId) (capt : Array Value) (M base : Nat) (A : Option Addr) (cap N a m b : Nat) (D : List Nat) (w : World) : Prop where
  cmp : CmpS g cl capt lt M base w
  bw : base ≤ w.heap.size
  wr : Wr g base w A cap D
  len : D.length = N
  small : N ≤ 100000
  am : a < m
  mb : m < b
  bN : b ≤ N
  lim : ∀ x ∈ seg D a b, x < M
  sx : (seg D a m).Pairwise (Lx lt)
  sy : (seg D m b).Pairwise (Lx lt)
  xy : ∀ x ∈ seg D a m, ∀ y ∈ seg D m b, x < y
set_option maxHeartbeats 4000000 in
theorem symLeft_any {lt : Nat → Nat → Bool} (hlt : Swo lt) (cl : FuncId) (capt : Array Value) (M base : Nat) (A : Option Addr) (cap N a b : Nat) (D : List Nat) (w : World) (h : MrgIn g lt cl capt M base A cap N a (a + 1) b D w) :
    Calls Tryz.prog 185 #[.slice A N cap, .int .i64 (a : Int), .int .i64 ((a + 1 : Nat) : Int), .int .i64 (b : Int), .func (.func cl) #[] capt] w fun e w' => e = .returned (.tuple #[]) ∧ (∃ D', Mrg lt a b D D' ∧ Wr g base w' A cap D') ∧ Bq base w w' := by
  obtain ⟨hc, hbw, hW0, hDl, hs, hamm, hmb, hbN, hlim, hsx, hsy, hxy⟩ := h
  obtain ⟨x, hx⟩ : ∃ x, D[a]? = some x := ⟨_, List.getElem?_eq_getElem (by omega)⟩
  obtain ⟨m, hm⟩ : ∃ m, a + 1 = m := ⟨_, rfl⟩
  have hxM : x < M := hlim x (seg_mem hx (by omega) (by omega))
  have e0 : IntKind.i64.wrap ((m : Int) - (a : Int)) = 1 := by rw [IntKind.wrap_i64]; omega
  obtain ⟨bl, off, rfl, hb1, ⟨cx, cx'⟩, fx, fx'⟩ := Wr.at hW0 hx
  have hcap := hW0.1
  have hblk : bl < w.heap.size := lt_of_cell cx
  have HC := Lib.hid hc
  have hent := hc.ent
  have HL := Lib.hid hlim
  have HF := Lib.hid (And.intro hsy (And.intro (fun y hy => hxy x (by rw [seg_one hx]; simp) y hy : ∀ y ∈ seg D (a + 1) b, x < y) (And.intro hm hx)))
  have HW0 := Lib.hid hW0
  have hm0 : m ≤ b := by omega
  have ha0 : a < m := by omega
  rw [hm]
  rw [hDl] at hcap
  clear hc hlim hsx hsy hxy hW0 hx hm cx cx' fx fx'
  go_enter Tryz.func185, Tryz.ntmps185
  go_wp2_with fail
  go_loopw [10, 11] (fun s t wr => ∃ i j : Nat, m ≤ i ∧ i ≤ j ∧ j ≤ b ∧ s = .int .i64 (i : Int) ∧ t = .int .i64 (j : Int) ∧ Hid (i = m ∨ ∃ u, D[i - 1]? = some u ∧ lt u x = true) ∧ Hid (j = b ∨ ∃ u, D[j]? = some u ∧ lt u x = false) ∧ Wr g base wr (some ⟨bl, off, none⟩) cap D ∧ Bq base w wr) (fun s t _ => (intOf t - intOf s).toNat)
  case atStart => exact ⟨m, b, Nat.le_refl _, hm0, Nat.le_refl _, rfl, rfl, Or.inl rfl, Or.inl rfl, HW0.out, Bq.refl _ _⟩
  case round =>
    obtain ⟨i, j, h1, h2, h3, rfl, rfl, H1, H2, hW, hX⟩ := hrel
    by_cases hij : i < j
    · have hij' : (i : Int) < (j : Int) := by omega
      obtain ⟨hh, ehh⟩ : ∃ hh, (i + j) / 2 = hh := ⟨_, rfl⟩
      obtain ⟨w1, w2, w3, w4, w5⟩ := mid_facts (i := i) (j := j) (by omega) ehh
      have g1 : i ≤ hh := by omega
      have g2 : hh < j := by omega
      obtain ⟨u, hu⟩ : ∃ u, D[hh]? = some u := ⟨_, List.getElem?_eq_getElem (by omega)⟩
      have huM : u < M := HL.out u (seg_mem hu (by omega) (by omega))
      obtain ⟨bl', off', e, _, ⟨cu, cu'⟩, fu, fu'⟩ := Wr.at hW hu
      simp only [Option.some.injEq, Addr.mk.injEq, and_true] at e
      obtain ⟨rfl, rfl⟩ := e
      obtain ⟨bl', off', e, _, ⟨cx, cx'⟩, fx, fx'⟩ := Wr.at hW HF.out.2.2.2
      simp only [Option.some.injEq, Addr.mk.injEq, and_true] at e
      obtain ⟨rfl, rfl⟩ := e
      have hcall := fun (W : World) (hW : Ext wr W) => HC.out.run u x W huM hxM (below_ext hX hbw hW)
      have hb2 : bl < wr.heap.size := lt_of_cell cx
      have HU := Lib.hid (And.intro hu ehh)
      have hN1 : hh < N := by omega
      have hN2 : a < N := by omega
      have hw5 : IntKind.i64.wrap ((hh : Int) + 1) = ((hh + 1 : Nat) : Int) := by rw [IntKind.wrap_i64]; omega
      clear hu ehh HW0
      go_upto_region 5 with fail
      cases hlx : lt u x with
      | true =>
        rw [hlx] at hcall
        have H1' : Hid (hh + 1 = m ∨ ∃ u, D[hh + 1 - 1]? = some u ∧ lt u x = true) := Or.inr ⟨u, HU.out.1, hlx⟩
        clear hlx
        refine wp_plan (S := Ext _) [(0, 0), (1, 0), (2, 0), (3, 0), (4, 0), (5, 0), (6, 0), (7, 0), (8, 0), (9, 1), (10, 0)] [] (by kernel_rfl) (by kernel_rfl) (by kernel_rfl) (fun _ _ d _ _ h => by cases d <;> exact h) (Ext.drew (Ext.refl _)) ?_
        iterate 9 ((refine wpPl_read (v := ?_) rfl ?_ (fun _ h => ?_) ?_; rotate_left 1; rfl; (obtain ⟨_, _, rfl⟩ := h.more; go_simp; try rfl)); try simp only [Act.put, zqA, zqB, zqC])
        (refine wpPl_eff rfl ?_ (fun K hK => ?_); rfl; go_simp; refine (hcall _ (by with_reducible repeat (first | exact Ext.refl _ | apply Ext.drew | apply Ext.alloc | apply Ext.more_))).mono ?_; rintro e w' ⟨c, rfl, hlc, hb⟩; obtain ⟨os1, d1, rfl⟩ := hb.more; clear hb; refine hK _ _ ?_ ?_; (repeat (first | (with_reducible (first | exact Ext.refl _ | exact ext_d _ _ _ _ | exact ext_app _ _ _ _ _ | exact ext_app2 _ _ _ _ _ _ | exact ext_app3 _ _ _ _ _ _ _ | exact ext_app4 _ _ _ _ _ _ _ _ | exact ext_app5 _ _ _ _ _ _ _ _ _)) | ((with_reducible refine ext_suffix ⟨_, ?_⟩); (try simp only [Array.append_assoc]); rfl) | (with_reducible (first | apply Ext.drew | apply Ext.alloc | apply Ext.more_)) | apply Ext.drew | apply Ext.alloc | apply Ext.more_)))
        try simp only [Act.put, zqA, zqB, zqC]
        (refine wpPl_read (v := ?_) rfl ?_ (fun _ h => ?_) ?_; rotate_left 1; rfl; (obtain ⟨_, _, rfl⟩ := h.more; go_simp; try rfl))
        try simp only [Act.put, zqA, zqB, zqC]
        refine wpPl_nil ?_
        go_wp2_with fail
        exact ⟨⟨hh + 1, j, by omega, by omega, h3, by go_num, rfl, H1', H2, hW.of_ext (by with_reducible repeat (first | exact Ext.refl _ | apply Ext.drew | apply Ext.alloc | apply Ext.more_)), below_ext hX hbw (by with_reducible repeat (first | exact Ext.refl _ | apply Ext.drew | apply Ext.alloc | apply Ext.more_))⟩, by simp [intOf]; omega⟩
      | false =>
        rw [hlx] at hcall
        have H2' : Hid (hh = b ∨ ∃ u, D[hh]? = some u ∧ lt u x = false) := Or.inr ⟨u, HU.out.1, hlx⟩
        clear hlx
        refine wp_plan (S := Ext _) [(0, 0), (1, 0), (2, 0), (3, 0), (4, 0), (5, 0), (6, 0), (7, 0), (8, 0), (9, 1), (10, 0)] [] (by kernel_rfl) (by kernel_rfl) (by kernel_rfl) (fun _ _ d _ _ h => by cases d <;> exact h) (Ext.drew (Ext.refl _)) ?_
        iterate 9 ((refine wpPl_read (v := ?_) rfl ?_ (fun _ h => ?_) ?_; rotate_left 1; rfl; (obtain ⟨_, _, rfl⟩ := h.more; go_simp; try rfl)); try simp only [Act.put, zqA, zqB, zqC])
        (refine wpPl_eff rfl ?_ (fun K hK => ?_); rfl; go_simp; refine (hcall _ (by with_reducible repeat (first | exact Ext.refl _ | apply Ext.drew | apply Ext.alloc | apply Ext.more_))).mono ?_; rintro e w' ⟨c, rfl, hlc, hb⟩; obtain ⟨os1, d1, rfl⟩ := hb.more; clear hb; refine hK _ _ ?_ ?_; (repeat (first | (with_reducible (first | exact Ext.refl _ | exact ext_d _ _ _ _ | exact ext_app _ _ _ _ _ | exact ext_app2 _ _ _ _ _ _ | exact ext_app3 _ _ _ _ _ _ _ | exact ext_app4 _ _ _ _ _ _ _ _ | exact ext_app5 _ _ _ _ _ _ _ _ _)) | ((with_reducible refine ext_suffix ⟨_, ?_⟩); (try simp only [Array.append_assoc]); rfl) | (with_reducible (first | apply Ext.drew | apply Ext.alloc | apply Ext.more_)) | apply Ext.drew | apply Ext.alloc | apply Ext.more_)))
        try simp only [Act.put, zqA, zqB, zqC]
        (refine wpPl_read (v := ?_) rfl ?_ (fun _ h => ?_) ?_; rotate_left 1; rfl; (obtain ⟨_, _, rfl⟩ := h.more; go_simp; try rfl))
        try simp only [Act.put, zqA, zqB, zqC]
        refine wpPl_nil ?_
        go_wp2_with fail
        exact ⟨⟨i, hh, h1, by omega, by omega, rfl, rfl, H1, H2', hW.of_ext (by with_reducible repeat (first | exact Ext.refl _ | apply Ext.drew | apply Ext.alloc | apply Ext.more_)), below_ext hX hbw (by with_reducible repeat (first | exact Ext.refl _ | apply Ext.drew | apply Ext.alloc | apply Ext.more_))⟩, by simp [intOf]; omega⟩
    · obtain rfl : i = j := by omega
      have hi1 : IntKind.i64.wrap ((i : Int) - 1) = ((i - 1 : Nat) : Int) := by rw [IntKind.wrap_i64]; omega
      have HM : Hid (Mrg lt a b D (up1 D a (i - 1 - a))) := by
        obtain ⟨f1, f2, f3, f4⟩ := HF.out
        exact merge_left hlt f4 (by omega) h3 (by omega) f1 f2 (by rw [f3]; exact H1.out) H2.out
      obtain ⟨i', hi'⟩ : ∃ i', i - 1 = i' := ⟨_, rfl⟩
      rw [hi'] at hi1 HM
      have hi2 : a ≤ i' := by omega
      have hi3 : i' < N := by omega
      have HX := Lib.hid hX
      clear H1 H2 h1 h2 hi' hij hX
      have HV := Lib.hid hW
      clear hW HW0
      go_wp2_with fail
      obtain ⟨wo, hwo⟩ : ∃ wo : World, wo = wr := ⟨_, rfl⟩
      rw [← hwo] at HX HV
      rw [← hwo]
      clear hwo
      go_loopw [13] (fun k wr => ∃ t p : Nat, p = a + t ∧ t ≤ i' - a ∧ k = .int .i64 (p : Int) ∧ Hid (Wr g base wr (some ⟨bl, off, none⟩) cap (up1 D a t)) ∧ Bq base w wr) (fun k _ => ((i' : Int) - intOf k).toNat)
      case atStart => exact ⟨0, a, rfl, Nat.zero_le _, rfl, HV.out, HX.out⟩
      case round =>
        obtain ⟨t, p, hp, ht, rfl, HW, hX⟩ := hrel
        by_cases htt : p < i'
        · have htt' : (p : Int) < (i' : Int) := by omega
          have hE := HW.out
          have hEl : (up1 D a t).length = N := by rw [up1_length]; exact hDl
          obtain ⟨x1, hx1⟩ : ∃ x, (up1 D a t)[p]? = some x := ⟨_, List.getElem?_eq_getElem (by omega)⟩
          obtain ⟨y1, hy1⟩ : ∃ x, (up1 D a t)[p + 1]? = some x := ⟨_, List.getElem?_eq_getElem (by omega)⟩
          obtain ⟨s', hs'⟩ : ∃ s', p + 1 = s' := ⟨_, rfl⟩
          rw [hs'] at hy1
          have ep : IntKind.i64.wrap ((p : Int) + 1) = (s' : Int) := by rw [IntKind.wrap_i64]; omega
          obtain ⟨bl', off', e, _, ⟨cx, cx'⟩, fx, fx'⟩ := Wr.at hE hx1
          simp only [Option.some.injEq, Addr.mk.injEq, and_true] at e
          obtain ⟨rfl, rfl⟩ := e
          obtain ⟨bl', off', e, _, ⟨cy, cy'⟩, fy, fy'⟩ := Wr.at hE hy1
          simp only [Option.some.injEq, Addr.mk.injEq, and_true] at e
          obtain ⟨rfl, rfl⟩ := e
          have hb3 : bl < wr.heap.size := lt_of_cell cx
          have hz : ((up1 D a t).set p y1)[s']? = some y1 := by rw [List.getElem?_set_ne (by omega)]; exact hy1
          obtain ⟨bl', off', e, _, ⟨cz, cz'⟩, fz, fz'⟩ := Wr.at (Wr.set (d := y1) hE (show p < (up1 D a t).length by omega)) hz
          simp only [Option.some.injEq, Addr.mk.injEq, and_true] at e
          obtain ⟨rfl, rfl⟩ := e
          have hX2 := Wr.bel (Wr.bel hX hE (show p < (up1 D a t).length by omega) (g y1)) (Wr.set (d := y1) hE (show p < (up1 D a t).length by omega)) (show s' < ((up1 D a t).set p y1).length by rw [List.length_set]; omega) (g x1)
          have HSw : Hid (Wr g base (nset (nset wr bl (off + p * 2) (g y1)) bl (off + s' * 2) (g x1)) (some ⟨bl, off, none⟩) cap (up1 D a (t + 1))) := by
            show Wr _ _ _ _ _ (sw1 (up1 D a t) (a + t) (a + t + 1))
            rw [← hp, hs']
            exact Wr.sw hE hx1 hy1
          have hpN : p < N := by omega
          have hsN : s' < N := by omega
          have HQ : Hid (s' = a + (t + 1) ∧ t + 1 ≤ i' - a ∧ s' = p + 1) := ⟨by omega, by omega, hs'.symm⟩
          clear HW hE hEl hx1 hy1 hs' hz hp ht hX
          go_wp2_with fail
          go_region
          go_wp2_with fail
          exact ⟨⟨t + 1, s', HQ.out.1, HQ.out.2.1, by go_num, HSw.out.of_ext (by with_reducible repeat (first | exact Ext.refl _ | apply Ext.drew | apply Ext.alloc | apply Ext.more_)), below_ext hX2 hbw (by with_reducible repeat (first | exact Ext.refl _ | apply Ext.drew | apply Ext.alloc | apply Ext.more_))⟩, by have := HQ.out; simp [intOf]; omega⟩
        · have hti : t = i' - a := by omega
          have htt' : ¬ (p : Int) < (i' : Int) := by omega
          rw [hti] at HW
          clear hti
          go_wp2_with fail
          exact bodyPost_ret (v := .tuple #[]) (by simp [results, Tryz.results185, go_sem]) rfl ⟨rfl, ⟨_, HM.out, HW.out.of_ext (by with_reducible repeat (first | exact Ext.refl _ | apply Ext.drew | apply Ext.alloc | apply Ext.more_))⟩, hX⟩
end
end Go.Proofs.YtkcoikelcmpceaaGreatDoor
namespace Go.Proofs.YtkcoikelcmpceaaGreatDoor
open Go.RowKit NM
section
variable {g : Nat → Nm}
set_option maxHeartbeats 4000000 in
theorem symRight_any {lt : Nat → Nat → Bool} (hlt : Swo lt) (cl : FuncId) (capt : Array Value) (M base : Nat) (A : Option Addr) (cap N a m : Nat) (D : List Nat) (w : World) (h : MrgIn g lt cl capt M base A cap N a m (m + 1) D w) (hne : m ≠ a + 1) :
    Calls Tryz.prog 185 #[.slice A N cap, .int .i64 (a : Int), .int .i64 (m : Int), .int .i64 ((m + 1 : Nat) : Int), .func (.func cl) #[] capt] w fun e w' => e = .returned (.tuple #[]) ∧ (∃ D', Mrg lt a (m + 1) D D' ∧ Wr g base w' A cap D') ∧ Bq base w w' := by
  obtain ⟨hc, hbw, hW0, hDl, hs, hamm, hmb, hbN, hlim, hsx, hsy, hxy⟩ := h
  obtain ⟨y, hy⟩ : ∃ x, D[m]? = some x := ⟨_, List.getElem?_eq_getElem (by omega)⟩
  obtain ⟨b, hb⟩ : ∃ b, m + 1 = b := ⟨_, rfl⟩
  have hyM : y < M := hlim y (seg_mem hy (by omega) (by omega))
  have e0 : IntKind.i64.wrap ((m : Int) - (a : Int)) = (m : Int) - (a : Int) := by rw [IntKind.wrap_i64]; omega
  have e1 : ((m : Int) - (a : Int) == 1) = false := by simp; omega
  have e2 : IntKind.i64.wrap ((b : Int) - (m : Int)) = 1 := by rw [IntKind.wrap_i64]; omega
  obtain ⟨bl, off, rfl, hb1, ⟨cx, cx'⟩, fx, fx'⟩ := Wr.at hW0 hy
  have hcap := hW0.1
  have hblk : bl < w.heap.size := lt_of_cell cx
  have HC := Lib.hid hc
  have hent := hc.ent
  have HL := Lib.hid hlim
  have HF := Lib.hid (And.intro hsx (And.intro (fun x hx => hxy x hx y (by rw [seg_one hy]; simp) : ∀ x ∈ seg D a m, x < y) (And.intro hb hy)))
  have HW0 := Lib.hid hW0
  have hm0 : m < b := by omega
  have hm1 : m < N := by omega
  rw [hb]
  rw [hb] at hbN HL
  rw [hDl] at hcap
  clear hc hlim hsx hsy hxy hW0 hy hb hmb cx cx' fx fx' hne
  go_enter Tryz.func185, Tryz.ntmps185
  go_wp2_with fail
  go_loopw [14, 15] (fun s t wr => ∃ i j : Nat, a ≤ i ∧ i ≤ j ∧ j ≤ m ∧ s = .int .i64 (i : Int) ∧ t = .int .i64 (j : Int) ∧ Hid (i = a ∨ ∃ u, D[i - 1]? = some u ∧ lt y u = false) ∧ Hid (j = m ∨ ∃ u, D[j]? = some u ∧ lt y u = true) ∧ Wr g base wr (some ⟨bl, off, none⟩) cap D ∧ Bq base w wr) (fun s t _ => (intOf t - intOf s).toNat)
  case atStart => exact ⟨a, m, Nat.le_refl _, by omega, Nat.le_refl _, rfl, rfl, Or.inl rfl, Or.inl rfl, HW0.out, Bq.refl _ _⟩
  case round =>
    obtain ⟨i, j, h1, h2, h3, rfl, rfl, H1, H2, hW, hX⟩ := hrel
    by_cases hij : i < j
    · have hij' : (i : Int) < (j : Int) := by omega
      obtain ⟨hh, ehh⟩ : ∃ hh, (i + j) / 2 = hh := ⟨_, rfl⟩
      obtain ⟨w1, w2, w3, w4, w5⟩ := mid_facts (i := i) (j := j) (by omega) ehh
      have g1 : i ≤ hh := by omega
      have g2 : hh < j := by omega
      obtain ⟨u, hu⟩ : ∃ u, D[hh]? = some u := ⟨_, List.getElem?_eq_getElem (by omega)⟩
      have huM : u < M := HL.out u (seg_mem hu (by omega) (by omega))
      obtain ⟨bl', off', e, _, ⟨cu, cu'⟩, fu, fu'⟩ := Wr.at hW hu
      simp only [Option.some.injEq, Addr.mk.injEq, and_true] at e
      obtain ⟨rfl, rfl⟩ := e
      obtain ⟨bl', off', e, _, ⟨cx, cx'⟩, fx, fx'⟩ := Wr.at hW HF.out.2.2.2
      simp only [Option.some.injEq, Addr.mk.injEq, and_true] at e
      obtain ⟨rfl, rfl⟩ := e
      have hcall := fun (W : World) (hW : Ext wr W) => HC.out.run y u W hyM huM (below_ext hX hbw hW)
      have hb2 : bl < wr.heap.size := lt_of_cell cx
      have HU := Lib.hid (And.intro hu ehh)
      have hN1 : hh < N := by omega
      have hN2 : a < N := by omega
      have hw5 : IntKind.i64.wrap ((hh : Int) + 1) = ((hh + 1 : Nat) : Int) := by rw [IntKind.wrap_i64]; omega
      clear hu ehh HW0
      go_upto_region 17 with fail
      cases hlx : lt y u with
      | false =>
        rw [hlx] at hcall
        have H1' : Hid (hh + 1 = a ∨ ∃ u, D[hh + 1 - 1]? = some u ∧ lt y u = false) := Or.inr ⟨u, HU.out.1, hlx⟩
        clear hlx
        refine wp_plan (S := Ext _) [(0, 0), (1, 0), (2, 0), (3, 0), (4, 0), (5, 0), (6, 0), (7, 0), (8, 0), (9, 1), (10, 0), (11, 0)] [] (by kernel_rfl) (by kernel_rfl) (by kernel_rfl) (fun _ _ d _ _ h => by cases d <;> exact h) (Ext.drew (Ext.refl _)) ?_
        iterate 9 ((refine wpPl_read (v := ?_) rfl ?_ (fun _ h => ?_) ?_; rotate_left 1; rfl; (obtain ⟨_, _, rfl⟩ := h.more; go_simp; try rfl)); try simp only [Act.put, zqA, zqB, zqC])
        (refine wpPl_eff rfl ?_ (fun K hK => ?_); rfl; go_simp; refine (hcall _ (by with_reducible repeat (first | exact Ext.refl _ | apply Ext.drew | apply Ext.alloc | apply Ext.more_))).mono ?_; rintro e w' ⟨c, rfl, hlc, hb⟩; obtain ⟨os1, d1, rfl⟩ := hb.more; clear hb; refine hK _ _ ?_ ?_; (repeat (first | (with_reducible (first | exact Ext.refl _ | exact ext_d _ _ _ _ | exact ext_app _ _ _ _ _ | exact ext_app2 _ _ _ _ _ _ | exact ext_app3 _ _ _ _ _ _ _ | exact ext_app4 _ _ _ _ _ _ _ _ | exact ext_app5 _ _ _ _ _ _ _ _ _)) | ((with_reducible refine ext_suffix ⟨_, ?_⟩); (try simp only [Array.append_assoc]); rfl) | (with_reducible (first | apply Ext.drew | apply Ext.alloc | apply Ext.more_)) | apply Ext.drew | apply Ext.alloc | apply Ext.more_)))
        try simp only [Act.put, zqA, zqB, zqC]
        iterate 2 ((refine wpPl_read (v := ?_) rfl ?_ (fun _ h => ?_) ?_; rotate_left 1; rfl; (obtain ⟨_, _, rfl⟩ := h.more; go_simp; try rfl)); try simp only [Act.put, zqA, zqB, zqC])
        refine wpPl_nil ?_
        go_wp2_with fail
        exact ⟨⟨hh + 1, j, by omega, by omega, h3, by go_num, rfl, H1', H2, hW.of_ext (by with_reducible repeat (first | exact Ext.refl _ | apply Ext.drew | apply Ext.alloc | apply Ext.more_)), below_ext hX hbw (by with_reducible repeat (first | exact Ext.refl _ | apply Ext.drew | apply Ext.alloc | apply Ext.more_))⟩, by simp [intOf]; omega⟩
      | true =>
        rw [hlx] at hcall
        have H2' : Hid (hh = m ∨ ∃ u, D[hh]? = some u ∧ lt y u = true) := Or.inr ⟨u, HU.out.1, hlx⟩
        clear hlx
        refine wp_plan (S := Ext _) [(0, 0), (1, 0), (2, 0), (3, 0), (4, 0), (5, 0), (6, 0), (7, 0), (8, 0), (9, 1), (10, 0), (11, 0)] [] (by kernel_rfl) (by kernel_rfl) (by kernel_rfl) (fun _ _ d _ _ h => by cases d <;> exact h) (Ext.drew (Ext.refl _)) ?_
        iterate 9 ((refine wpPl_read (v := ?_) rfl ?_ (fun _ h => ?_) ?_; rotate_left 1; rfl; (obtain ⟨_, _, rfl⟩ := h.more; go_simp; try rfl)); try simp only [Act.put, zqA, zqB, zqC])
        (refine wpPl_eff rfl ?_ (fun K hK => ?_); rfl; go_simp; refine (hcall _ (by with_reducible repeat (first | exact Ext.refl _ | apply Ext.drew | apply Ext.alloc | apply Ext.more_))).mono ?_; rintro e w' ⟨c, rfl, hlc, hb⟩; obtain ⟨os1, d1, rfl⟩ := hb.more; clear hb; refine hK _ _ ?_ ?_; (repeat (first | (with_reducible (first | exact Ext.refl _ | exact ext_d _ _ _ _ | exact ext_app _ _ _ _ _ | exact ext_app2 _ _ _ _ _ _ | exact ext_app3 _ _ _ _ _ _ _ | exact ext_app4 _ _ _ _ _ _ _ _ | exact ext_app5 _ _ _ _ _ _ _ _ _)) | ((with_reducible refine ext_suffix ⟨_, ?_⟩); (try simp only [Array.append_assoc]); rfl) | (with_reducible (first | apply Ext.drew | apply Ext.alloc | apply Ext.more_)) | apply Ext.drew | apply Ext.alloc | apply Ext.more_)))
        try simp only [Act.put, zqA, zqB, zqC]
        iterate 2 ((refine wpPl_read (v := ?_) rfl ?_ (fun _ h => ?_) ?_; rotate_left 1; rfl; (obtain ⟨_, _, rfl⟩ := h.more; go_simp; try rfl)); try simp only [Act.put, zqA, zqB, zqC])
        refine wpPl_nil ?_
        go_wp2_with fail
        exact ⟨⟨i, hh, h1, by omega, by omega, rfl, rfl, H1, H2', hW.of_ext (by with_reducible repeat (first | exact Ext.refl _ | apply Ext.drew | apply Ext.alloc | apply Ext.more_)), below_ext hX hbw (by with_reducible repeat (first | exact Ext.refl _ | apply Ext.drew | apply Ext.alloc | apply Ext.more_))⟩, by simp [intOf]; omega⟩
    · obtain rfl : i = j := by omega
      have HM : Hid (Mrg lt a b D (dn1 D m (m - i))) := by
        obtain ⟨f1, f2, f3, f4⟩ := HF.out
        rw [← f3]
        exact merge_right hlt f4 h1 h3 f1 f2 H1.out H2.out
      have HX := Lib.hid hX
      have HV := Lib.hid hW
      clear H1 H2 h2 hij hX hW HW0
      go_wp2_with fail
      obtain ⟨wo, hwo⟩ : ∃ wo : World, wo = wr := ⟨_, rfl⟩
      rw [← hwo] at HX HV
      rw [← hwo]
      clear hwo
      go_loopw [17] (fun k wr => ∃ t p : Nat, p = m - t ∧ t ≤ m - i ∧ k = .int .i64 (p : Int) ∧ Hid (Wr g base wr (some ⟨bl, off, none⟩) cap (dn1 D m t)) ∧ Bq base w wr) (fun k _ => (intOf k - (i : Int)).toNat)
      case atStart => exact ⟨0, m, rfl, Nat.zero_le _, rfl, HV.out, HX.out⟩
      case round =>
        obtain ⟨t, p, hp, ht, rfl, HW, hX⟩ := hrel
        by_cases htt : i < p
        · have htt' : (i : Int) < (p : Int) := by omega
          have hE := HW.out
          have hEl : (dn1 D m t).length = N := by rw [dn1_length]; exact hDl
          obtain ⟨s', hs'⟩ : ∃ s', p - 1 = s' := ⟨_, rfl⟩
          obtain ⟨x1, hx1⟩ : ∃ x, (dn1 D m t)[p]? = some x := ⟨_, List.getElem?_eq_getElem (by omega)⟩
          obtain ⟨y1, hy1⟩ : ∃ x, (dn1 D m t)[p - 1]? = some x := ⟨_, List.getElem?_eq_getElem (by omega)⟩
          rw [hs'] at hy1
          have ep : IntKind.i64.wrap ((p : Int) - 1) = (s' : Int) := by rw [IntKind.wrap_i64]; omega
          obtain ⟨bl', off', e, _, ⟨cx, cx'⟩, fx, fx'⟩ := Wr.at hE hx1
          simp only [Option.some.injEq, Addr.mk.injEq, and_true] at e
          obtain ⟨rfl, rfl⟩ := e
          obtain ⟨bl', off', e, _, ⟨cy, cy'⟩, fy, fy'⟩ := Wr.at hE hy1
          simp only [Option.some.injEq, Addr.mk.injEq, and_true] at e
          obtain ⟨rfl, rfl⟩ := e
          have hb3 : bl < wr.heap.size := lt_of_cell cx
          have hz : ((dn1 D m t).set p y1)[s']? = some y1 := by rw [List.getElem?_set_ne (by omega)]; exact hy1
          obtain ⟨bl', off', e, _, ⟨cz, cz'⟩, fz, fz'⟩ := Wr.at (Wr.set (d := y1) hE (show p < (dn1 D m t).length by omega)) hz
          simp only [Option.some.injEq, Addr.mk.injEq, and_true] at e
          obtain ⟨rfl, rfl⟩ := e
          have hX2 := Wr.bel (Wr.bel hX hE (show p < (dn1 D m t).length by omega) (g y1)) (Wr.set (d := y1) hE (show p < (dn1 D m t).length by omega)) (show s' < ((dn1 D m t).set p y1).length by rw [List.length_set]; omega) (g x1)
          have HSw : Hid (Wr g base (nset (nset wr bl (off + p * 2) (g y1)) bl (off + s' * 2) (g x1)) (some ⟨bl, off, none⟩) cap (dn1 D m (t + 1))) := by
            show Wr _ _ _ _ _ (sw1 (dn1 D m t) (m - t) (m - t - 1))
            rw [← hp, hs']
            exact Wr.sw hE hx1 hy1
          have hpN : p < N := by omega
          have hsN : s' < N := by omega
          have HQ : Hid (s' = m - (t + 1) ∧ t + 1 ≤ m - i ∧ p = s' + 1) := ⟨by omega, by omega, by omega⟩
          clear HW hE hEl hx1 hy1 hs' hz hp ht hX
          go_wp2_with fail
          go_region
          go_wp2_with fail
          exact ⟨⟨t + 1, s', HQ.out.1, HQ.out.2.1, by go_num, HSw.out.of_ext (by with_reducible repeat (first | exact Ext.refl _ | apply Ext.drew | apply Ext.alloc | apply Ext.more_)), below_ext hX2 hbw (by with_reducible repeat (first | exact Ext.refl _ | apply Ext.drew | apply Ext.alloc | apply Ext.more_))⟩, by have := HQ.out; simp [intOf]; omega⟩
        · have hti : t = m - i := by omega
          have htt' : ¬ (i : Int) < (p : Int) := by omega
          rw [hti] at HW
          clear hti
          go_wp2_with fail
          exact bodyPost_ret (v := .tuple #[]) (by simp [results, Tryz.results185, go_sem]) rfl ⟨rfl, ⟨_, HM.out, HW.out.of_ext (by with_reducible repeat (first | exact Ext.refl _ | apply Ext.drew | apply Ext.alloc | apply Ext.more_))⟩, hX⟩
end
end Go.Proofs.YtkcoikelcmpceaaGreatDoor
namespace Go.Proofs.YtkcoikelcmpceaaGreatDoor
open Go.RowKit NM
section
variable {g : Nat → Nm}
theorem MrgIn.part1 {lt : Nat → Nat → Bool} {cl : FuncId} {capt : Array Value} {M base cap N a m b s mid e : Nat} {A : Option Addr} {D D1 : List Nat} {w w1 : World} (h : MrgIn g lt cl capt M base A cap N a m b D w) (ht : Turned lt a s mid e b D D1) (hx : Bq base w w1) (hw : Wr g base w1 A cap D1) (h1 : a < s) (h2 : s < mid) (h3 : mid ≤ b) :
    MrgIn g lt cl capt M base A cap N a s mid D1 w1 :=
  ⟨h.cmp.keep hx, Nat.le_trans h.bw hx.size, hw, ht.part.len.trans h.len, h.small, h1, h2, Nat.le_trans h3 h.bN, fun x hxx => h.lim x (ht.perm.mem_iff.1 (seg_mono_mem (Nat.le_refl _) h3 hxx)), ht.p1, ht.p2, ht.c1⟩
theorem MrgIn.part2 {lt : Nat → Nat → Bool} {cl : FuncId} {capt : Array Value} {M base cap N a m b s mid e : Nat} {A : Option Addr} {D D1 D2 : List Nat} {w w2 : World} (h : MrgIn g lt cl capt M base A cap N a m b D w) (ht : Turned lt a s mid e b D D1) (hm : Mrg lt a mid D1 D2) (hx : Bq base w w2) (hw : Wr g base w2 A cap D2) (h1 : mid < e) (h2 : e < b) (h3 : a ≤ mid) :
    MrgIn g lt cl capt M base A cap N mid e b D2 w2 := by
  have e1 : seg D2 mid b = seg D1 mid b := hm.part.seg_hi (Nat.le_refl _)
  have e2 : seg D2 mid e = seg D1 mid e := hm.part.seg_hi (Nat.le_refl _)
  have e3 : seg D2 e b = seg D1 e b := hm.part.seg_hi (Nat.le_of_lt h1)
  refine ⟨h.cmp.keep hx, Nat.le_trans h.bw hx.size, hw, hm.part.len.trans (ht.part.len.trans h.len), h.small, h1, h2, h.bN, fun x hxx => ?_, by rw [e2]; exact ht.p3, by rw [e3]; exact ht.p4, by rw [e2, e3]; exact ht.c2⟩
  rw [e1] at hxx
  exact h.lim x (ht.perm.mem_iff.1 (seg_mono_mem h3 (Nat.le_refl _) hxx))
/-- Where the search goes on. -/
structure Srch (a m b mid lo hi nn N : Nat) : Prop where
  am : a < m
  mb : m < b
  bN : b ≤ N
  small : N ≤ 100000
  amid : a < mid
  midb : mid < b
  alo : a ≤ lo
  lohi : lo ≤ hi
  him : hi ≤ m
  himid : hi ≤ mid
  nlo : nn ≤ b + lo
  nhi : m + hi ≤ nn
  lom : lo < m
  e1 : lo = a ∨ nn = b + lo
  e2 : hi = m ∨ nn = m + hi
  nn : mid + m = nn
theorem srch_of {a m b mid lo hi nn N : Nat} (h1 : a < m) (h2 : m < b) (h3 : b ≤ N) (h4 : N ≤ 100000) (hm : (a + b) / 2 = mid) (hn : mid + m = nn) (h : (mid < m ∧ mid + m - b = lo ∧ hi = mid) ∨ (m ≤ mid ∧ lo = a ∧ hi = m)) : Srch a m b mid lo hi nn N := by
  constructor <;> omega
theorem srch_round {a m b mid lo hi nn N i j : Nat} (h : Srch a m b mid lo hi nn N) (h1 : lo ≤ i) (h2 : i < j) (h3 : j ≤ hi) :
    ∃ hh q : Nat, (IntKind.i64.wrap ((i : Int) + (j : Int)) = (i : Int) + (j : Int) ∧ IntKind.u64.wrap ((i : Int) + (j : Int)) = (i : Int) + (j : Int) ∧ ((i : Int) + (j : Int)) / 2 = (hh : Int) ∧ IntKind.u64.wrap (hh : Int) = (hh : Int) ∧ IntKind.i64.wrap (hh : Int) = (hh : Int)) ∧ IntKind.i64.wrap (((nn - 1 : Nat) : Int) - (hh : Int)) = (q : Int) ∧ IntKind.i64.wrap ((hh : Int) + 1) = ((hh + 1 : Nat) : Int) ∧ (i ≤ hh ∧ hh < j ∧ a ≤ hh ∧ hh < b ∧ a ≤ q ∧ q < b) ∧ hh < N ∧ q < N ∧ nn - (hh + 1) = q ∧ nn - 1 - hh = q := by
  obtain ⟨g1, g2, g3, g4, g5, g6, g7, g8, g9, g10, g11, g12, g13, g14, g15, g16⟩ := h
  refine ⟨(i + j) / 2, nn - 1 - (i + j) / 2, mid_facts (by omega) rfl, by rw [IntKind.wrap_i64]; omega, by rw [IntKind.wrap_i64]; omega, by omega, by omega, by omega, by omega, rfl⟩
/-- Where it ends. -/
structure Ends (a m b mid i e nn N : Nat) : Prop where
  ai : a ≤ i
  im : i ≤ m
  me : m ≤ e
  eb : e ≤ b
  imid : i ≤ mid
  mide : mid ≤ e
  kmid : mid = i + (e - m)
  amid : a < mid
  midb : mid < b
  bN : b ≤ N
  small : N ≤ 100000
  en : nn - i = e
  ei : IntKind.i64.wrap ((nn : Int) - (i : Int)) = (e : Int)
theorem srch_ends {a m b mid lo hi nn N i : Nat} (h : Srch a m b mid lo hi nn N) (h1 : lo ≤ i) (h3 : i ≤ hi) : Ends a m b mid i (nn - i) nn N := by
  obtain ⟨g1, g2, g3, g4, g5, g6, g7, g8, g9, g10, g11, g12, g13, g14, g15, g16⟩ := h
  refine ⟨by omega, by omega, by omega, by omega, by omega, by omega, by omega, by omega, by omega, by omega, by omega, rfl, by rw [IntKind.wrap_i64]; omega⟩
theorem srch_turned {lt : Nat → Nat → Bool} (hlt : Swo lt) {cl : FuncId} {capt : Array Value} {M base cap N a m b mid lo hi nn i : Nat} {A : Option Addr} {D : List Nat} {w : World} (hin : MrgIn g lt cl capt M base A cap N a m b D w) (h : Srch a m b mid lo hi nn N) (h1 : lo ≤ i) (h3 : i ≤ hi)
    (H1 : i = lo ∨ ∃ u v, D[nn - i]? = some u ∧ D[i - 1]? = some v ∧ lt u v = false) (H2 : i = hi ∨ ∃ u v, D[nn - 1 - i]? = some u ∧ D[i]? = some v ∧ lt u v = true) :
    Turned lt a i mid (nn - i) b D (D.take i ++ (seg D m (nn - i) ++ (seg D i m ++ D.drop (nn - i)))) := by
  have he := srch_ends h h1 h3
  have hl := hin.len
  have hb := h.bN
  refine turned_of hlt he.ai he.im he.me he.eb (by omega) he.kmid hin.sx hin.sy hin.xy ?_ ?_
  · rcases H1 with H | ⟨u, v, hu, hv, hl⟩
    · rcases h.e1 with h' | h'
      · exact Or.inl (by omega)
      · exact Or.inr (Or.inl (by omega))
    · exact Or.inr (Or.inr ⟨u, v, hu, hv, hl⟩)
  · rcases H2 with H | ⟨u, v, hu, hv, hl⟩
    · rcases h.e2 with h' | h'
      · exact Or.inl (by omega)
      · exact Or.inr (Or.inl (by omega))
    · exact Or.inr (Or.inr ⟨u, v, by rw [Nat.sub_right_comm]; exact hu, hv, hl⟩)
theorem rot_of {base cap N a m b mid i e nn : Nat} {A : Option Addr} {D D1 : List Nat} (cf : Value) (he : Ends a m b mid i e nn N) (hl : D.length = N) (hD1 : D.take i ++ (seg D m e ++ (seg D i m ++ D.drop e)) = D1) {wr : World} (hW : Wr g base wr A cap D) (q1 : i < m) (q2 : m < e) :
    Calls Tryz.prog 208 #[.slice A N cap, .int .i64 (i : Int), .int .i64 (m : Int), .int .i64 (e : Int), cf] wr fun e9 w' => e9 = .returned (.tuple #[]) ∧ Wr g base w' A cap D1 ∧ Bq base wr w' := by
  obtain ⟨k1, k2, k3, k4, k5, k6, k7, k8, k9, k10, k11, k12, k13⟩ := he
  have l1 : (D.take i).length = i := by rw [List.length_take]; omega
  have l2 : (seg D i m).length = m - i := seg_length (by omega)
  have l3 : (seg D m e).length = e - m := seg_length (by omega)
  have h9 := rotate_any base A cap N (D.take i) (seg D i m) (seg D m e) (D.drop e) (i : Int) (m : Int) (e : Int) cf wr (by rw [← turn_as k2 k3]; exact hW) (by rw [← turn_as k2 k3]; exact hl) k11 (by omega) (by omega) (by omega) (by omega) (by omega)
  rw [hD1] at h9
  exact h9
set_option maxHeartbeats 0 in
theorem symMerge_step {lt : Nat → Nat → Bool} (hlt : Swo lt) (cl : FuncId) (capt : Array Value) (M base : Nat) (A : Option Addr) (cap N k : Nat) (ih : ∀ (a m b : Nat) (D : List Nat) (w : World), b - a ≤ k → MrgIn g lt cl capt M base A cap N a m b D w →
    Calls Tryz.prog 185 #[.slice A N cap, .int .i64 (a : Int), .int .i64 (m : Int), .int .i64 (b : Int), .func (.func cl) #[] capt] w fun e w' => e = .returned (.tuple #[]) ∧ (∃ D', Mrg lt a b D D' ∧ Wr g base w' A cap D') ∧ Bq base w w') (a m b : Nat) (D : List Nat) (w : World) (hk : b - a ≤ k + 1) (h : MrgIn g lt cl capt M base A cap N a m b D w) :
    Calls Tryz.prog 185 #[.slice A N cap, .int .i64 (a : Int), .int .i64 (m : Int), .int .i64 (b : Int), .func (.func cl) #[] capt] w fun e w' => e = .returned (.tuple #[]) ∧ (∃ D', Mrg lt a b D D' ∧ Wr g base w' A cap D') ∧ Bq base w w' := by
    by_cases hl : m = a + 1
    · subst hl; exact symLeft_any hlt cl capt M base A cap N a b D w h
    by_cases hr : b = m + 1
    · subst hr; exact symRight_any hlt cl capt M base A cap N a m D w h hl
    have hin := h
    obtain ⟨hc, hbw, hW0, hDl, hs, hamm, hmb, hbN, hlim, hsx, hsy, hxy⟩ := h
    have e0 : IntKind.i64.wrap ((m : Int) - (a : Int)) = (m : Int) - (a : Int) := by rw [IntKind.wrap_i64]; omega
    have e1 : ((m : Int) - (a : Int) == 1) = false := by simp; omega
    have e2 : IntKind.i64.wrap ((b : Int) - (m : Int)) = (b : Int) - (m : Int) := by rw [IntKind.wrap_i64]; omega
    have e3 : ((b : Int) - (m : Int) == 1) = false := by simp; omega
    obtain ⟨mid, emid⟩ : ∃ hh, (a + b) / 2 = hh := ⟨_, rfl⟩
    obtain ⟨w1, w2, w3, w4, w5⟩ := mid_facts (i := a) (j := b) (by omega) emid
    obtain ⟨nn, hnn⟩ : ∃ nn, mid + m = nn := ⟨_, rfl⟩
    have e4 : IntKind.i64.wrap ((mid : Int) + (m : Int)) = (nn : Int) := by rw [IntKind.wrap_i64]; omega
    obtain ⟨pp, hpp⟩ : ∃ pp, nn - 1 = pp := ⟨_, rfl⟩
    have e5 : IntKind.i64.wrap ((nn : Int) - 1) = (pp : Int) := by rw [IntKind.wrap_i64]; omega
    obtain ⟨y0, hy0⟩ : ∃ x, D[m]? = some x := ⟨_, List.getElem?_eq_getElem (by omega)⟩
    obtain ⟨bl, off, rfl, hb1, ⟨cx, cx'⟩, fx, fx'⟩ := Wr.at hW0 hy0
    have hcap := hW0.1
    rw [hDl] at hcap
    have hblk : bl < w.heap.size := lt_of_cell cx
    have HC := Lib.hid hc
    have hent := hc.ent
    have HIN := Lib.hid hin
    have HIH : Hid (∀ (a m b : Nat) (D : List Nat) (w : World), b - a ≤ k → MrgIn g lt cl capt M base (some ⟨bl, off, none⟩) cap N a m b D w → Calls Tryz.prog 185 #[.slice (some ⟨bl, off, none⟩) N cap, .int .i64 (a : Int), .int .i64 (m : Int), .int .i64 (b : Int), .func (.func cl) #[] capt] w fun e w' => e = .returned (.tuple #[]) ∧ (∃ D', Mrg lt a b D D' ∧ Wr g base w' (some ⟨bl, off, none⟩) cap D') ∧ Bq base w w') := ih
    have HK := Lib.hid hk
    have HPP := Lib.hid hpp
    have HN0 := Lib.hid hnn
    have HBW := Lib.hid hbw
    have HSW := Lib.hid hlt
    have hS := fun lo hi (h : (mid < m ∧ mid + m - b = lo ∧ hi = mid) ∨ (m ≤ mid ∧ lo = a ∧ hi = m)) => srch_of (N := N) hamm hmb hbN hs emid hnn h
    have HS0 := Lib.hid hS
    have HLN := Lib.hid (And.intro hs (And.intro hbN (And.intro hamm hmb)))
    clear hc hlim hsx hsy hxy hW0 hy0 emid hpp cx cx' fx fx' hl hr ih hin hk hS hbw hlt hDl hb1
    go_enter Tryz.func185, Tryz.ntmps185
    by_cases hmm : mid < m
    · have hmm' : (mid : Int) < (m : Int) := by omega
      obtain ⟨lo, hlo⟩ : ∃ lo, mid + m - b = lo := ⟨_, rfl⟩
      have HS := Lib.hid (HS0.out lo mid (Or.inl ⟨hmm, hlo, rfl⟩))
      have e6 : IntKind.i64.wrap ((nn : Int) - (b : Int)) = (lo : Int) := by rw [IntKind.wrap_i64]; omega
      have hm0 : m < b := hmb
      have hm1 : m < N := by omega
      clear hlo
      go_wp2_with fail
      clear e0 e1 e2 e3 e4 e5 w1 w2 w3 w4 w5 hmm hmm' hbN hamm hmb hs hnn e6
      go_loopw [20, 21] (fun s t wr => ∃ i j : Nat, lo ≤ i ∧ i ≤ j ∧ j ≤ mid ∧ s = .int .i64 (i : Int) ∧ t = .int .i64 (j : Int) ∧ Hid (i = lo ∨ ∃ u v, D[nn - i]? = some u ∧ D[i - 1]? = some v ∧ lt u v = false) ∧ Hid (j = mid ∨ ∃ u v, D[nn - 1 - j]? = some u ∧ D[j]? = some v ∧ lt u v = true) ∧ Hid (Wr g base wr (some ⟨bl, off, none⟩) cap D) ∧ Bq base w wr) (fun s t _ => (intOf t - intOf s).toNat)
      case atStart => exact ⟨lo, mid, Nat.le_refl _, HS.out.lohi, Nat.le_refl _, rfl, rfl, Or.inl rfl, Or.inl rfl, HIN.out.wr, Bq.refl _ _⟩
      case round =>
        obtain ⟨i, j, h1, h2, h3, rfl, rfl, H1, H2, hW, hX⟩ := hrel
        by_cases hij : i < j
        · obtain ⟨hh, q, ⟨w1, w2, w3, w4, w5⟩, ep, hw5, ⟨g1, g2, g3, g4, g5, g6⟩, hN1, hN2, g7, g8⟩ := srch_round HS.out h1 hij h3
          rw [HPP.out] at ep
          have hij' : (i : Int) < (j : Int) := by omega
          rename_i K0 hK0
          have HK0 := Lib.hid hK0
          clear hK0
          obtain ⟨u, hu⟩ : ∃ u, D[q]? = some u := ⟨_, List.getElem?_eq_getElem (by rw [HIN.out.len]; exact hN2)⟩
          obtain ⟨v, hv⟩ : ∃ u, D[hh]? = some u := ⟨_, List.getElem?_eq_getElem (by rw [HIN.out.len]; exact hN1)⟩
          have huM : u < M := HIN.out.lim u (seg_mem hu g5 g6)
          have hvM : v < M := HIN.out.lim v (seg_mem hv g3 g4)
          obtain ⟨bl', off', e, _, ⟨cu, cu'⟩, fu, fu'⟩ := Wr.at hW.out hu
          simp only [Option.some.injEq, Addr.mk.injEq, and_true] at e
          obtain ⟨rfl, rfl⟩ := e
          obtain ⟨bl', off', e, _, ⟨cv, cv'⟩, fv, fv'⟩ := Wr.at hW.out hv
          simp only [Option.some.injEq, Addr.mk.injEq, and_true] at e
          obtain ⟨rfl, rfl⟩ := e
          have hcall := fun (W : World) (hW : Ext wr W) => HC.out.run u v W huM hvM (below_ext hX HBW.out hW)
          have hb2 : bl < wr.heap.size := lt_of_cell cu
          have HX := Lib.hid hX
          have HU := Lib.hid (And.intro hu (And.intro hv (And.intro g7 (And.intro g8 (And.intro h1 (And.intro h3 (And.intro g1 g2)))))))
          clear hu hv g1 g2 g3 g4 g5 g6 g7 g8 huM hvM hX h1 h2 h3 hij
          go_upto_region 35 with fail
          cases hlx : lt u v with
          | false =>
            rw [hlx] at hcall
            have H1' : Hid (hh + 1 = lo ∨ ∃ u v, D[nn - (hh + 1)]? = some u ∧ D[hh + 1 - 1]? = some v ∧ lt u v = false) := Or.inr ⟨u, v, by rw [HU.out.2.2.1]; exact HU.out.1, HU.out.2.1, hlx⟩
            clear hlx H1
            refine wp_plan (S := Ext _) [(0, 0), (1, 0), (2, 0), (3, 0), (4, 0), (5, 0), (6, 0), (7, 0), (8, 0), (9, 0), (10, 0), (11, 1), (12, 0), (13, 0)] [] (by kernel_rfl) (by kernel_rfl) (by kernel_rfl) (fun _ _ d _ _ h => by cases d <;> exact h) (Ext.drew (Ext.refl _)) ?_
            iterate 11 ((refine wpPl_read (v := ?_) rfl ?_ (fun _ h => ?_) ?_; rotate_left 1; rfl; (obtain ⟨_, _, rfl⟩ := h.more; go_simp; try rfl)); try simp only [Act.put, zqA, zqB, zqC])
            (refine wpPl_eff rfl ?_ (fun K hK => ?_); rfl; go_simp; refine (hcall _ (by with_reducible repeat (first | exact Ext.refl _ | apply Ext.drew | apply Ext.alloc | apply Ext.more_))).mono ?_; rintro e w' ⟨c, rfl, hlc, hb⟩; obtain ⟨os1, d1, rfl⟩ := hb.more; clear hb; refine hK _ _ ?_ ?_; (repeat (first | (with_reducible (first | exact Ext.refl _ | exact ext_d _ _ _ _ | exact ext_app _ _ _ _ _ | exact ext_app2 _ _ _ _ _ _ | exact ext_app3 _ _ _ _ _ _ _ | exact ext_app4 _ _ _ _ _ _ _ _ | exact ext_app5 _ _ _ _ _ _ _ _ _)) | ((with_reducible refine ext_suffix ⟨_, ?_⟩); (try simp only [Array.append_assoc]); rfl) | (with_reducible (first | apply Ext.drew | apply Ext.alloc | apply Ext.more_)) | apply Ext.drew | apply Ext.alloc | apply Ext.more_)))
            try simp only [Act.put, zqA, zqB, zqC]
            iterate 2 ((refine wpPl_read (v := ?_) rfl ?_ (fun _ h => ?_) ?_; rotate_left 1; rfl; (obtain ⟨_, _, rfl⟩ := h.more; go_simp; try rfl)); try simp only [Act.put, zqA, zqB, zqC])
            refine wpPl_nil ?_
            go_wp2_with fail
            obtain ⟨_, _, _, _, h1, h3, g1, g2⟩ := HU.out
            exact ⟨⟨hh + 1, j, by omega, by omega, h3, by go_num, rfl, H1', H2, hW.out.of_ext (by with_reducible repeat (first | exact Ext.refl _ | apply Ext.drew | apply Ext.alloc | apply Ext.more_)), below_ext HX.out HBW.out (by with_reducible repeat (first | exact Ext.refl _ | apply Ext.drew | apply Ext.alloc | apply Ext.more_))⟩, by simp [intOf]; omega⟩
          | true =>
            rw [hlx] at hcall
            have H2' : Hid (hh = mid ∨ ∃ u v, D[nn - 1 - hh]? = some u ∧ D[hh]? = some v ∧ lt u v = true) := Or.inr ⟨u, v, by rw [HU.out.2.2.2.1]; exact HU.out.1, HU.out.2.1, hlx⟩
            clear hlx H2
            refine wp_plan (S := Ext _) [(0, 0), (1, 0), (2, 0), (3, 0), (4, 0), (5, 0), (6, 0), (7, 0), (8, 0), (9, 0), (10, 0), (11, 1), (12, 0), (13, 0)] [] (by kernel_rfl) (by kernel_rfl) (by kernel_rfl) (fun _ _ d _ _ h => by cases d <;> exact h) (Ext.drew (Ext.refl _)) ?_
            iterate 11 ((refine wpPl_read (v := ?_) rfl ?_ (fun _ h => ?_) ?_; rotate_left 1; rfl; (obtain ⟨_, _, rfl⟩ := h.more; go_simp; try rfl)); try simp only [Act.put, zqA, zqB, zqC])
            (refine wpPl_eff rfl ?_ (fun K hK => ?_); rfl; go_simp; refine (hcall _ (by with_reducible repeat (first | exact Ext.refl _ | apply Ext.drew | apply Ext.alloc | apply Ext.more_))).mono ?_; rintro e w' ⟨c, rfl, hlc, hb⟩; obtain ⟨os1, d1, rfl⟩ := hb.more; clear hb; refine hK _ _ ?_ ?_; (repeat (first | (with_reducible (first | exact Ext.refl _ | exact ext_d _ _ _ _ | exact ext_app _ _ _ _ _ | exact ext_app2 _ _ _ _ _ _ | exact ext_app3 _ _ _ _ _ _ _ | exact ext_app4 _ _ _ _ _ _ _ _ | exact ext_app5 _ _ _ _ _ _ _ _ _)) | ((with_reducible refine ext_suffix ⟨_, ?_⟩); (try simp only [Array.append_assoc]); rfl) | (with_reducible (first | apply Ext.drew | apply Ext.alloc | apply Ext.more_)) | apply Ext.drew | apply Ext.alloc | apply Ext.more_)))
            try simp only [Act.put, zqA, zqB, zqC]
            iterate 2 ((refine wpPl_read (v := ?_) rfl ?_ (fun _ h => ?_) ?_; rotate_left 1; rfl; (obtain ⟨_, _, rfl⟩ := h.more; go_simp; try rfl)); try simp only [Act.put, zqA, zqB, zqC])
            refine wpPl_nil ?_
            go_wp2_with fail
            obtain ⟨_, _, _, _, h1, h3, g1, g2⟩ := HU.out
            exact ⟨⟨i, hh, h1, g1, by omega, rfl, rfl, H1, H2', hW.out.of_ext (by with_reducible repeat (first | exact Ext.refl _ | apply Ext.drew | apply Ext.alloc | apply Ext.more_)), below_ext HX.out HBW.out (by with_reducible repeat (first | exact Ext.refl _ | apply Ext.drew | apply Ext.alloc | apply Ext.more_))⟩, by simp [intOf]; omega⟩
        · obtain rfl : i = j := by omega
          have hij' : ¬ (i : Int) < (i : Int) := Int.lt_irrefl _
          have hE := srch_ends HS.out h1 h3
          have HT := Lib.hid (srch_turned HSW.out HIN.out HS.out h1 h3 H1.out H2.out)
          obtain ⟨e, he⟩ : ∃ e, nn - i = e := ⟨_, rfl⟩
          rw [he] at hE HT
          obtain ⟨D1, hD1⟩ : ∃ D1, D.take i ++ (seg D m e ++ (seg D i m ++ D.drop e)) = D1 := ⟨_, rfl⟩
          rw [hD1] at HT
          have ee := hE.ei
          have HE := Lib.hid hE
          have HR1 : Hid (i < m → m < e → Calls Tryz.prog 208 #[.slice (some ⟨bl, off, none⟩) N cap, .int .i64 (i : Int), .int .i64 (m : Int), .int .i64 (e : Int), .func (.func cl) #[] capt] wr fun e9 w' => e9 = .returned (.tuple #[]) ∧ Wr g base w' (some ⟨bl, off, none⟩) cap D1 ∧ Bq base wr w') := fun q1 q2 => rot_of _ HE.out HIN.out.len hD1 hW.out q1 q2
          have HRN : Hid ((i = m ∨ m = e) → Wr g base wr (some ⟨bl, off, none⟩) cap D1) := fun q => by rw [← hD1, turn_none HE.out.im HE.out.me q]; exact hW.out
          have HX := Lib.hid hX
          have HI1 : Hid (∀ W, Bq base w W → Wr g base W (some ⟨bl, off, none⟩) cap D1 → a < i → i < mid → Calls Tryz.prog 185 #[.slice (some ⟨bl, off, none⟩) N cap, .int .i64 (a : Int), .int .i64 (i : Int), .int .i64 (mid : Int), .func (.func cl) #[] capt] W fun e9 w' => e9 = .returned (.tuple #[]) ∧ (∃ D', Mrg lt a mid D1 D' ∧ Wr g base w' (some ⟨bl, off, none⟩) cap D') ∧ Bq base W w') := fun W hx hw q1 q2 => HIH.out a i mid D1 W (by have := HK.out; have := HE.out.midb; omega) (MrgIn.part1 HIN.out HT.out hx hw q1 q2 (Nat.le_of_lt HE.out.midb))
          have HI2 : Hid (∀ D2 W, Mrg lt a mid D1 D2 → Bq base w W → Wr g base W (some ⟨bl, off, none⟩) cap D2 → mid < e → e < b → Calls Tryz.prog 185 #[.slice (some ⟨bl, off, none⟩) N cap, .int .i64 (mid : Int), .int .i64 (e : Int), .int .i64 (b : Int), .func (.func cl) #[] capt] W fun e9 w' => e9 = .returned (.tuple #[]) ∧ (∃ D', Mrg lt mid b D2 D' ∧ Wr g base w' (some ⟨bl, off, none⟩) cap D') ∧ Bq base W w') := fun D2 W hm hx hw q1 q2 => HIH.out mid e b D2 W (by have := HK.out; have := HE.out.amid; omega) (MrgIn.part2 HIN.out HT.out hm hx hw q1 q2 (Nat.le_of_lt HE.out.amid))
          have HS1 : Hid (¬ (a < i ∧ i < mid) → Mrg lt a mid D1 D1) := fun q => by
            refine Mrg.of_sorted ?_
            have k1 := HE.out.ai
            have k5 := HE.out.imid
            by_cases q1 : i = a
            · have := HT.out.p2; rw [q1] at this; exact this
            · have q2 : i = mid := by omega
              have := HT.out.p1; rw [q2] at this; exact this
          have HS2 : Hid (∀ D2, Mrg lt a mid D1 D2 → ¬ (mid < e ∧ e < b) → Mrg lt mid b D2 D2) := fun D2 hm q => by
            refine Mrg.of_sorted ?_
            have k1 := HE.out.mide
            have k5 := HE.out.eb
            rw [hm.part.seg_hi (Nat.le_refl _)]
            by_cases q1 : e = mid
            · have := HT.out.p4; rw [q1] at this; exact this
            · have q2 : e = b := by omega
              have := HT.out.p3; rw [q2] at this; exact this
          have HJ : Hid (∀ D2 D3, Mrg lt a mid D1 D2 → Mrg lt mid b D2 D3 → Mrg lt a b D D3) := fun D2 D3 m1 m2 => merge_join (Nat.le_of_lt HE.out.amid) (Nat.le_of_lt HE.out.midb) HT.out.part HT.out.perm HT.out.cross m1 m2
          clear H1 H2 hX HT hD1 HIH HIN he HC hE h1 h2 h3 hij HS HS0 HPP HN0 HBW HSW HK HLN hcap hblk hm0 hm1
          clear hW
          by_cases r1 : i < m
          · have r1' : (i : Int) < (m : Int) := by omega
            by_cases r2 : m < e
            · have r2' : (m : Int) < (e : Int) := by omega
              have hcall := HR1.out r1 r2
              go_upto_region 41 with (go_at_call 208; refine hcall.mono ?_; rintro e9 w1 ⟨rfl, hW10, hb1⟩)
              have hX1 := Lib.hid (Bq.trans HX.out hb1)
              have hW1 := Lib.hid hW10
              clear hcall hb1 hW10
              by_cases s1 : a < i
              · have s1' : (a : Int) < (i : Int) := by omega
                by_cases s2 : i < mid
                · have s2' : (i : Int) < (mid : Int) := by omega
                  have hcall := HI1.out _ hX1.out hW1.out s1 s2
                  go_upto_region 43 with (go_at_call 185; refine hcall.mono ?_; rintro e9 w2 ⟨rfl, ⟨D2, hM0, hW20⟩, hb2⟩)
                  have hX2 := Lib.hid (Bq.trans hX1.out hb2)
                  have hM := Lib.hid hM0
                  have hW2 := Lib.hid hW20
                  clear hcall hb2 hX1 hW1 hM0 hW20
                  by_cases u1 : mid < e
                  · have u1' : (mid : Int) < (e : Int) := by omega
                    by_cases u2 : e < b
                    · have u2' : (e : Int) < (b : Int) := by omega
                      have hcall := HI2.out _ _ hM.out hX2.out hW2.out u1 u2
                      go_wp2_with (go_at_call 185; refine hcall.mono ?_; rintro e9 w3 ⟨rfl, ⟨D3, hN, hW3⟩, hb3⟩)
                      exact bodyPost_end (v := .tuple #[]) (by simp [results, Tryz.results185, go_sem]) rfl ⟨rfl, ⟨_, HJ.out _ _ hM.out hN, hW3⟩, Bq.trans hX2.out hb3⟩
                    · have u2' : ¬ (e : Int) < (b : Int) := by omega
                      have hN := HS2.out _ hM.out (fun q => u2 q.2)
                      go_wp2_with fail
                      exact bodyPost_end (v := .tuple #[]) (by simp [results, Tryz.results185, go_sem]) rfl ⟨rfl, ⟨_, HJ.out _ _ hM.out hN, hW2.out⟩, hX2.out⟩
                  · have u1' : ¬ (mid : Int) < (e : Int) := by omega
                    have hN := Lib.hid (HS2.out _ hM.out (fun q => u1 q.1))
                    go_wp2_with fail
                    exact bodyPost_end (v := .tuple #[]) (by simp [results, Tryz.results185, go_sem]) rfl ⟨rfl, ⟨_, HJ.out _ _ hM.out hN.out, hW2.out⟩, hX2.out⟩
                · have s2' : ¬ (i : Int) < (mid : Int) := by omega
                  have hM := Lib.hid (HS1.out (fun q => s2 q.2))
                  have hW2 := hW1
                  have hX2 := hX1
                  clear hX1 hW1
                  go_upto_region 43 with fail
                  by_cases u1 : mid < e
                  · have u1' : (mid : Int) < (e : Int) := by omega
                    by_cases u2 : e < b
                    · have u2' : (e : Int) < (b : Int) := by omega
                      have hcall := HI2.out _ _ hM.out hX2.out hW2.out u1 u2
                      go_wp2_with (go_at_call 185; refine hcall.mono ?_; rintro e9 w3 ⟨rfl, ⟨D3, hN, hW3⟩, hb3⟩)
                      exact bodyPost_end (v := .tuple #[]) (by simp [results, Tryz.results185, go_sem]) rfl ⟨rfl, ⟨_, HJ.out _ _ hM.out hN, hW3⟩, Bq.trans hX2.out hb3⟩
                    · have u2' : ¬ (e : Int) < (b : Int) := by omega
                      have hN := HS2.out _ hM.out (fun q => u2 q.2)
                      go_wp2_with fail
                      exact bodyPost_end (v := .tuple #[]) (by simp [results, Tryz.results185, go_sem]) rfl ⟨rfl, ⟨_, HJ.out _ _ hM.out hN, hW2.out⟩, hX2.out⟩
                  · have u1' : ¬ (mid : Int) < (e : Int) := by omega
                    have hN := Lib.hid (HS2.out _ hM.out (fun q => u1 q.1))
                    go_wp2_with fail
                    exact bodyPost_end (v := .tuple #[]) (by simp [results, Tryz.results185, go_sem]) rfl ⟨rfl, ⟨_, HJ.out _ _ hM.out hN.out, hW2.out⟩, hX2.out⟩
              · have s1' : ¬ (a : Int) < (i : Int) := by omega
                have hM := Lib.hid (HS1.out (fun q => s1 q.1))
                have hW2 := hW1
                have hX2 := hX1
                clear hX1 hW1
                go_upto_region 43 with fail
                by_cases u1 : mid < e
                · have u1' : (mid : Int) < (e : Int) := by omega
                  by_cases u2 : e < b
                  · have u2' : (e : Int) < (b : Int) := by omega
                    have hcall := HI2.out _ _ hM.out hX2.out hW2.out u1 u2
                    go_wp2_with (go_at_call 185; refine hcall.mono ?_; rintro e9 w3 ⟨rfl, ⟨D3, hN, hW3⟩, hb3⟩)
                    exact bodyPost_end (v := .tuple #[]) (by simp [results, Tryz.results185, go_sem]) rfl ⟨rfl, ⟨_, HJ.out _ _ hM.out hN, hW3⟩, Bq.trans hX2.out hb3⟩
                  · have u2' : ¬ (e : Int) < (b : Int) := by omega
                    have hN := HS2.out _ hM.out (fun q => u2 q.2)
                    go_wp2_with fail
                    exact bodyPost_end (v := .tuple #[]) (by simp [results, Tryz.results185, go_sem]) rfl ⟨rfl, ⟨_, HJ.out _ _ hM.out hN, hW2.out⟩, hX2.out⟩
                · have u1' : ¬ (mid : Int) < (e : Int) := by omega
                  have hN := Lib.hid (HS2.out _ hM.out (fun q => u1 q.1))
                  go_wp2_with fail
                  exact bodyPost_end (v := .tuple #[]) (by simp [results, Tryz.results185, go_sem]) rfl ⟨rfl, ⟨_, HJ.out _ _ hM.out hN.out, hW2.out⟩, hX2.out⟩
            · have r2' : ¬ (m : Int) < (e : Int) := by omega
              have hW1 := Lib.hid (HRN.out (Or.inr (by have := HE.out.me; omega)))
              have hX1 := HX
              go_upto_region 41 with fail
              by_cases s1 : a < i
              · have s1' : (a : Int) < (i : Int) := by omega
                by_cases s2 : i < mid
                · have s2' : (i : Int) < (mid : Int) := by omega
                  have hcall := HI1.out _ hX1.out hW1.out s1 s2
                  go_upto_region 43 with (go_at_call 185; refine hcall.mono ?_; rintro e9 w2 ⟨rfl, ⟨D2, hM0, hW20⟩, hb2⟩)
                  have hX2 := Lib.hid (Bq.trans hX1.out hb2)
                  have hM := Lib.hid hM0
                  have hW2 := Lib.hid hW20
                  clear hcall hb2 hX1 hW1 hM0 hW20
                  by_cases u1 : mid < e
                  · have u1' : (mid : Int) < (e : Int) := by omega
                    by_cases u2 : e < b
                    · have u2' : (e : Int) < (b : Int) := by omega
                      have hcall := HI2.out _ _ hM.out hX2.out hW2.out u1 u2
                      go_wp2_with (go_at_call 185; refine hcall.mono ?_; rintro e9 w3 ⟨rfl, ⟨D3, hN, hW3⟩, hb3⟩)
                      exact bodyPost_end (v := .tuple #[]) (by simp [results, Tryz.results185, go_sem]) rfl ⟨rfl, ⟨_, HJ.out _ _ hM.out hN, hW3⟩, Bq.trans hX2.out hb3⟩
                    · have u2' : ¬ (e : Int) < (b : Int) := by omega
                      have hN := HS2.out _ hM.out (fun q => u2 q.2)
                      go_wp2_with fail
                      exact bodyPost_end (v := .tuple #[]) (by simp [results, Tryz.results185, go_sem]) rfl ⟨rfl, ⟨_, HJ.out _ _ hM.out hN, hW2.out⟩, hX2.out⟩
                  · have u1' : ¬ (mid : Int) < (e : Int) := by omega
                    have hN := Lib.hid (HS2.out _ hM.out (fun q => u1 q.1))
                    go_wp2_with fail
                    exact bodyPost_end (v := .tuple #[]) (by simp [results, Tryz.results185, go_sem]) rfl ⟨rfl, ⟨_, HJ.out _ _ hM.out hN.out, hW2.out⟩, hX2.out⟩
                · have s2' : ¬ (i : Int) < (mid : Int) := by omega
                  have hM := Lib.hid (HS1.out (fun q => s2 q.2))
                  have hW2 := hW1
                  have hX2 := hX1
                  clear hX1 hW1
                  go_upto_region 43 with fail
                  by_cases u1 : mid < e
                  · have u1' : (mid : Int) < (e : Int) := by omega
                    by_cases u2 : e < b
                    · have u2' : (e : Int) < (b : Int) := by omega
                      have hcall := HI2.out _ _ hM.out hX2.out hW2.out u1 u2
                      go_wp2_with (go_at_call 185; refine hcall.mono ?_; rintro e9 w3 ⟨rfl, ⟨D3, hN, hW3⟩, hb3⟩)
                      exact bodyPost_end (v := .tuple #[]) (by simp [results, Tryz.results185, go_sem]) rfl ⟨rfl, ⟨_, HJ.out _ _ hM.out hN, hW3⟩, Bq.trans hX2.out hb3⟩
                    · have u2' : ¬ (e : Int) < (b : Int) := by omega
                      have hN := HS2.out _ hM.out (fun q => u2 q.2)
                      go_wp2_with fail
                      exact bodyPost_end (v := .tuple #[]) (by simp [results, Tryz.results185, go_sem]) rfl ⟨rfl, ⟨_, HJ.out _ _ hM.out hN, hW2.out⟩, hX2.out⟩
                  · have u1' : ¬ (mid : Int) < (e : Int) := by omega
                    have hN := Lib.hid (HS2.out _ hM.out (fun q => u1 q.1))
                    go_wp2_with fail
                    exact bodyPost_end (v := .tuple #[]) (by simp [results, Tryz.results185, go_sem]) rfl ⟨rfl, ⟨_, HJ.out _ _ hM.out hN.out, hW2.out⟩, hX2.out⟩
              · have s1' : ¬ (a : Int) < (i : Int) := by omega
                have hM := Lib.hid (HS1.out (fun q => s1 q.1))
                have hW2 := hW1
                have hX2 := hX1
                clear hX1 hW1
                go_upto_region 43 with fail
                by_cases u1 : mid < e
                · have u1' : (mid : Int) < (e : Int) := by omega
                  by_cases u2 : e < b
                  · have u2' : (e : Int) < (b : Int) := by omega
                    have hcall := HI2.out _ _ hM.out hX2.out hW2.out u1 u2
                    go_wp2_with (go_at_call 185; refine hcall.mono ?_; rintro e9 w3 ⟨rfl, ⟨D3, hN, hW3⟩, hb3⟩)
                    exact bodyPost_end (v := .tuple #[]) (by simp [results, Tryz.results185, go_sem]) rfl ⟨rfl, ⟨_, HJ.out _ _ hM.out hN, hW3⟩, Bq.trans hX2.out hb3⟩
                  · have u2' : ¬ (e : Int) < (b : Int) := by omega
                    have hN := HS2.out _ hM.out (fun q => u2 q.2)
                    go_wp2_with fail
                    exact bodyPost_end (v := .tuple #[]) (by simp [results, Tryz.results185, go_sem]) rfl ⟨rfl, ⟨_, HJ.out _ _ hM.out hN, hW2.out⟩, hX2.out⟩
                · have u1' : ¬ (mid : Int) < (e : Int) := by omega
                  have hN := Lib.hid (HS2.out _ hM.out (fun q => u1 q.1))
                  go_wp2_with fail
                  exact bodyPost_end (v := .tuple #[]) (by simp [results, Tryz.results185, go_sem]) rfl ⟨rfl, ⟨_, HJ.out _ _ hM.out hN.out, hW2.out⟩, hX2.out⟩
          · have r1' : ¬ (i : Int) < (m : Int) := by omega
            have hW1 := Lib.hid (HRN.out (Or.inl (by have := HE.out.im; omega)))
            have hX1 := HX
            go_upto_region 41 with fail
            by_cases s1 : a < i
            · have s1' : (a : Int) < (i : Int) := by omega
              by_cases s2 : i < mid
              · have s2' : (i : Int) < (mid : Int) := by omega
                have hcall := HI1.out _ hX1.out hW1.out s1 s2
                go_upto_region 43 with (go_at_call 185; refine hcall.mono ?_; rintro e9 w2 ⟨rfl, ⟨D2, hM0, hW20⟩, hb2⟩)
                have hX2 := Lib.hid (Bq.trans hX1.out hb2)
                have hM := Lib.hid hM0
                have hW2 := Lib.hid hW20
                clear hcall hb2 hX1 hW1 hM0 hW20
                by_cases u1 : mid < e
                · have u1' : (mid : Int) < (e : Int) := by omega
                  by_cases u2 : e < b
                  · have u2' : (e : Int) < (b : Int) := by omega
                    have hcall := HI2.out _ _ hM.out hX2.out hW2.out u1 u2
                    go_wp2_with (go_at_call 185; refine hcall.mono ?_; rintro e9 w3 ⟨rfl, ⟨D3, hN, hW3⟩, hb3⟩)
                    exact bodyPost_end (v := .tuple #[]) (by simp [results, Tryz.results185, go_sem]) rfl ⟨rfl, ⟨_, HJ.out _ _ hM.out hN, hW3⟩, Bq.trans hX2.out hb3⟩
                  · have u2' : ¬ (e : Int) < (b : Int) := by omega
                    have hN := HS2.out _ hM.out (fun q => u2 q.2)
                    go_wp2_with fail
                    exact bodyPost_end (v := .tuple #[]) (by simp [results, Tryz.results185, go_sem]) rfl ⟨rfl, ⟨_, HJ.out _ _ hM.out hN, hW2.out⟩, hX2.out⟩
                · have u1' : ¬ (mid : Int) < (e : Int) := by omega
                  have hN := Lib.hid (HS2.out _ hM.out (fun q => u1 q.1))
                  go_wp2_with fail
                  exact bodyPost_end (v := .tuple #[]) (by simp [results, Tryz.results185, go_sem]) rfl ⟨rfl, ⟨_, HJ.out _ _ hM.out hN.out, hW2.out⟩, hX2.out⟩
              · have s2' : ¬ (i : Int) < (mid : Int) := by omega
                have hM := Lib.hid (HS1.out (fun q => s2 q.2))
                have hW2 := hW1
                have hX2 := hX1
                clear hX1 hW1
                go_upto_region 43 with fail
                by_cases u1 : mid < e
                · have u1' : (mid : Int) < (e : Int) := by omega
                  by_cases u2 : e < b
                  · have u2' : (e : Int) < (b : Int) := by omega
                    have hcall := HI2.out _ _ hM.out hX2.out hW2.out u1 u2
                    go_wp2_with (go_at_call 185; refine hcall.mono ?_; rintro e9 w3 ⟨rfl, ⟨D3, hN, hW3⟩, hb3⟩)
                    exact bodyPost_end (v := .tuple #[]) (by simp [results, Tryz.results185, go_sem]) rfl ⟨rfl, ⟨_, HJ.out _ _ hM.out hN, hW3⟩, Bq.trans hX2.out hb3⟩
                  · have u2' : ¬ (e : Int) < (b : Int) := by omega
                    have hN := HS2.out _ hM.out (fun q => u2 q.2)
                    go_wp2_with fail
                    exact bodyPost_end (v := .tuple #[]) (by simp [results, Tryz.results185, go_sem]) rfl ⟨rfl, ⟨_, HJ.out _ _ hM.out hN, hW2.out⟩, hX2.out⟩
                · have u1' : ¬ (mid : Int) < (e : Int) := by omega
                  have hN := Lib.hid (HS2.out _ hM.out (fun q => u1 q.1))
                  go_wp2_with fail
                  exact bodyPost_end (v := .tuple #[]) (by simp [results, Tryz.results185, go_sem]) rfl ⟨rfl, ⟨_, HJ.out _ _ hM.out hN.out, hW2.out⟩, hX2.out⟩
            · have s1' : ¬ (a : Int) < (i : Int) := by omega
              have hM := Lib.hid (HS1.out (fun q => s1 q.1))
              have hW2 := hW1
              have hX2 := hX1
              clear hX1 hW1
              go_upto_region 43 with fail
              by_cases u1 : mid < e
              · have u1' : (mid : Int) < (e : Int) := by omega
                by_cases u2 : e < b
                · have u2' : (e : Int) < (b : Int) := by omega
                  have hcall := HI2.out _ _ hM.out hX2.out hW2.out u1 u2
                  go_wp2_with (go_at_call 185; refine hcall.mono ?_; rintro e9 w3 ⟨rfl, ⟨D3, hN, hW3⟩, hb3⟩)
                  exact bodyPost_end (v := .tuple #[]) (by simp [results, Tryz.results185, go_sem]) rfl ⟨rfl, ⟨_, HJ.out _ _ hM.out hN, hW3⟩, Bq.trans hX2.out hb3⟩
                · have u2' : ¬ (e : Int) < (b : Int) := by omega
                  have hN := HS2.out _ hM.out (fun q => u2 q.2)
                  go_wp2_with fail
                  exact bodyPost_end (v := .tuple #[]) (by simp [results, Tryz.results185, go_sem]) rfl ⟨rfl, ⟨_, HJ.out _ _ hM.out hN, hW2.out⟩, hX2.out⟩
              · have u1' : ¬ (mid : Int) < (e : Int) := by omega
                have hN := Lib.hid (HS2.out _ hM.out (fun q => u1 q.1))
                go_wp2_with fail
                exact bodyPost_end (v := .tuple #[]) (by simp [results, Tryz.results185, go_sem]) rfl ⟨rfl, ⟨_, HJ.out _ _ hM.out hN.out, hW2.out⟩, hX2.out⟩
    · have hmm' : ¬ (mid : Int) < (m : Int) := by omega
      have HS := Lib.hid (HS0.out a m (Or.inr ⟨Nat.le_of_not_lt hmm, rfl, rfl⟩))
      have hm0 : m < b := hmb
      have hm1 : m < N := by omega
      go_wp2_with fail
      clear e0 e1 e2 e3 e4 e5 w1 w2 w3 w4 w5 hmm hmm' hbN hamm hmb hs hnn
      go_loopw [20, 21] (fun s t wr => ∃ i j : Nat, a ≤ i ∧ i ≤ j ∧ j ≤ m ∧ s = .int .i64 (i : Int) ∧ t = .int .i64 (j : Int) ∧ Hid (i = a ∨ ∃ u v, D[nn - i]? = some u ∧ D[i - 1]? = some v ∧ lt u v = false) ∧ Hid (j = m ∨ ∃ u v, D[nn - 1 - j]? = some u ∧ D[j]? = some v ∧ lt u v = true) ∧ Hid (Wr g base wr (some ⟨bl, off, none⟩) cap D) ∧ Bq base w wr) (fun s t _ => (intOf t - intOf s).toNat)
      case atStart => exact ⟨a, m, Nat.le_refl _, HS.out.lohi, Nat.le_refl _, rfl, rfl, Or.inl rfl, Or.inl rfl, HIN.out.wr, Bq.refl _ _⟩
      case round =>
        obtain ⟨i, j, h1, h2, h3, rfl, rfl, H1, H2, hW, hX⟩ := hrel
        by_cases hij : i < j
        · obtain ⟨hh, q, ⟨w1, w2, w3, w4, w5⟩, ep, hw5, ⟨g1, g2, g3, g4, g5, g6⟩, hN1, hN2, g7, g8⟩ := srch_round HS.out h1 hij h3
          rw [HPP.out] at ep
          have hij' : (i : Int) < (j : Int) := by omega
          rename_i K0 hK0
          have HK0 := Lib.hid hK0
          clear hK0
          obtain ⟨u, hu⟩ : ∃ u, D[q]? = some u := ⟨_, List.getElem?_eq_getElem (by rw [HIN.out.len]; exact hN2)⟩
          obtain ⟨v, hv⟩ : ∃ u, D[hh]? = some u := ⟨_, List.getElem?_eq_getElem (by rw [HIN.out.len]; exact hN1)⟩
          have huM : u < M := HIN.out.lim u (seg_mem hu g5 g6)
          have hvM : v < M := HIN.out.lim v (seg_mem hv g3 g4)
          obtain ⟨bl', off', e, _, ⟨cu, cu'⟩, fu, fu'⟩ := Wr.at hW.out hu
          simp only [Option.some.injEq, Addr.mk.injEq, and_true] at e
          obtain ⟨rfl, rfl⟩ := e
          obtain ⟨bl', off', e, _, ⟨cv, cv'⟩, fv, fv'⟩ := Wr.at hW.out hv
          simp only [Option.some.injEq, Addr.mk.injEq, and_true] at e
          obtain ⟨rfl, rfl⟩ := e
          have hcall := fun (W : World) (hW : Ext wr W) => HC.out.run u v W huM hvM (below_ext hX HBW.out hW)
          have hb2 : bl < wr.heap.size := lt_of_cell cu
          have HX := Lib.hid hX
          have HU := Lib.hid (And.intro hu (And.intro hv (And.intro g7 (And.intro g8 (And.intro h1 (And.intro h3 (And.intro g1 g2)))))))
          clear hu hv g1 g2 g3 g4 g5 g6 g7 g8 huM hvM hX h1 h2 h3 hij
          go_upto_region 35 with fail
          cases hlx : lt u v with
          | false =>
            rw [hlx] at hcall
            have H1' : Hid (hh + 1 = a ∨ ∃ u v, D[nn - (hh + 1)]? = some u ∧ D[hh + 1 - 1]? = some v ∧ lt u v = false) := Or.inr ⟨u, v, by rw [HU.out.2.2.1]; exact HU.out.1, HU.out.2.1, hlx⟩
            clear hlx H1
            refine wp_plan (S := Ext _) [(0, 0), (1, 0), (2, 0), (3, 0), (4, 0), (5, 0), (6, 0), (7, 0), (8, 0), (9, 0), (10, 0), (11, 1), (12, 0), (13, 0)] [] (by kernel_rfl) (by kernel_rfl) (by kernel_rfl) (fun _ _ d _ _ h => by cases d <;> exact h) (Ext.drew (Ext.refl _)) ?_
            iterate 11 ((refine wpPl_read (v := ?_) rfl ?_ (fun _ h => ?_) ?_; rotate_left 1; rfl; (obtain ⟨_, _, rfl⟩ := h.more; go_simp; try rfl)); try simp only [Act.put, zqA, zqB, zqC])
            (refine wpPl_eff rfl ?_ (fun K hK => ?_); rfl; go_simp; refine (hcall _ (by with_reducible repeat (first | exact Ext.refl _ | apply Ext.drew | apply Ext.alloc | apply Ext.more_))).mono ?_; rintro e w' ⟨c, rfl, hlc, hb⟩; obtain ⟨os1, d1, rfl⟩ := hb.more; clear hb; refine hK _ _ ?_ ?_; (repeat (first | (with_reducible (first | exact Ext.refl _ | exact ext_d _ _ _ _ | exact ext_app _ _ _ _ _ | exact ext_app2 _ _ _ _ _ _ | exact ext_app3 _ _ _ _ _ _ _ | exact ext_app4 _ _ _ _ _ _ _ _ | exact ext_app5 _ _ _ _ _ _ _ _ _)) | ((with_reducible refine ext_suffix ⟨_, ?_⟩); (try simp only [Array.append_assoc]); rfl) | (with_reducible (first | apply Ext.drew | apply Ext.alloc | apply Ext.more_)) | apply Ext.drew | apply Ext.alloc | apply Ext.more_)))
            try simp only [Act.put, zqA, zqB, zqC]
            iterate 2 ((refine wpPl_read (v := ?_) rfl ?_ (fun _ h => ?_) ?_; rotate_left 1; rfl; (obtain ⟨_, _, rfl⟩ := h.more; go_simp; try rfl)); try simp only [Act.put, zqA, zqB, zqC])
            refine wpPl_nil ?_
            go_wp2_with fail
            obtain ⟨_, _, _, _, h1, h3, g1, g2⟩ := HU.out
            exact ⟨⟨hh + 1, j, by omega, by omega, h3, by go_num, rfl, H1', H2, hW.out.of_ext (by with_reducible repeat (first | exact Ext.refl _ | apply Ext.drew | apply Ext.alloc | apply Ext.more_)), below_ext HX.out HBW.out (by with_reducible repeat (first | exact Ext.refl _ | apply Ext.drew | apply Ext.alloc | apply Ext.more_))⟩, by simp [intOf]; omega⟩
          | true =>
            rw [hlx] at hcall
            have H2' : Hid (hh = m ∨ ∃ u v, D[nn - 1 - hh]? = some u ∧ D[hh]? = some v ∧ lt u v = true) := Or.inr ⟨u, v, by rw [HU.out.2.2.2.1]; exact HU.out.1, HU.out.2.1, hlx⟩
            clear hlx H2
            refine wp_plan (S := Ext _) [(0, 0), (1, 0), (2, 0), (3, 0), (4, 0), (5, 0), (6, 0), (7, 0), (8, 0), (9, 0), (10, 0), (11, 1), (12, 0), (13, 0)] [] (by kernel_rfl) (by kernel_rfl) (by kernel_rfl) (fun _ _ d _ _ h => by cases d <;> exact h) (Ext.drew (Ext.refl _)) ?_
            iterate 11 ((refine wpPl_read (v := ?_) rfl ?_ (fun _ h => ?_) ?_; rotate_left 1; rfl; (obtain ⟨_, _, rfl⟩ := h.more; go_simp; try rfl)); try simp only [Act.put, zqA, zqB, zqC])
            (refine wpPl_eff rfl ?_ (fun K hK => ?_); rfl; go_simp; refine (hcall _ (by with_reducible repeat (first | exact Ext.refl _ | apply Ext.drew | apply Ext.alloc | apply Ext.more_))).mono ?_; rintro e w' ⟨c, rfl, hlc, hb⟩; obtain ⟨os1, d1, rfl⟩ := hb.more; clear hb; refine hK _ _ ?_ ?_; (repeat (first | (with_reducible (first | exact Ext.refl _ | exact ext_d _ _ _ _ | exact ext_app _ _ _ _ _ | exact ext_app2 _ _ _ _ _ _ | exact ext_app3 _ _ _ _ _ _ _ | exact ext_app4 _ _ _ _ _ _ _ _ | exact ext_app5 _ _ _ _ _ _ _ _ _)) | ((with_reducible refine ext_suffix ⟨_, ?_⟩); (try simp only [Array.append_assoc]); rfl) | (with_reducible (first | apply Ext.drew | apply Ext.alloc | apply Ext.more_)) | apply Ext.drew | apply Ext.alloc | apply Ext.more_)))
            try simp only [Act.put, zqA, zqB, zqC]
            iterate 2 ((refine wpPl_read (v := ?_) rfl ?_ (fun _ h => ?_) ?_; rotate_left 1; rfl; (obtain ⟨_, _, rfl⟩ := h.more; go_simp; try rfl)); try simp only [Act.put, zqA, zqB, zqC])
            refine wpPl_nil ?_
            go_wp2_with fail
            obtain ⟨_, _, _, _, h1, h3, g1, g2⟩ := HU.out
            exact ⟨⟨i, hh, h1, g1, by omega, rfl, rfl, H1, H2', hW.out.of_ext (by with_reducible repeat (first | exact Ext.refl _ | apply Ext.drew | apply Ext.alloc | apply Ext.more_)), below_ext HX.out HBW.out (by with_reducible repeat (first | exact Ext.refl _ | apply Ext.drew | apply Ext.alloc | apply Ext.more_))⟩, by simp [intOf]; omega⟩
        · obtain rfl : i = j := by omega
          have hij' : ¬ (i : Int) < (i : Int) := Int.lt_irrefl _
          have hE := srch_ends HS.out h1 h3
          have HT := Lib.hid (srch_turned HSW.out HIN.out HS.out h1 h3 H1.out H2.out)
          obtain ⟨e, he⟩ : ∃ e, nn - i = e := ⟨_, rfl⟩
          rw [he] at hE HT
          obtain ⟨D1, hD1⟩ : ∃ D1, D.take i ++ (seg D m e ++ (seg D i m ++ D.drop e)) = D1 := ⟨_, rfl⟩
          rw [hD1] at HT
          have ee := hE.ei
          have HE := Lib.hid hE
          have HR1 : Hid (i < m → m < e → Calls Tryz.prog 208 #[.slice (some ⟨bl, off, none⟩) N cap, .int .i64 (i : Int), .int .i64 (m : Int), .int .i64 (e : Int), .func (.func cl) #[] capt] wr fun e9 w' => e9 = .returned (.tuple #[]) ∧ Wr g base w' (some ⟨bl, off, none⟩) cap D1 ∧ Bq base wr w') := fun q1 q2 => rot_of _ HE.out HIN.out.len hD1 hW.out q1 q2
          have HRN : Hid ((i = m ∨ m = e) → Wr g base wr (some ⟨bl, off, none⟩) cap D1) := fun q => by rw [← hD1, turn_none HE.out.im HE.out.me q]; exact hW.out
          have HX := Lib.hid hX
          have HI1 : Hid (∀ W, Bq base w W → Wr g base W (some ⟨bl, off, none⟩) cap D1 → a < i → i < mid → Calls Tryz.prog 185 #[.slice (some ⟨bl, off, none⟩) N cap, .int .i64 (a : Int), .int .i64 (i : Int), .int .i64 (mid : Int), .func (.func cl) #[] capt] W fun e9 w' => e9 = .returned (.tuple #[]) ∧ (∃ D', Mrg lt a mid D1 D' ∧ Wr g base w' (some ⟨bl, off, none⟩) cap D') ∧ Bq base W w') := fun W hx hw q1 q2 => HIH.out a i mid D1 W (by have := HK.out; have := HE.out.midb; omega) (MrgIn.part1 HIN.out HT.out hx hw q1 q2 (Nat.le_of_lt HE.out.midb))
          have HI2 : Hid (∀ D2 W, Mrg lt a mid D1 D2 → Bq base w W → Wr g base W (some ⟨bl, off, none⟩) cap D2 → mid < e → e < b → Calls Tryz.prog 185 #[.slice (some ⟨bl, off, none⟩) N cap, .int .i64 (mid : Int), .int .i64 (e : Int), .int .i64 (b : Int), .func (.func cl) #[] capt] W fun e9 w' => e9 = .returned (.tuple #[]) ∧ (∃ D', Mrg lt mid b D2 D' ∧ Wr g base w' (some ⟨bl, off, none⟩) cap D') ∧ Bq base W w') := fun D2 W hm hx hw q1 q2 => HIH.out mid e b D2 W (by have := HK.out; have := HE.out.amid; omega) (MrgIn.part2 HIN.out HT.out hm hx hw q1 q2 (Nat.le_of_lt HE.out.amid))
          have HS1 : Hid (¬ (a < i ∧ i < mid) → Mrg lt a mid D1 D1) := fun q => by
            refine Mrg.of_sorted ?_
            have k1 := HE.out.ai
            have k5 := HE.out.imid
            by_cases q1 : i = a
            · have := HT.out.p2; rw [q1] at this; exact this
            · have q2 : i = mid := by omega
              have := HT.out.p1; rw [q2] at this; exact this
          have HS2 : Hid (∀ D2, Mrg lt a mid D1 D2 → ¬ (mid < e ∧ e < b) → Mrg lt mid b D2 D2) := fun D2 hm q => by
            refine Mrg.of_sorted ?_
            have k1 := HE.out.mide
            have k5 := HE.out.eb
            rw [hm.part.seg_hi (Nat.le_refl _)]
            by_cases q1 : e = mid
            · have := HT.out.p4; rw [q1] at this; exact this
            · have q2 : e = b := by omega
              have := HT.out.p3; rw [q2] at this; exact this
          have HJ : Hid (∀ D2 D3, Mrg lt a mid D1 D2 → Mrg lt mid b D2 D3 → Mrg lt a b D D3) := fun D2 D3 m1 m2 => merge_join (Nat.le_of_lt HE.out.amid) (Nat.le_of_lt HE.out.midb) HT.out.part HT.out.perm HT.out.cross m1 m2
          clear H1 H2 hX HT hD1 HIH HIN he HC hE h1 h2 h3 hij HS HS0 HPP HN0 HBW HSW HK HLN hcap hblk hm0 hm1
          clear hW
          by_cases r1 : i < m
          · have r1' : (i : Int) < (m : Int) := by omega
            by_cases r2 : m < e
            · have r2' : (m : Int) < (e : Int) := by omega
              have hcall := HR1.out r1 r2
              go_upto_region 41 with (go_at_call 208; refine hcall.mono ?_; rintro e9 w1 ⟨rfl, hW10, hb1⟩)
              have hX1 := Lib.hid (Bq.trans HX.out hb1)
              have hW1 := Lib.hid hW10
              clear hcall hb1 hW10
              by_cases s1 : a < i
              · have s1' : (a : Int) < (i : Int) := by omega
                by_cases s2 : i < mid
                · have s2' : (i : Int) < (mid : Int) := by omega
                  have hcall := HI1.out _ hX1.out hW1.out s1 s2
                  go_upto_region 43 with (go_at_call 185; refine hcall.mono ?_; rintro e9 w2 ⟨rfl, ⟨D2, hM0, hW20⟩, hb2⟩)
                  have hX2 := Lib.hid (Bq.trans hX1.out hb2)
                  have hM := Lib.hid hM0
                  have hW2 := Lib.hid hW20
                  clear hcall hb2 hX1 hW1 hM0 hW20
                  by_cases u1 : mid < e
                  · have u1' : (mid : Int) < (e : Int) := by omega
                    by_cases u2 : e < b
                    · have u2' : (e : Int) < (b : Int) := by omega
                      have hcall := HI2.out _ _ hM.out hX2.out hW2.out u1 u2
                      go_wp2_with (go_at_call 185; refine hcall.mono ?_; rintro e9 w3 ⟨rfl, ⟨D3, hN, hW3⟩, hb3⟩)
                      exact bodyPost_end (v := .tuple #[]) (by simp [results, Tryz.results185, go_sem]) rfl ⟨rfl, ⟨_, HJ.out _ _ hM.out hN, hW3⟩, Bq.trans hX2.out hb3⟩
                    · have u2' : ¬ (e : Int) < (b : Int) := by omega
                      have hN := HS2.out _ hM.out (fun q => u2 q.2)
                      go_wp2_with fail
                      exact bodyPost_end (v := .tuple #[]) (by simp [results, Tryz.results185, go_sem]) rfl ⟨rfl, ⟨_, HJ.out _ _ hM.out hN, hW2.out⟩, hX2.out⟩
                  · have u1' : ¬ (mid : Int) < (e : Int) := by omega
                    have hN := Lib.hid (HS2.out _ hM.out (fun q => u1 q.1))
                    go_wp2_with fail
                    exact bodyPost_end (v := .tuple #[]) (by simp [results, Tryz.results185, go_sem]) rfl ⟨rfl, ⟨_, HJ.out _ _ hM.out hN.out, hW2.out⟩, hX2.out⟩
                · have s2' : ¬ (i : Int) < (mid : Int) := by omega
                  have hM := Lib.hid (HS1.out (fun q => s2 q.2))
                  have hW2 := hW1
                  have hX2 := hX1
                  clear hX1 hW1
                  go_upto_region 43 with fail
                  by_cases u1 : mid < e
                  · have u1' : (mid : Int) < (e : Int) := by omega
                    by_cases u2 : e < b
                    · have u2' : (e : Int) < (b : Int) := by omega
                      have hcall := HI2.out _ _ hM.out hX2.out hW2.out u1 u2
                      go_wp2_with (go_at_call 185; refine hcall.mono ?_; rintro e9 w3 ⟨rfl, ⟨D3, hN, hW3⟩, hb3⟩)
                      exact bodyPost_end (v := .tuple #[]) (by simp [results, Tryz.results185, go_sem]) rfl ⟨rfl, ⟨_, HJ.out _ _ hM.out hN, hW3⟩, Bq.trans hX2.out hb3⟩
                    · have u2' : ¬ (e : Int) < (b : Int) := by omega
                      have hN := HS2.out _ hM.out (fun q => u2 q.2)
                      go_wp2_with fail
                      exact bodyPost_end (v := .tuple #[]) (by simp [results, Tryz.results185, go_sem]) rfl ⟨rfl, ⟨_, HJ.out _ _ hM.out hN, hW2.out⟩, hX2.out⟩
                  · have u1' : ¬ (mid : Int) < (e : Int) := by omega
                    have hN := Lib.hid (HS2.out _ hM.out (fun q => u1 q.1))
                    go_wp2_with fail
                    exact bodyPost_end (v := .tuple #[]) (by simp [results, Tryz.results185, go_sem]) rfl ⟨rfl, ⟨_, HJ.out _ _ hM.out hN.out, hW2.out⟩, hX2.out⟩
              · have s1' : ¬ (a : Int) < (i : Int) := by omega
                have hM := Lib.hid (HS1.out (fun q => s1 q.1))
                have hW2 := hW1
                have hX2 := hX1
                clear hX1 hW1
                go_upto_region 43 with fail
                by_cases u1 : mid < e
                · have u1' : (mid : Int) < (e : Int) := by omega
                  by_cases u2 : e < b
                  · have u2' : (e : Int) < (b : Int) := by omega
                    have hcall := HI2.out _ _ hM.out hX2.out hW2.out u1 u2
                    go_wp2_with (go_at_call 185; refine hcall.mono ?_; rintro e9 w3 ⟨rfl, ⟨D3, hN, hW3⟩, hb3⟩)
                    exact bodyPost_end (v := .tuple #[]) (by simp [results, Tryz.results185, go_sem]) rfl ⟨rfl, ⟨_, HJ.out _ _ hM.out hN, hW3⟩, Bq.trans hX2.out hb3⟩
                  · have u2' : ¬ (e : Int) < (b : Int) := by omega
                    have hN := HS2.out _ hM.out (fun q => u2 q.2)
                    go_wp2_with fail
                    exact bodyPost_end (v := .tuple #[]) (by simp [results, Tryz.results185, go_sem]) rfl ⟨rfl, ⟨_, HJ.out _ _ hM.out hN, hW2.out⟩, hX2.out⟩
                · have u1' : ¬ (mid : Int) < (e : Int) := by omega
                  have hN := Lib.hid (HS2.out _ hM.out (fun q => u1 q.1))
                  go_wp2_with fail
                  exact bodyPost_end (v := .tuple #[]) (by simp [results, Tryz.results185, go_sem]) rfl ⟨rfl, ⟨_, HJ.out _ _ hM.out hN.out, hW2.out⟩, hX2.out⟩
            · have r2' : ¬ (m : Int) < (e : Int) := by omega
              have hW1 := Lib.hid (HRN.out (Or.inr (by have := HE.out.me; omega)))
              have hX1 := HX
              go_upto_region 41 with fail
              by_cases s1 : a < i
              · have s1' : (a : Int) < (i : Int) := by omega
                by_cases s2 : i < mid
                · have s2' : (i : Int) < (mid : Int) := by omega
                  have hcall := HI1.out _ hX1.out hW1.out s1 s2
                  go_upto_region 43 with (go_at_call 185; refine hcall.mono ?_; rintro e9 w2 ⟨rfl, ⟨D2, hM0, hW20⟩, hb2⟩)
                  have hX2 := Lib.hid (Bq.trans hX1.out hb2)
                  have hM := Lib.hid hM0
                  have hW2 := Lib.hid hW20
                  clear hcall hb2 hX1 hW1 hM0 hW20
                  by_cases u1 : mid < e
                  · have u1' : (mid : Int) < (e : Int) := by omega
                    by_cases u2 : e < b
                    · have u2' : (e : Int) < (b : Int) := by omega
                      have hcall := HI2.out _ _ hM.out hX2.out hW2.out u1 u2
                      go_wp2_with (go_at_call 185; refine hcall.mono ?_; rintro e9 w3 ⟨rfl, ⟨D3, hN, hW3⟩, hb3⟩)
                      exact bodyPost_end (v := .tuple #[]) (by simp [results, Tryz.results185, go_sem]) rfl ⟨rfl, ⟨_, HJ.out _ _ hM.out hN, hW3⟩, Bq.trans hX2.out hb3⟩
                    · have u2' : ¬ (e : Int) < (b : Int) := by omega
                      have hN := HS2.out _ hM.out (fun q => u2 q.2)
                      go_wp2_with fail
                      exact bodyPost_end (v := .tuple #[]) (by simp [results, Tryz.results185, go_sem]) rfl ⟨rfl, ⟨_, HJ.out _ _ hM.out hN, hW2.out⟩, hX2.out⟩
                  · have u1' : ¬ (mid : Int) < (e : Int) := by omega
                    have hN := Lib.hid (HS2.out _ hM.out (fun q => u1 q.1))
                    go_wp2_with fail
                    exact bodyPost_end (v := .tuple #[]) (by simp [results, Tryz.results185, go_sem]) rfl ⟨rfl, ⟨_, HJ.out _ _ hM.out hN.out, hW2.out⟩, hX2.out⟩
                · have s2' : ¬ (i : Int) < (mid : Int) := by omega
                  have hM := Lib.hid (HS1.out (fun q => s2 q.2))
                  have hW2 := hW1
                  have hX2 := hX1
                  clear hX1 hW1
                  go_upto_region 43 with fail
                  by_cases u1 : mid < e
                  · have u1' : (mid : Int) < (e : Int) := by omega
                    by_cases u2 : e < b
                    · have u2' : (e : Int) < (b : Int) := by omega
                      have hcall := HI2.out _ _ hM.out hX2.out hW2.out u1 u2
                      go_wp2_with (go_at_call 185; refine hcall.mono ?_; rintro e9 w3 ⟨rfl, ⟨D3, hN, hW3⟩, hb3⟩)
                      exact bodyPost_end (v := .tuple #[]) (by simp [results, Tryz.results185, go_sem]) rfl ⟨rfl, ⟨_, HJ.out _ _ hM.out hN, hW3⟩, Bq.trans hX2.out hb3⟩
                    · have u2' : ¬ (e : Int) < (b : Int) := by omega
                      have hN := HS2.out _ hM.out (fun q => u2 q.2)
                      go_wp2_with fail
                      exact bodyPost_end (v := .tuple #[]) (by simp [results, Tryz.results185, go_sem]) rfl ⟨rfl, ⟨_, HJ.out _ _ hM.out hN, hW2.out⟩, hX2.out⟩
                  · have u1' : ¬ (mid : Int) < (e : Int) := by omega
                    have hN := Lib.hid (HS2.out _ hM.out (fun q => u1 q.1))
                    go_wp2_with fail
                    exact bodyPost_end (v := .tuple #[]) (by simp [results, Tryz.results185, go_sem]) rfl ⟨rfl, ⟨_, HJ.out _ _ hM.out hN.out, hW2.out⟩, hX2.out⟩
              · have s1' : ¬ (a : Int) < (i : Int) := by omega
                have hM := Lib.hid (HS1.out (fun q => s1 q.1))
                have hW2 := hW1
                have hX2 := hX1
                clear hX1 hW1
                go_upto_region 43 with fail
                by_cases u1 : mid < e
                · have u1' : (mid : Int) < (e : Int) := by omega
                  by_cases u2 : e < b
                  · have u2' : (e : Int) < (b : Int) := by omega
                    have hcall := HI2.out _ _ hM.out hX2.out hW2.out u1 u2
                    go_wp2_with (go_at_call 185; refine hcall.mono ?_; rintro e9 w3 ⟨rfl, ⟨D3, hN, hW3⟩, hb3⟩)
                    exact bodyPost_end (v := .tuple #[]) (by simp [results, Tryz.results185, go_sem]) rfl ⟨rfl, ⟨_, HJ.out _ _ hM.out hN, hW3⟩, Bq.trans hX2.out hb3⟩
                  · have u2' : ¬ (e : Int) < (b : Int) := by omega
                    have hN := HS2.out _ hM.out (fun q => u2 q.2)
                    go_wp2_with fail
                    exact bodyPost_end (v := .tuple #[]) (by simp [results, Tryz.results185, go_sem]) rfl ⟨rfl, ⟨_, HJ.out _ _ hM.out hN, hW2.out⟩, hX2.out⟩
                · have u1' : ¬ (mid : Int) < (e : Int) := by omega
                  have hN := Lib.hid (HS2.out _ hM.out (fun q => u1 q.1))
                  go_wp2_with fail
                  exact bodyPost_end (v := .tuple #[]) (by simp [results, Tryz.results185, go_sem]) rfl ⟨rfl, ⟨_, HJ.out _ _ hM.out hN.out, hW2.out⟩, hX2.out⟩
          · have r1' : ¬ (i : Int) < (m : Int) := by omega
            have hW1 := Lib.hid (HRN.out (Or.inl (by have := HE.out.im; omega)))
            have hX1 := HX
            go_upto_region 41 with fail
            by_cases s1 : a < i
            · have s1' : (a : Int) < (i : Int) := by omega
              by_cases s2 : i < mid
              · have s2' : (i : Int) < (mid : Int) := by omega
                have hcall := HI1.out _ hX1.out hW1.out s1 s2
                go_upto_region 43 with (go_at_call 185; refine hcall.mono ?_; rintro e9 w2 ⟨rfl, ⟨D2, hM0, hW20⟩, hb2⟩)
                have hX2 := Lib.hid (Bq.trans hX1.out hb2)
                have hM := Lib.hid hM0
                have hW2 := Lib.hid hW20
                clear hcall hb2 hX1 hW1 hM0 hW20
                by_cases u1 : mid < e
                · have u1' : (mid : Int) < (e : Int) := by omega
                  by_cases u2 : e < b
                  · have u2' : (e : Int) < (b : Int) := by omega
                    have hcall := HI2.out _ _ hM.out hX2.out hW2.out u1 u2
                    go_wp2_with (go_at_call 185; refine hcall.mono ?_; rintro e9 w3 ⟨rfl, ⟨D3, hN, hW3⟩, hb3⟩)
                    exact bodyPost_end (v := .tuple #[]) (by simp [results, Tryz.results185, go_sem]) rfl ⟨rfl, ⟨_, HJ.out _ _ hM.out hN, hW3⟩, Bq.trans hX2.out hb3⟩
                  · have u2' : ¬ (e : Int) < (b : Int) := by omega
                    have hN := HS2.out _ hM.out (fun q => u2 q.2)
                    go_wp2_with fail
                    exact bodyPost_end (v := .tuple #[]) (by simp [results, Tryz.results185, go_sem]) rfl ⟨rfl, ⟨_, HJ.out _ _ hM.out hN, hW2.out⟩, hX2.out⟩
                · have u1' : ¬ (mid : Int) < (e : Int) := by omega
                  have hN := Lib.hid (HS2.out _ hM.out (fun q => u1 q.1))
                  go_wp2_with fail
                  exact bodyPost_end (v := .tuple #[]) (by simp [results, Tryz.results185, go_sem]) rfl ⟨rfl, ⟨_, HJ.out _ _ hM.out hN.out, hW2.out⟩, hX2.out⟩
              · have s2' : ¬ (i : Int) < (mid : Int) := by omega
                have hM := Lib.hid (HS1.out (fun q => s2 q.2))
                have hW2 := hW1
                have hX2 := hX1
                clear hX1 hW1
                go_upto_region 43 with fail
                by_cases u1 : mid < e
                · have u1' : (mid : Int) < (e : Int) := by omega
                  by_cases u2 : e < b
                  · have u2' : (e : Int) < (b : Int) := by omega
                    have hcall := HI2.out _ _ hM.out hX2.out hW2.out u1 u2
                    go_wp2_with (go_at_call 185; refine hcall.mono ?_; rintro e9 w3 ⟨rfl, ⟨D3, hN, hW3⟩, hb3⟩)
                    exact bodyPost_end (v := .tuple #[]) (by simp [results, Tryz.results185, go_sem]) rfl ⟨rfl, ⟨_, HJ.out _ _ hM.out hN, hW3⟩, Bq.trans hX2.out hb3⟩
                  · have u2' : ¬ (e : Int) < (b : Int) := by omega
                    have hN := HS2.out _ hM.out (fun q => u2 q.2)
                    go_wp2_with fail
                    exact bodyPost_end (v := .tuple #[]) (by simp [results, Tryz.results185, go_sem]) rfl ⟨rfl, ⟨_, HJ.out _ _ hM.out hN, hW2.out⟩, hX2.out⟩
                · have u1' : ¬ (mid : Int) < (e : Int) := by omega
                  have hN := Lib.hid (HS2.out _ hM.out (fun q => u1 q.1))
                  go_wp2_with fail
                  exact bodyPost_end (v := .tuple #[]) (by simp [results, Tryz.results185, go_sem]) rfl ⟨rfl, ⟨_, HJ.out _ _ hM.out hN.out, hW2.out⟩, hX2.out⟩
            · have s1' : ¬ (a : Int) < (i : Int) := by omega
              have hM := Lib.hid (HS1.out (fun q => s1 q.1))
              have hW2 := hW1
              have hX2 := hX1
              clear hX1 hW1
              go_upto_region 43 with fail
              by_cases u1 : mid < e
              · have u1' : (mid : Int) < (e : Int) := by omega
                by_cases u2 : e < b
                · have u2' : (e : Int) < (b : Int) := by omega
                  have hcall := HI2.out _ _ hM.out hX2.out hW2.out u1 u2
                  go_wp2_with (go_at_call 185; refine hcall.mono ?_; rintro e9 w3 ⟨rfl, ⟨D3, hN, hW3⟩, hb3⟩)
                  exact bodyPost_end (v := .tuple #[]) (by simp [results, Tryz.results185, go_sem]) rfl ⟨rfl, ⟨_, HJ.out _ _ hM.out hN, hW3⟩, Bq.trans hX2.out hb3⟩
                · have u2' : ¬ (e : Int) < (b : Int) := by omega
                  have hN := HS2.out _ hM.out (fun q => u2 q.2)
                  go_wp2_with fail
                  exact bodyPost_end (v := .tuple #[]) (by simp [results, Tryz.results185, go_sem]) rfl ⟨rfl, ⟨_, HJ.out _ _ hM.out hN, hW2.out⟩, hX2.out⟩
              · have u1' : ¬ (mid : Int) < (e : Int) := by omega
                have hN := Lib.hid (HS2.out _ hM.out (fun q => u1 q.1))
                go_wp2_with fail
                exact bodyPost_end (v := .tuple #[]) (by simp [results, Tryz.results185, go_sem]) rfl ⟨rfl, ⟨_, HJ.out _ _ hM.out hN.out, hW2.out⟩, hX2.out⟩
theorem symMerge_any {lt : Nat → Nat → Bool} (hlt : Swo lt) (cl : FuncId) (capt : Array Value) (M base : Nat) (A : Option Addr) (cap N : Nat) : ∀ (k a m b : Nat) (D : List Nat) (w : World), b - a ≤ k → MrgIn g lt cl capt M base A cap N a m b D w →
    Calls Tryz.prog 185 #[.slice A N cap, .int .i64 (a : Int), .int .i64 (m : Int), .int .i64 (b : Int), .func (.func cl) #[] capt] w fun e w' => e = .returned (.tuple #[]) ∧ (∃ D', Mrg lt a b D D' ∧ Wr g base w' A cap D') ∧ Bq base w w'
  | 0, a, m, b, D, w, hk, h => by have := h.am; have := h.mb; omega
  | k + 1, a, m, b, D, w, hk, h => symMerge_step hlt cl capt M base A cap N k (symMerge_any hlt cl capt M base A cap N k) a m b D w hk h
end
end Go.Proofs.YtkcoikelcmpceaaGreatDoor
namespace Go.Proofs.YtkcoikelcmpceaaGreatDoor
open Go.RowKit NM
section
variable {g : Nat → Nm}
theorem ins_parts {lt : Nat → Nat → Bool} {D X : List Nat} {a b : Nat} (hab : a ≤ b) (hbl : b ≤ D.length) (hX : X.Perm (List.range' a (b - a))) (hs : X.Pairwise (Lx lt)) : Part a b D (D.take a ++ (X ++ D.drop b)) ∧ Srt lt (D.take a ++ (X ++ D.drop b)) a b := by
  have hl : X.length = b - a := by simpa using hX.length_eq
  have ha : a = (D.take a).length := by rw [List.length_take]; omega
  constructor
  · have := Part.of_mid (a := a) (b := b) (pre := D.take a) (Z := seg D a b) (Z' := X) (post := D.drop b) ha (by rw [hl, seg_length hbl]) (by rw [seg_length hbl]; omega)
    rwa [← seg_split hab] at this
  · unfold Srt; rw [seg_of ha (by omega)]; exact ⟨hX, hs⟩
theorem insSortD_any {lt : Nat → Nat → Bool} (hlt : Swo lt) (cl : FuncId) (capt : Array Value) (M base : Nat) (A : Option Addr) (cap N a b : Nat) (D : List Nat) (w : World) (hc : CmpS g cl capt lt M base w) (hbw : base ≤ w.heap.size)
    (h : Wr g base w A cap D) (hl : D.length = N) (hs : N ≤ 100000) (hab : a ≤ b) (hb : b ≤ N) (hM : b ≤ M) (hD : seg D a b = List.range' a (b - a)) :
    Calls Tryz.prog 184 #[.slice A N cap, .int .i64 (a : Int), .int .i64 (b : Int), .func (.func cl) #[] capt] w fun e w' => e = .returned (.tuple #[]) ∧ (∃ D', Part a b D D' ∧ Srt lt D' a b ∧ Wr g base w' A cap D') ∧ Bq base w w' := by
  have e := seg_split (D := D) hab
  rw [hD] at e
  have h2 : Wr g base w A cap (D.take a ++ (List.range' a (b - a) ++ D.drop b)) := by rw [← e]; exact h
  refine (insSort_any hlt cl capt M base A cap N a (b - a) (b : Int) (D.take a) (D.drop b) w hc hbw h2 (by rw [List.length_take]; omega) (by rw [List.length_take, List.length_drop]; omega) hs (by omega) (by omega)).mono ?_
  rintro e w' ⟨rfl, ⟨X, h1, h2, h3⟩, hb'⟩
  obtain ⟨p1, p2⟩ := ins_parts (D := D) hab (by omega) h1 h2
  exact ⟨rfl, ⟨_, p1, p2, h3⟩, hb'⟩
theorem symMergeS_any {lt : Nat → Nat → Bool} (hlt : Swo lt) (cl : FuncId) (capt : Array Value) (M base : Nat) (A : Option Addr) (cap N a m b : Nat) (D : List Nat) (w : World) (hc : CmpS g cl capt lt M base w) (hbw : base ≤ w.heap.size)
    (h : Wr g base w A cap D) (hl : D.length = N) (hs : N ≤ 100000) (ham : a < m) (hmb : m < b) (hb : b ≤ N) (hM : b ≤ M) (hX : Srt lt D a m) (hY : Srt lt D m b) :
    Calls Tryz.prog 185 #[.slice A N cap, .int .i64 (a : Int), .int .i64 (m : Int), .int .i64 (b : Int), .func (.func cl) #[] capt] w fun e w' => e = .returned (.tuple #[]) ∧ (∃ D', Part a b D D' ∧ Srt lt D' a b ∧ Wr g base w' A cap D') ∧ Bq base w w' := by
  refine (symMerge_any hlt cl capt M base A cap N (b - a) a m b D w (Nat.le_refl _) ⟨hc, hbw, h, hl, hs, ham, hmb, hb, fun x hx => ?_, hX.2, hY.2, Srt.cross hX hY⟩).mono ?_
  · rw [seg_seg (Nat.le_of_lt ham) (Nat.le_of_lt hmb)] at hx
    rcases List.mem_append.1 hx with h | h
    · have := hX.mem h; omega
    · have := hY.mem h; omega
  · rintro e w' ⟨rfl, ⟨D', hm, hw⟩, hb'⟩
    exact ⟨rfl, ⟨D', hm.part, Srt.merged (Nat.le_of_lt ham) (Nat.le_of_lt hmb) hX hY hm, hw⟩, hb'⟩
set_option maxHeartbeats 8000000 in
theorem stable_any {lt : Nat → Nat → Bool} (hlt : Swo lt) (cl : FuncId) (capt : Array Value) (base : Nat) (A : Option Addr) (cap N : Nat) (w : World) (hc : CmpS g cl capt lt N base w) (hbw : base ≤ w.heap.size) (h : Wr g base w A cap (List.range N)) (hs : N ≤ 100000) :
    Calls Tryz.prog 151 #[.slice A N cap, .int .i64 (N : Int), .func (.func cl) #[] capt] w fun e w' => e = .returned (.tuple #[]) ∧ Wr g base w' A cap (sortN lt N) ∧ Bq base w w' := by
  have HC := Lib.hid hc
  have H0 : Hid (∃ D, Ins lt N 0 D ∧ Wr g base w A cap D) := ⟨_, Ins.start lt N, h⟩
  have HLT := Lib.hid hlt
  clear h hc hlt
  go_enter Tryz.func151, Tryz.ntmps151
  go_wp2_with fail
  go_loopw [7, 8] (fun s7 s8 wr => ∃ q a b : Nat, Hid (a = q * 20) ∧ Hid (b = a + 20) ∧ a ≤ N ∧ s7 = .int .i64 (a : Int) ∧ s8 = .int .i64 (b : Int) ∧ Hid (∃ D, Ins lt N q D ∧ Wr g base wr A cap D) ∧ Bq base w wr) (fun s7 _ _ => N - (intOf s7).toNat)
  case atStart => exact ⟨0, 0, 20, rfl, rfl, Nat.zero_le _, rfl, rfl, H0, Bq.refl _ _⟩
  case round =>
    clear H0
    obtain ⟨q, a, b, HA, HB, haN, rfl, rfl, HW, hX⟩ := hrel
    have hbw2 := Nat.le_trans hbw hX.size
    obtain ⟨D, hI, hW⟩ := HW.out
    have HI := Lib.hid hI
    by_cases hbn : b ≤ N
    · have hbn' : (b : Int) ≤ (N : Int) := by omega
      have eb : IntKind.i64.wrap ((b : Int) + 20) = ((b + 20 : Nat) : Int) := by rw [IntKind.wrap_i64]; omega
      have hcall := insSortD_any HLT.out cl capt N base A cap N a b D wr (HC.out.keep hX) hbw2 hW hI.len hs (by have := HB.out; omega) hbn hbn (by rw [HA.out]; exact hI.seg hbn)
      clear hI hW HW
      go_wp2_with (go_at_call 184; refine hcall.mono ?_; rintro e w' ⟨rfl, ⟨D', hp, hq, hw⟩, hb'⟩; have HN : Hid (∃ D, Ins lt N (q + 1) D ∧ Wr g base w' A cap D) := ⟨D', HI.out.step (by rw [HB.out, HA.out] at hp; exact hp) (by rw [HB.out, HA.out] at hq; exact hq), hw⟩; clear hp hq hw)
      exact ⟨⟨q + 1, b, b + 20, (by show b = (q + 1) * 20; rw [HB.out, HA.out]; omega), rfl, hbn, rfl, by go_num, HN, hX.trans hb'⟩, by have := HB.out; simp [intOf]; omega⟩
    · have hbn' : ¬ (b : Int) ≤ (N : Int) := by omega
      have hcall := insSortD_any HLT.out cl capt N base A cap N a N D wr (HC.out.keep hX) hbw2 hW hI.len hs haN (Nat.le_refl _) (Nat.le_refl _) (by rw [HA.out]; exact hI.seg (Nat.le_refl _))
      clear hI hW HW
      go_wp2_with (go_at_call 184; refine hcall.mono ?_; rintro e w' ⟨rfl, ⟨D', hp, hq, hw⟩, hb'⟩; have HN : Hid (∃ D, D.length = N ∧ AllB lt N 20 D ∧ Wr g base w' A cap D) := ⟨D', hp.len.trans HI.out.len, HI.out.all (by have := HA.out; omega) (by have := HA.out; have := HB.out; omega) (by rw [HA.out] at hp; exact hp) (by rw [HA.out] at hq; exact hq), hw⟩; clear hp hq hw)
      have hX1 := hX.trans hb'
      clear hX hb' hcall HB hbn hbn' hbw2
      go_loopw [6, 7, 8] (fun s6 s7 s8 wr => ∃ bs : Nat, 0 < bs ∧ bs ≤ 200000 ∧ s6 = .int .i64 (bs : Int) ∧ (∃ x, s7 = .int .i64 x) ∧ (∃ x, s8 = .int .i64 x) ∧ Hid (∃ D, D.length = N ∧ AllB lt N bs D ∧ Wr g base wr A cap D) ∧ Bq base w wr) (fun s6 _ _ _ => N - (intOf s6).toNat)
      case atStart => exact ⟨20, by decide, by decide, rfl, ⟨_, rfl⟩, ⟨_, rfl⟩, HN, hX1⟩
      case round =>
        clear HN hX1 HI
        obtain ⟨bs, hs0, hs1, rfl, ⟨x7, rfl⟩, ⟨x8, rfl⟩, HW, hX⟩ := hrel
        by_cases hbn : bs < N
        · have hbn' : (bs : Int) < (N : Int) := by omega
          obtain ⟨b2, hb2⟩ : ∃ b2, 2 * bs = b2 := ⟨_, rfl⟩
          have e2 : IntKind.i64.wrap (2 * (bs : Int)) = (b2 : Int) := by rw [IntKind.wrap_i64]; omega
          have e3 : IntKind.i64.wrap ((bs : Int) * 2) = (b2 : Int) := by rw [IntKind.wrap_i64]; omega
          have H0 : Hid (∃ D, Mrs lt N bs 0 D ∧ Wr g base wr A cap D) := by
            obtain ⟨D, h1, h2, h3⟩ := HW.out
            exact ⟨D, Mrs.start h1 h2, h3⟩
          have hX0 := hX
          clear HW hX
          go_wp2_with fail
          obtain ⟨wo, rfl⟩ : ∃ wo : World, wo = wr := ⟨_, rfl⟩
          go_loopw [7, 8] (fun s7 s8 wr => ∃ q a b : Nat, Hid (a = q * (2 * bs)) ∧ Hid (b = a + b2) ∧ a ≤ N ∧ s7 = .int .i64 (a : Int) ∧ s8 = .int .i64 (b : Int) ∧ Hid (∃ D, Mrs lt N bs q D ∧ Wr g base wr A cap D) ∧ Bq base w wr) (fun s7 _ _ => N - (intOf s7).toNat)
          case atStart => exact ⟨0, 0, b2, (Nat.zero_mul _).symm, (Nat.zero_add _).symm, Nat.zero_le _, rfl, rfl, H0, hX0⟩
          case round =>
            clear H0 hX0
            obtain ⟨q, a, b, HA, HB, haN, rfl, rfl, HW, hX⟩ := hrel
            have hbw2 := Nat.le_trans hbw hX.size
            obtain ⟨D, hI, hW⟩ := HW.out
            have HI := Lib.hid hI
            obtain ⟨mm, hmm⟩ : ∃ mm, a + bs = mm := ⟨_, rfl⟩
            have em : IntKind.i64.wrap ((a : Int) + (bs : Int)) = (mm : Int) := by rw [IntKind.wrap_i64]; omega
            by_cases hbn2 : b ≤ N
            · have hbn2' : (b : Int) ≤ (N : Int) := by omega
              obtain ⟨c, hc⟩ : ∃ c, b + b2 = c := ⟨_, rfl⟩
              have eb : IntKind.i64.wrap ((b : Int) + (b2 : Int)) = (c : Int) := by rw [IntKind.wrap_i64]; omega
              obtain ⟨hY1, hY2⟩ := hI.two (b := b) (by rw [← HA.out]; have := HB.out; omega) (by rw [← HA.out]; have := HB.out; omega) hs0
              rw [← HA.out, hmm] at hY1 hY2
              have hcall := symMergeS_any HLT.out cl capt N base A cap N a mm b D wr (HC.out.keep hX) hbw2 hW hI.len hs (by omega) (by have := HB.out; omega) hbn2 hbn2 hY1 hY2
              clear hI hW HW hY1 hY2
              go_wp2_with (go_at_call 185; refine hcall.mono ?_; rintro e w' ⟨rfl, ⟨D', hp, hq, hw⟩, hb'⟩; have HN : Hid (∃ D, Mrs lt N bs (q + 1) D ∧ Wr g base w' A cap D) := ⟨D', HI.out.step (by rw [HB.out, HA.out, ← hb2] at hp; exact hp) (by rw [HB.out, HA.out, ← hb2] at hq; exact hq), hw⟩; clear hp hq hw)
              have HA' : Hid (b = (q + 1) * (2 * bs)) := by show b = _; rw [HB.out, HA.out, ← hb2, Nat.add_mul, Nat.one_mul]
              exact ⟨⟨q + 1, b, c, HA', hc.symm, hbn2, rfl, rfl, HN, hX.trans hb'⟩, by have := HB.out; simp [intOf]; omega⟩
            · have hbn2' : ¬ (b : Int) ≤ (N : Int) := by omega
              by_cases hmn : mm < N
              · have hmn' : (mm : Int) < (N : Int) := by omega
                obtain ⟨hY1, hY2⟩ := hI.two (b := N) (by rw [← HA.out]; omega) (by rw [← HA.out]; have := HB.out; omega) hs0
                rw [← HA.out, hmm] at hY1 hY2
                have hcall := symMergeS_any HLT.out cl capt N base A cap N a mm N D wr (HC.out.keep hX) hbw2 hW hI.len hs (by omega) hmn (Nat.le_refl _) (Nat.le_refl _) hY1 hY2
                clear hI hW HW hY1 hY2
                go_wp2_with (go_at_call 185; refine hcall.mono ?_; rintro e w' ⟨rfl, ⟨D', hp, hq, hw⟩, hb'⟩; have HN : Hid (∃ D, D.length = N ∧ AllB lt N b2 D ∧ Wr g base w' A cap D) := ⟨D', hp.len.trans HI.out.len, by rw [← hb2]; exact HI.out.last (by rw [← HA.out]; exact haN) (by rw [← HA.out]; have := HB.out; omega) (by rw [HA.out] at hp; exact hp) (fun _ => by rw [HA.out] at hq; exact hq), hw⟩; clear hp hq hw)
                exact ⟨⟨b2, by omega, by omega, rfl, ⟨_, rfl⟩, ⟨_, rfl⟩, HN, hX.trans hb'⟩, by simp [intOf]; omega⟩
              · have hmn' : ¬ (mm : Int) < (N : Int) := by omega
                have HN : Hid (∃ D, D.length = N ∧ AllB lt N b2 D ∧ Wr g base wr A cap D) := ⟨D, hI.len, by rw [← hb2]; exact hI.last (by rw [← HA.out]; exact haN) (by rw [← HA.out]; have := HB.out; omega) (Part.refl _ _ _) (fun h => hI.none (by rw [← HA.out]; omega) h), hW⟩
                clear hI hW HW
                go_wp2_with fail
                exact ⟨⟨b2, by omega, by omega, rfl, ⟨_, rfl⟩, ⟨_, rfl⟩, HN, hX⟩, by simp [intOf]; omega⟩
        · have hbn' : ¬ (bs : Int) < (N : Int) := by omega
          have HR : Hid (Wr g base wr A cap (sortN lt N)) := by
            obtain ⟨D, h1, h2, h3⟩ := HW.out
            show Wr g base wr A cap (sortN lt N)
            rw [← AllB.whole HLT.out h1 (by omega) h2]
            exact h3
          clear HW
          go_wp2_with fail
          exact bodyPost_end (v := .tuple #[]) (by simp [results, Tryz.results151, go_sem]) rfl ⟨rfl, HR.out, hX⟩
theorem sortStable_any {lt : Nat → Nat → Bool} (hlt : Swo lt) (cl : FuncId) (capt : Array Value) (base : Nat) (A : Option Addr) (cap N : Nat) (w : World) (hc : CmpS g cl capt lt N base w) (hbw : base ≤ w.heap.size) (h : Wr g base w A cap (List.range N)) (hs : N ≤ 100000) :
    Calls Tryz.prog 104 #[.slice A N cap, .func (.func cl) #[] capt] w fun e w' => e = .returned (.tuple #[]) ∧ Wr g base w' A cap (sortN lt N) ∧ Bq base w w' := by
  have hcall := stable_any hlt cl capt base A cap N w hc hbw h hs
  clear h hc
  go_enter Tryz.func104, Tryz.ntmps104
  go_wp2_with (go_at_call 151; refine hcall.mono ?_; rintro e w' ⟨rfl, hw, hb'⟩)
  exact bodyPost_end (v := .tuple #[]) (by simp [results, Tryz.results104, go_sem]) rfl ⟨rfl, hw, hb'⟩
end
end Go.Proofs.YtkcoikelcmpceaaGreatDoor
namespace Go.Proofs.YtkcoikelcmpceaaGreatDoor
open Go.RowKit
/-- An operation that may come up at any time: its number, its slot, the object that it makes, what it answers. -/
structure FX where
  i : Nat
  t : Nat
  ob : Obj
  yv : Nat → Value
def putX : List FX → (Nat → Option Nat) → Act → Act
  | [], _, a => a
  | x :: fs, β, a => match β x.i with
    | none => putX fs β a
    | some b => (putX fs β a).put (some x.t) (x.yv b)
def nx (fs : List FX) (β : Nat → Option Nat) : Nat := fs.countP fun x => (β x.i).isNone
theorem putX_congr {β β' : Nat → Option Nat} {a : Act} : ∀ {fs : List FX}, (∀ x ∈ fs, β x.i = β' x.i) → putX fs β a = putX fs β' a
  | [], _ => rfl
  | x :: fs, h => by
    unfold putX
    rw [h x (by simp), putX_congr (fs := fs) fun y hy => h y (by simp [hy])]
theorem putX_put {β : Nat → Option Nat} {a : Act} {d : Option Tmp} {v : Value} : ∀ {fs : List FX}, (∀ x ∈ fs, d ≠ some x.t) → putX fs β (a.put d v) = (putX fs β a).put d v
  | [], _ => rfl
  | x :: fs, h => by
    unfold putX
    rw [putX_put (fs := fs) fun y hy => h y (by simp [hy])]
    cases β x.i with
    | none => rfl
    | some b => exact Act.put_comm _ _ _ fun e he hx => h x (by simp) (by rw [he, hx])
theorem putX_set {β : Nat → Option Nat} {a : Act} {x : FX} {b : Nat} : ∀ {fs : List FX}, x ∈ fs → (fs.map (·.i)).Nodup → (fs.map (·.t)).Nodup → β x.i = none → putX fs (setB β x.i b) a = (putX fs β a).put (some x.t) (x.yv b)
  | [], h, _, _, _ => by cases h
  | y :: fs, h, hn, hs, hb => by
    simp only [List.map_cons, List.nodup_cons, List.mem_map, not_exists, not_and] at hn hs
    unfold putX
    by_cases hxy : y.i = x.i
    · have hyx : y = x := by
        rcases List.mem_cons.1 h with rfl | h'
        · rfl
        · exact absurd hxy.symm (hn.1 x h')
      subst hyx
      have e : putX fs (setB β y.i b) a = putX fs β a := putX_congr fun z hz => by
        unfold setB; rw [if_neg (fun e => hn.1 z hz e)]
      simp only [setB, if_true, hb] at e ⊢
      rw [e]
    · have hx : x ∈ fs := by
        rcases List.mem_cons.1 h with rfl | h'
        · exact absurd rfl hxy
        · exact h'
      have e : setB β x.i b y.i = β y.i := by unfold setB; rw [if_neg hxy]
      rw [e, putX_set hx hn.2 hs.2 hb]
      cases β y.i with
      | none => rfl
      | some b' => exact Act.put_comm _ _ _ fun d hd hd' => hs.1 x hx (by simp_all)
theorem nx_set {β : Nat → Option Nat} {x : FX} {b : Nat} : ∀ {fs : List FX}, x ∈ fs → (fs.map (·.i)).Nodup → β x.i = none → nx fs (setB β x.i b) + 1 = nx fs β
  | [], h, _, _ => by cases h
  | y :: fs, h, hn, hb => by
    simp only [List.map_cons, List.nodup_cons, List.mem_map, not_exists, not_and] at hn
    unfold nx
    rw [List.countP_cons, List.countP_cons]
    by_cases hxy : y.i = x.i
    · have e : fs.countP (fun z => (setB β x.i b z.i).isNone) = fs.countP (fun z => (β z.i).isNone) := by
        refine List.countP_congr fun z hz => ?_
        rw [show setB β x.i b z.i = β z.i by unfold setB; rw [if_neg (fun e => hn.1 z hz (e.trans hxy.symm))]]
      rw [e, show setB β x.i b y.i = some b by unfold setB; rw [if_pos hxy], show β y.i = none by rw [hxy]; exact hb]
      simp
    · have hx : x ∈ fs := by
        rcases List.mem_cons.1 h with rfl | h'
        · exact absurd rfl hxy
        · exact h'
      have ih := nx_set (b := b) hx hn.2 hb
      unfold nx at ih
      rw [show setB β x.i b y.i = β y.i by unfold setB; rw [if_neg hxy]]
      omega
theorem nodup_injX {x y : FX} : ∀ {fs : List FX}, (fs.map (·.i)).Nodup → x ∈ fs → y ∈ fs → x.i = y.i → x = y
  | [], _, h, _, _ => by cases h
  | z :: fs, hn, hx, hy, e => by
    simp only [List.map_cons, List.nodup_cons, List.mem_map, not_exists, not_and] at hn
    rcases List.mem_cons.1 hx with rfl | hx'
    · rcases List.mem_cons.1 hy with rfl | hy'
      · rfl
      · exact absurd e.symm (hn.1 y hy')
    · rcases List.mem_cons.1 hy with rfl | hy'
      · exact absurd e (hn.1 x hx')
      · exact nodup_injX hn.2 hx' hy' e
section
variable {P : Program} {ops : Array Oper} {Q : Exit → Act → World → Prop} {tl : List Nat}
theorem wpOp_putX {j : Nat} {oj : Oper} {β : Nat → Option Nat} (hj : ops[j]? = some oj) (hsj : ∀ cs b, oj.op ≠ .select cs b) (hQ : ∀ c a d v w, Q (.panic c) a w → Q (.panic c) (a.put d v) w)
    {K : Act → World → Prop} {a : Act} {w : World} (h : wpOp P ops Q j K a w) : ∀ {fs : List FX}, (∀ x ∈ fs, x.t ∉ oj.looksAt ops ∧ oj.dst ≠ some x.t) →
    wpOp P ops Q j (fun a' w' => ∃ a'', a' = putX fs β a'' ∧ K a'' w') (putX fs β a) w
  | [], _ => wpOp_mono (fun a' w' h' => ⟨a', rfl, h'⟩) h
  | x :: fs, hx => by
    have ih := wpOp_putX (β := β) hj hsj hQ h (fs := fs) fun y hy => hx y (by simp [hy])
    unfold putX
    cases β x.i with
    | none => exact ih
    | some b =>
      refine wpOp_mono ?_ (wpOp_put1 (v := x.yv b) hj hsj (hx x (by simp)).1 (hx x (by simp)).2 (fun c a w => hQ c a _ _ w) ih)
      rintro a' w' ⟨a1, rfl, a2, rfl, hk⟩
      exact ⟨a2, rfl, hk⟩
theorem yields_putX {S : World → Prop} {o : Oper} {v : Value} {a : Act} {β : Nat → Option Nat} (hs : ∀ cs b, o.op ≠ .select cs b) (hy : YieldsIf P ops S o v a) : ∀ {fs : List FX}, (∀ x ∈ fs, x.t ∉ o.looksAt ops) → YieldsIf P ops S o v (putX fs β a)
  | [], _ => hy
  | x :: fs, hx => by
    have ih := yields_putX (β := β) hs hy (fs := fs) fun y hy => hx y (by simp [hy])
    unfold putX
    cases β x.i with
    | none => exact ih
    | some b =>
      have h1 : ∀ e, (some x.t : Option Tmp) = some e → e ∉ o.looksAt ops := fun e he => by obtain rfl := Option.some.inj he; exact hx x (by simp)
      exact ih.of_same (execOp_put o hs _ _ _ h1) (wanted_put o _ _ _ h1)
theorem wanted_putX {o : Oper} {a : Act} {β : Nat → Option Nat} : ∀ {fs : List FX}, (∀ x ∈ fs, x.t ∉ o.looksAt ops) → Region.wanted o (yielded ops (putX fs β a).tmps) = Region.wanted o (yielded ops a.tmps)
  | [], _ => rfl
  | x :: fs, hx => by
    have ih := wanted_putX (a := a) (β := β) (fs := fs) fun y hy => hx y (by simp [hy])
    unfold putX
    cases β x.i with
    | none => exact ih
    | some b => exact (wanted_put o _ _ _ (fun e he => by obtain rfl := Option.some.inj he; exact hx x (by simp))).trans ih
theorem exec_putX {o : Oper} {a : Act} {β : Nat → Option Nat} (hs : ∀ cs b, o.op ≠ .select cs b) : ∀ {fs : List FX}, (∀ x ∈ fs, x.t ∉ o.looksAt ops) → execOp (putX fs β a).eval o = execOp a.eval o
  | [], _ => rfl
  | x :: fs, hx => by
    have ih := exec_putX (a := a) (β := β) hs (fs := fs) fun y hy => hx y (by simp [hy])
    unfold putX
    cases β x.i with
    | none => exact ih
    | some b =>
      have h1 : ∀ e, (some x.t : Option Tmp) = some e → e ∉ o.looksAt ops := fun e he => by obtain rfl := Option.some.inj he; exact hx x (by simp)
      exact (execOp_put o hs _ _ _ h1).trans ih
/-- Behind an operation the others read what they read, its own slot apart. -/
def sameFor (ops : Array Oper) (d : Option Tmp) (a a' : Act) : Prop := ∀ o : Oper, (∀ cs b, o.op ≠ .select cs b) → (∀ e, d = some e → e ∉ o.looksAt ops) → execOp a'.eval o = execOp a.eval o ∧ Region.wanted o (yielded ops a'.tmps) = Region.wanted o (yielded ops a.tmps)
theorem sameFor_put {d : Option Tmp} {a : Act} {v : Value} : sameFor ops d a (a.put d v) := fun o hs h => ⟨execOp_put o hs _ _ _ h, wanted_put o _ _ _ h⟩
theorem wpOp_same {j : Nat} {oj : Oper} (hj : ops[j]? = some oj) {K : Act → World → Prop} {a : Act} {w : World} (h : wpOp P ops Q j K a w) : wpOp P ops Q j (fun a' w' => sameFor ops oj.dst a a' ∧ K a' w') a w := by
  unfold wpOp at *
  simp only [hj] at *
  split
  · rename_i hw
    simp only [hw, if_true] at h
    rcases h with h | ⟨hasks, hlets⟩
    case inr => exact .inr ⟨hasks, hlets⟩
    refine .inl ?_
    unfold Oper.wp at *
    generalize (execOp a.eval oj).run P w = r at *
    cases r with
    | ok n w' =>
      cases n <;> simp only [Oper.upon] at h ⊢
      case value u => exact ⟨sameFor_put, h⟩
      case skip => exact ⟨sameFor_put, h⟩
      case defer f => exact ⟨fun o hs ho => ⟨execOp_put o hs { a with defers := f :: a.defers } _ _ ho, wanted_put o { a with defers := f :: a.defers } _ _ ho⟩, h⟩
      case enter f args =>
        refine Calls.mono h fun e w'' he => ?_
        cases e with
        | returned u => exact ⟨sameFor_put, he⟩
        | panicked c => exact he
        | outgrown => exact he
      case row row args => exact Rows.mono h fun u w'' he => ⟨sameFor_put, he⟩
    | halt x w' =>
      cases x <;> simp only [Oper.upon] at h ⊢
      case panic u => exact h
      all_goals exact h
  · rename_i hw
    simp only [hw] at h
    exact ⟨sameFor_put, h⟩
def wpFg (P : Program) (ops : Array Oper) (Q : Exit → Act → World → Prop) (W0 : World) (tp : List Nat) : List (Nat × Nat) → List FX → List Nat → Act → (World → Prop) → Prop
  | [], _, _, a, E => ∀ w, Ext W0 w → E w → wpTl P ops Q tp a w
  | (i, 0) :: rest, fs, bs, a, E => ∃ o v, ops[i]? = some o ∧ YieldsIf P ops (Ext W0) o v a ∧ wpFg P ops Q W0 tp rest fs bs (a.put o.dst v) E
  | (i, 2) :: rest, fs, bs, a, E => ∃ o v, ops[i]? = some o ∧ YieldsIf P ops (fun _ => True) o v a ∧ wpFg P ops Q W0 tp rest fs bs (a.put o.dst v) E
  | (_, 3) :: rest, fs, bs, a, E => ∃ x fs', fs = x :: fs' ∧ ∀ b, W0.heap.size ≤ b → b ∉ bs → (∀ w1 w2, Ext w1 w2 → E w1 → E w2) → ∃ E' : World → Prop, (∀ w1 w2, Ext w1 w2 → E' w1 → E' w2) ∧ (∀ w, Ext W0 w → E w → w.heap[b]? = some x.ob → E' w) ∧ wpFg P ops Q W0 tp rest fs' (b :: bs) (a.put (some x.t) (x.yv b)) E'
  | (i, 4) :: rest, fs, bs, a, E => ∃ x o, x.i = i ∧ ops[i]? = some o ∧ o.dst = some x.t ∧ Region.wanted o (yielded ops a.tmps) = true ∧ (∀ w, (execOp a.eval o).run P w = .ok (.value (x.yv w.heap.size)) (w.alloc x.ob)) ∧ wpFg P ops Q W0 tp rest (x :: fs) bs a E
  | (i, 5) :: rest, fs, bs, a, E => ∀ w, Ext W0 w → E w → wpOp P ops Q i (fun a' w' => Ext W0 w' ∧ w.heap.size ≤ w'.heap.size ∧ ∃ E' : World → Prop, (∀ w1 w2, Ext w1 w2 → E' w1 → E' w2) ∧ E' w' ∧ wpFg P ops Q W0 tp rest fs bs a' E') a w
  | (i, _) :: rest, fs, bs, a, E => ∀ w, Ext W0 w → E w → wpOp P ops Q i (fun a' w' => Ext w w' ∧ ∃ E' : World → Prop, (∀ w1 w2, Ext w1 w2 → E' w1 → E' w2) ∧ E' w' ∧ wpFg P ops Q W0 tp rest fs bs a' E') a w
def awayB (ops : Array Oper) (o : Oper) (F : List Nat) : Bool :=
  o.after.all (fun e => !Region.binds .any e || !F.contains e.on) && F.all (fun k => match ops[k]? with
    | some ok => (match ok.dst with | some t => !(o.looksAt ops).contains t && o.dst != some t | none => false) && (match o.dst with | some d => !(ok.looksAt ops).contains d | none => true) && o.apart ops ok
    | none => false)
def planG (ops : Array Oper) (tl pu : List Nat) : Array Bool → List Nat → List (Nat × Nat) → Bool
  | lF, F, [] => F.isEmpty
  | lF, F, (i, 0) :: rest => Region.free .any ops lF i && (Region.ready .any ops lF).contains i && !tl.contains i && !F.contains i &&
      tl.all (fun j => lF.getD j true || match ops[j]? with | some oj => oj.after.any (fun e => Region.binds .any e && depB ops F lF i 4 e.on) | none => true) &&
      (match ops[i]? with | some o => awayB ops o F | none => false) && planG ops tl pu (lF.setIfInBounds i true) F rest
  | lF, F, (i, 2) :: rest => Region.free .any ops lF i && (Region.ready .any ops lF).contains i && !tl.contains i && !F.contains i && pu.contains i &&
      (match ops[i]? with | some o => awayB ops o F | none => false) && planG ops tl pu (lF.setIfInBounds i true) F rest
  | lF, F, (i, 3) :: rest => (F.head? == some i) && (Region.ready .any ops lF).all (fun j => match ops[j]? with | some oj => oj.after.any (fun e => Region.binds .any e && e.on == i) | none => false) && planG ops tl pu lF F.tail rest
  | lF, F, (i, 4) :: rest => (lF[i]? == some false) && !tl.contains i && !F.contains i &&
      (match ops[i]? with | some o => o.after.all (fun e => !Region.binds .any e || lF.getD e.on false) && (match o.dst with | some t => !(o.looksAt ops).contains t | none => false) && awayB ops o F | none => false) && planG ops tl pu (lF.setIfInBounds i true) (i :: F) rest
  | lF, F, (i, 5) :: rest => F.isEmpty && (Region.ready .any ops lF == [i]) && !tl.contains i && !pu.contains i &&
      (match ops[i]? with | some o => awayB ops o F | none => false) && planG ops tl pu (lF.setIfInBounds i true) F rest
  | lF, F, (i, _) :: rest => (Region.ready .any ops lF == [i]) && !tl.contains i && !F.contains i && !pu.contains i &&
      (match ops[i]? with | some o => awayB ops o F | none => false) && planG ops tl pu (lF.setIfInBounds i true) F rest
def listG (listed : Array Bool) (pl : List (Nat × Nat)) : Array Bool := pl.foldl (fun l x => if x.2 = 3 then l else l.setIfInBounds x.1 true) listed
def cost (pl : List (Nat × Nat)) : Nat := pl.countP fun x => x.2 != 3
theorem cost_ne {i k : Nat} {rest : List (Nat × Nat)} (h : k ≠ 3) : cost ((i, k) :: rest) = cost rest + 1 := by
  unfold cost; rw [List.countP_cons, if_pos (by simpa using h)]
theorem cost_eq {i : Nat} {rest : List (Nat × Nat)} : cost ((i, 3) :: rest) = cost rest := by
  unfold cost; rw [List.countP_cons, if_neg (by simp), Nat.add_zero]
/-- How far they have come up. -/
structure RelX (fs : List FX) (listed lF : Array Bool) (β : Nat → Option Nat) : Prop where
  size : listed.size = lF.size
  main : ∀ j, j ∉ fs.map (·.i) → listed[j]? = lF[j]?
  done : ∀ x ∈ fs, listed[x.i]? = some (β x.i).isSome ∧ lF[x.i]? = some true
theorem RelX.step {fs : List FX} {listed lF : Array Bool} {β : Nat → Option Nat} (h : RelX fs listed lF β) {i : Nat} (hi : i ∉ fs.map (·.i)) : RelX fs (listed.setIfInBounds i true) (lF.setIfInBounds i true) β := by
  refine ⟨by simp [h.size], fun j hj => ?_, fun x hx => ?_⟩
  · rw [Array.getElem?_setIfInBounds, Array.getElem?_setIfInBounds, h.size, h.main j hj]
  · have hne : i ≠ x.i := fun e => hi (by rw [e]; exact List.mem_map.2 ⟨x, hx, rfl⟩)
    rw [Array.getElem?_setIfInBounds_ne hne, Array.getElem?_setIfInBounds_ne hne]
    exact h.done x hx
theorem RelX.float {fs : List FX} {listed lF : Array Bool} {β : Nat → Option Nat} (h : RelX fs listed lF β) {x : FX} (hx : x ∈ fs) (b : Nat) : RelX fs (listed.setIfInBounds x.i true) lF (setB β x.i b) := by
  refine ⟨by simp [h.size], fun j hj => ?_, fun y hy => ?_⟩
  · rw [Array.getElem?_setIfInBounds_ne (fun e => hj (by rw [← e]; exact List.mem_map.2 ⟨x, hx, rfl⟩))]; exact h.main j hj
  · refine ⟨?_, (h.done y hy).2⟩
    have hl := (h.done y hy).1
    by_cases hxy : x.i = y.i
    · rw [← hxy, Array.getElem?_setIfInBounds_self]
      have : x.i < listed.size := by rw [hxy]; exact (Array.getElem?_eq_some_iff.1 hl).1
      simp [this, setB]
    · rw [Array.getElem?_setIfInBounds_ne hxy, hl]
      unfold setB; rw [if_neg (fun e => hxy e.symm)]
theorem RelX.wait {x : FX} {fs : List FX} {listed lF : Array Bool} {β : Nat → Option Nat} (h : RelX (x :: fs) listed lF β) (hb : (β x.i).isSome = true) : RelX fs listed lF β := by
  refine ⟨h.size, fun j hj => ?_, fun y hy => h.done y (by simp [hy])⟩
  by_cases e : j = x.i
  · subst e; rw [(h.done x (by simp)).1, (h.done x (by simp)).2, hb]
  · exact h.main j (by simp only [List.map_cons, List.mem_cons, not_or]; exact ⟨e, hj⟩)
theorem RelX.launch {x : FX} {fs : List FX} {listed lF : Array Bool} {β : Nat → Option Nat} (h : RelX fs listed lF β) (hi : x.i ∉ fs.map (·.i)) (hl : lF[x.i]? = some false) (hb : β x.i = none) : RelX (x :: fs) listed (lF.setIfInBounds x.i true) β := by
  refine ⟨by simp [h.size], fun j hj => ?_, fun y hy => ?_⟩
  · simp only [List.map_cons, List.mem_cons, not_or] at hj
    rw [Array.getElem?_setIfInBounds_ne (fun e => hj.1 e.symm)]; exact h.main j hj.2
  · rcases List.mem_cons.1 hy with rfl | hy
    · refine ⟨by rw [h.main _ hi, hl, hb]; rfl, ?_⟩
      have := (Array.getElem?_eq_some_iff.1 hl).1
      simp [this]
    · have hne : x.i ≠ y.i := fun e => hi (by rw [e]; exact List.mem_map.2 ⟨y, hy, rfl⟩)
      refine ⟨(h.done y hy).1, ?_⟩
      rw [Array.getElem?_setIfInBounds_ne hne]; exact (h.done y hy).2
theorem depX_of {fs : List FX} {listed lF : Array Bool} {β : Nat → Option Nat} (hR : RelX fs listed lF β) {i : Nat} : ∀ (n k : Nat), depB ops (fs.map (·.i)) lF i n k = true → dep ops listed i n k
  | 0, k, h => by show k = i; simpa [depB] using h
  | n + 1, k, h => by
    simp only [depB, Bool.or_eq_true, beq_iff_eq, Bool.and_eq_true, Bool.not_eq_true'] at h
    rcases h with h | ⟨⟨hF, hun⟩, h⟩
    · exact .inl h
    · right
      refine ⟨by rw [getD_same (hR.main k (by simpa using hF))]; exact hun, ?_⟩
      cases hom : ops[k]? with
      | none => rw [hom] at h; cases h
      | some om =>
        rw [hom] at h
        obtain ⟨e', he', hb'⟩ := Array.any_eq_true'.1 h
        simp only [Bool.and_eq_true] at hb'
        exact ⟨om, rfl, e', he', hb'.1, depX_of hR n _ hb'.2⟩
/-- What is known of those under way. -/
structure FgOk (P : Program) (ops : Array Oper) (tl : List Nat) (fs : List FX) (lF : Array Bool) (a : Act) : Prop where
  fl : ∀ x ∈ fs, ∃ o, ops[x.i]? = some o ∧ Region.wanted o (yielded ops a.tmps) = true ∧ o.dst = some x.t ∧ tl.contains x.i = false ∧ (∀ e ∈ o.after, Region.binds .any e = true → lF[e.on]? = some true ∧ e.on ∉ fs.map (·.i)) ∧
    (∀ y ∈ fs, y.t ∉ o.looksAt ops) ∧ ∀ w, (execOp a.eval o).run P w = .ok (.value (x.yv w.heap.size)) (w.alloc x.ob)
  n1 : (fs.map (·.i)).Nodup
  n2 : (fs.map (·.t)).Nodup
theorem away {o : Oper} {F : List Nat} (h : awayB ops o F = true) : (∀ e ∈ o.after, Region.binds .any e = true → e.on ∉ F) ∧ ∀ k ∈ F, ∀ ok, ops[k]? = some ok → ∃ t, ok.dst = some t ∧ t ∉ o.looksAt ops ∧ o.dst ≠ some t ∧ (∀ d, o.dst = some d → d ∉ ok.looksAt ops) ∧ o.apart ops ok = true := by
  simp only [awayB, Bool.and_eq_true, List.all_eq_true, Array.all_eq_true_iff_forall_mem] at h
  refine ⟨fun e he hb hin => ?_, fun k hk ok hok => ?_⟩
  · have := h.1 e he
    rw [hb] at this
    simp only [Bool.not_true, Bool.false_or, Bool.not_eq_true'] at this
    exact absurd hin (by simpa using this)
  · have := h.2 k hk
    rw [hok] at this
    simp only [Bool.and_eq_true] at this
    obtain ⟨⟨h1, h2⟩, h3⟩ := this
    cases hd : ok.dst with
    | none => rw [hd] at h1; cases h1
    | some t =>
      rw [hd] at h1
      simp only [Bool.and_eq_true] at h1
      refine ⟨t, rfl, by simpa using h1.1, by simpa using h1.2, fun d hd' => ?_, h3⟩
      rw [hd'] at h2
      simpa using h2
theorem FgOk.step {fs : List FX} {lF : Array Bool} {a a' : Act} {i : Nat} {o : Oper} (h : FgOk P ops tl fs lF a) (hsel : Region.noSelect ops = true) (haw : awayB ops o (fs.map (·.i)) = true) (hs : sameFor ops o.dst a a') : FgOk P ops tl fs (lF.setIfInBounds i true) a' := by
  refine ⟨fun x hx => ?_, h.n1, h.n2⟩
  obtain ⟨ox, h1, h2, h3, h4, h5, h6, h7⟩ := h.fl x hx
  obtain ⟨t, _, _, _, hd, _⟩ := (away haw).2 x.i (List.mem_map.2 ⟨x, hx, rfl⟩) ox h1
  have hsx := hs ox (fun cs b => Region.noSelect_spec hsel x.i ox cs b h1) hd
  refine ⟨ox, h1, hsx.2.trans h2, h3, h4, fun e he hb => ⟨?_, (h5 e he hb).2⟩, h6, fun w => ?_⟩
  · have := (h5 e he hb).1
    by_cases hie : i = e.on
    · have hlt := (Array.getElem?_eq_some_iff.1 this).1
      subst hie
      simp [hlt]
    · rw [Array.getElem?_setIfInBounds_ne hie]; exact this
  · rw [hsx.1]
    exact h7 w
theorem wpFg_sound {W0 : World} {tp pu : List Nat} (hsel : Region.noSelect ops = true) (hQ : ∀ c a d v w, Q (.panic c) (a.put d v) w → Q (.panic c) a w) (hQ' : ∀ c a d v w, Q (.panic c) a w → Q (.panic c) (a.put d v) w) :
    ∀ (m : Nat) (pl : List (Nat × Nat)) (fs : List FX) (bs : List Nat) (listed lF : Array Bool) (β : Nat → Option Nat) (a : Act) (E : World → Prop) (w : World), 2 * pl.length + nx fs β ≤ m → RelX fs listed lF β → FgOk P ops tl fs lF a →
      planG ops tl pu lF (fs.map (·.i)) pl = true → tailOk ops tl (listG lF pl) tp = true → Ext W0 w → (∀ w1 w2, Ext w1 w2 → E w1 → E w2) → E w →
      (∀ x ∈ fs, ∀ b, β x.i = some b → w.heap[b]? = some x.ob ∧ W0.heap.size ≤ b ∧ b ∉ bs) → (∀ x ∈ fs, ∀ y ∈ fs, ∀ b, β x.i = some b → β y.i = some b → x.i = y.i) → (∀ b ∈ bs, b < w.heap.size) → (∀ j, (∃ b, β j = some b) → lF[j]? = some true) →
      wpFg P ops Q W0 tp pl fs bs a E → wpAnyU P ops Q (Ext W0) tl pu (cost pl + nx fs β + tp.length) listed (putX fs β a) w := by
  intro m
  induction m with
  | zero =>
    intro pl fs bs listed lF β a E w hm hR hok hpl htp hX hst hE hbl hinj hbs hβ h
    obtain rfl : pl = [] := List.eq_nil_of_length_eq_zero (by omega)
    obtain rfl : fs = [] := by simpa [planG] using hpl
    have hl : listed = lF := Array.ext_getElem? fun j => hR.main j (by simp)
    subst hl
    rw [show cost [] + nx [] β + tp.length = tp.length by simp [cost, nx]]
    exact wpTl_sound tp _ _ _ htp (h w hX hE)
  | succ m ih =>
    intro pl fs bs listed lF β a E w hm hR hok hpl htp hX hst hE hbl hinj hbs hβ h
    have hal : ∀ x ∈ fs, β x.i = none → ∀ f, cost pl + nx fs β + tp.length = f + 1 → wpOp P ops Q x.i (fun a' w' => (tl.contains x.i = false → (pu.contains x.i = true → Ext W0 w) → Ext W0 w') ∧ wpAnyU P ops Q (Ext W0) tl pu f (listed.setIfInBounds x.i true) a' w') (putX fs β a) w := by
      intro x hx hb f hf
      obtain ⟨o, ho, hg, hd, _, _, hl, hrun⟩ := hok.fl x hx
      unfold wpOp
      simp only [ho]
      rw [if_pos ((wanted_putX hl).trans hg)]
      refine .inl ?_
      unfold Oper.wp
      rw [exec_putX (fun cs b => Region.noSelect_spec hsel x.i o cs b ho) hl, hrun w]
      have hnp := nx_set (b := w.heap.size) hx hok.n1 hb
      have hXa : Ext w (w.alloc x.ob) := (Ext.refl w).alloc _
      have hlt : ∀ u ∈ fs, ∀ b, β u.i = some b → b < w.heap.size := fun u hu b hub => by
        obtain ⟨h1, _⟩ := hbl u hu b hub
        rcases Nat.lt_or_ge b w.heap.size with hl | hl
        · exact hl
        · rw [Array.getElem?_eq_none hl] at h1; cases h1
      have key := ih pl fs bs (listed.setIfInBounds x.i true) lF (setB β x.i w.heap.size) a E (w.alloc x.ob) (by omega) (hR.float hx _) hok hpl htp (hX.trans hXa) hst (hst _ _ hXa hE) ?_ ?_ (fun b hb' => by have := hbs b hb'; have := hXa.size; omega) ?_ h
      · rw [putX_set hx hok.n1 hok.n2 hb, show cost pl + nx fs (setB β x.i w.heap.size) + tp.length = f by omega] at key
        simp only [Oper.upon, hd]
        exact ⟨fun _ _ => hX.trans hXa, key⟩
      · intro y hy b hyb
        by_cases hxy : y.i = x.i
        · have hyx : y = x := nodup_injX hok.n1 hy hx hxy
          subst hyx
          simp only [setB, if_true, Option.some.injEq] at hyb
          subst hyb
          exact ⟨heap_alloc_new _ _, hX.size, fun hin => by have := hbs _ hin; omega⟩
        · simp only [setB, hxy, if_false] at hyb
          obtain ⟨h1, h2, h3⟩ := hbl y hy b hyb
          exact ⟨by rw [hXa.block (hlt y hy b hyb)]; exact h1, h2, h3⟩
      · intro y hy z hz b hyb hzb
        unfold setB at hyb hzb
        split at hyb
        · rename_i e1
          split at hzb
          · rename_i e2; rw [e1, e2]
          · have := hlt z hz b hzb
            simp only [Option.some.injEq] at hyb
            omega
        · split at hzb
          · have := hlt y hy b hyb
            simp only [Option.some.injEq] at hzb
            omega
          · exact hinj y hy z hz b hyb hzb
      · rintro j ⟨b, hj⟩
        unfold setB at hj
        split at hj
        · rename_i e; subst e; exact (hR.done x hx).2
        · exact hβ j ⟨b, hj⟩
    have hfr : ∀ x ∈ fs, β x.i = none → x.i ∈ Region.ready .any ops listed := by
      intro x hx hb
      obtain ⟨o, ho, _, _, _, ha, _⟩ := hok.fl x hx
      refine mem_ready.2 ⟨?_, o, ho, fun e he hbi => ?_⟩
      · rw [getD_of (hR.done x hx).1, hb]; rfl
      · obtain ⟨h1, h2⟩ := ha e he hbi
        rw [getD_same (hR.main _ h2), getD_of h1]
    have hfl : ∀ x ∈ fs, x.i ∈ Region.ready .any ops listed → β x.i = none := by
      intro x hx hr
      have h0 := (mem_ready.1 hr).1
      rw [getD_of (hR.done x hx).1] at h0
      cases hb : β x.i with
      | none => rfl
      | some b => rw [hb] at h0; cases h0
    have hto : ∀ j, j ∉ fs.map (·.i) → j ∈ Region.ready .any ops listed → j ∈ Region.ready .any ops lF := by
      intro j hj hr
      obtain ⟨h0, o, ho, ha⟩ := mem_ready.1 hr
      refine mem_ready.2 ⟨by rw [← getD_same (hR.main j hj)]; exact h0, o, ho, fun e he hb => ?_⟩
      have h1 := ha e he hb
      by_cases hin : e.on ∈ fs.map (·.i)
      · obtain ⟨x, hx, hxe⟩ := List.mem_map.1 hin
        rw [← hxe, getD_of (hR.done x hx).2]
      · rw [← getD_same (hR.main _ hin)]; exact h1
    have hfrom : ∀ j oj, ops[j]? = some oj → j ∉ fs.map (·.i) → (∀ e ∈ oj.after, Region.binds .any e = true → e.on ∉ fs.map (·.i)) → j ∈ Region.ready .any ops lF → j ∈ Region.ready .any ops listed := by
      intro j oj hoj hj hno hr
      obtain ⟨h0, o, ho, ha⟩ := mem_ready.1 hr
      obtain rfl : oj = o := by rw [hoj] at ho; exact Option.some.inj ho
      refine mem_ready.2 ⟨by rw [getD_same (hR.main j hj)]; exact h0, oj, hoj, fun e he hb => ?_⟩
      rw [getD_same (hR.main _ (hno e he hb))]
      exact ha e he hb
    have hβ' : ∀ {i : Nat}, ∀ j, (∃ b, β j = some b) → (lF.setIfInBounds i true)[j]? = some true := fun {i} j hj => by
      have h1 := hβ j hj
      by_cases e : i = j
      · subst e
        have := (Array.getElem?_eq_some_iff.1 h1).1
        simp [this]
      · rw [Array.getElem?_setIfInBounds_ne e]; exact h1
    match pl, hm, hpl, htp, h, hal with
    | [], hm, hpl, htp, h, hal =>
      obtain rfl : fs = [] := by simpa [planG] using hpl
      have hl : listed = lF := Array.ext_getElem? fun j => hR.main j (by simp)
      subst hl
      rw [show cost [] + nx [] β + tp.length = tp.length by simp [cost, nx]]
      exact wpTl_sound tp _ _ _ htp (h w hX hE)
    | (i, 0) :: rest, hm, hpl, htp, h, hal =>
      obtain ⟨o, v, hi, hy, h⟩ := h
      simp only [planG, hi, Bool.and_eq_true, Bool.not_eq_true'] at hpl
      obtain ⟨⟨⟨⟨⟨⟨h1, h2⟩, h3⟩, h3'⟩, h4⟩, haw⟩, h5⟩ := hpl
      have hiF : i ∉ fs.map (·.i) := by simpa using h3'
      have hA := away haw
      have hx2 : ∀ x ∈ fs, x.t ∉ o.looksAt ops ∧ o.dst ≠ some x.t ∧ ∀ ox, ops[x.i]? = some ox → o.apart ops ox = true := fun x hx => by
        obtain ⟨ox, g1, _, g3, _⟩ := hok.fl x hx
        obtain ⟨t, e1, e2, e3, _, e5⟩ := hA.2 x.i (List.mem_map.2 ⟨x, hx, rfl⟩) ox g1
        rw [g3] at e1
        obtain rfl := Option.some.inj e1
        exact ⟨e2, e3, fun ox' h' => by rw [g1] at h'; obtain rfl := Option.some.inj h'; exact e5⟩
      have key := ih rest fs bs (listed.setIfInBounds i true) (lF.setIfInBounds i true) β (a.put o.dst v) E w (by simp only [List.length_cons] at hm; omega) (hR.step hiF) (hok.step hsel haw sameFor_put) h5 htp hX hst hE hbl hinj hbs hβ' h
      rw [putX_put fun x hx => (hx2 x hx).2.1] at key
      rw [show cost ((i, 0) :: rest) + nx fs β + tp.length = (cost rest + nx fs β + tp.length) + 1 by rw [cost_ne (by decide)]; omega]
      refine wpAnyU_first hi (Region.noSelect_spec hsel) (fun c a w => hQ c a _ _ w) _ _ _ _ ?_ ?_ (hfrom i o hi hiF hA.1 (by simpa using h2)) (yields_putX (Region.noSelect_spec hsel i o · · hi) hy fun x hx => (hx2 x hx).1) hX key
      · intro j oj hj hji hun hno
        by_cases hin : j ∈ fs.map (·.i)
        · obtain ⟨x, hx, rfl⟩ := List.mem_map.1 hin
          exact (hx2 x hx).2.2 oj hj
        · exact Region.free_spec hi h1 j oj hj hji (by rw [← getD_same (hR.main j hin)]; exact hun) hno
      · intro j oj hj htj hun
        have hjF : j ∉ fs.map (·.i) := fun hin => by
          obtain ⟨x, hx, rfl⟩ := List.mem_map.1 hin
          obtain ⟨_, _, _, _, ht, _⟩ := hok.fl x hx
          rw [ht] at htj; cases htj
        have h6 := List.all_eq_true.1 h4 j (by simpa using htj)
        rw [getD_same (hR.main j hjF)] at hun
        rw [hj] at h6
        simp only [hun, Bool.false_or] at h6
        obtain ⟨e, he, hb⟩ := Array.any_eq_true'.1 h6
        simp only [Bool.and_eq_true] at hb
        exact ⟨e, he, hb.1, depX_of hR _ _ hb.2⟩
    | (i, 2) :: rest, hm, hpl, htp, h, hal =>
      obtain ⟨o, v, hi, hy, h⟩ := h
      simp only [planG, hi, Bool.and_eq_true, Bool.not_eq_true'] at hpl
      obtain ⟨⟨⟨⟨⟨⟨h1, h2⟩, h3⟩, h3'⟩, h4⟩, haw⟩, h5⟩ := hpl
      have hiF : i ∉ fs.map (·.i) := by simpa using h3'
      have hA := away haw
      have hx2 : ∀ x ∈ fs, x.t ∉ o.looksAt ops ∧ o.dst ≠ some x.t ∧ ∀ ox, ops[x.i]? = some ox → o.apart ops ox = true := fun x hx => by
        obtain ⟨ox, g1, _, g3, _⟩ := hok.fl x hx
        obtain ⟨t, e1, e2, e3, _, e5⟩ := hA.2 x.i (List.mem_map.2 ⟨x, hx, rfl⟩) ox g1
        rw [g3] at e1
        obtain rfl := Option.some.inj e1
        exact ⟨e2, e3, fun ox' h' => by rw [g1] at h'; obtain rfl := Option.some.inj h'; exact e5⟩
      have key := ih rest fs bs (listed.setIfInBounds i true) (lF.setIfInBounds i true) β (a.put o.dst v) E w (by simp only [List.length_cons] at hm; omega) (hR.step hiF) (hok.step hsel haw sameFor_put) h5 htp hX hst hE hbl hinj hbs hβ' h
      rw [putX_put fun x hx => (hx2 x hx).2.1] at key
      rw [show cost ((i, 2) :: rest) + nx fs β + tp.length = (cost rest + nx fs β + tp.length) + 1 by rw [cost_ne (by decide)]; omega]
      refine wpAnyU_pure hi (Region.noSelect_spec hsel) h4 (fun c a w => hQ c a _ _ w) _ _ _ _ ?_ (hfrom i o hi hiF hA.1 (by simpa using h2)) (yields_putX (Region.noSelect_spec hsel i o · · hi) hy fun x hx => (hx2 x hx).1) key
      intro j oj hj hji hun hno
      by_cases hin : j ∈ fs.map (·.i)
      · obtain ⟨x, hx, rfl⟩ := List.mem_map.1 hin
        exact (hx2 x hx).2.2 oj hj
      · exact Region.free_spec hi h1 j oj hj hji (by rw [← getD_same (hR.main j hin)]; exact hun) hno
    | (i, 3) :: rest, hm, hpl, htp, h, hal =>
      obtain ⟨x, fs', hfs, h9⟩ := h
      subst hfs
      simp only [planG, List.map_cons, List.head?_cons, List.tail_cons, Bool.and_eq_true, beq_iff_eq, Option.some.injEq, List.all_eq_true] at hpl
      obtain ⟨⟨h1, h2⟩, h3⟩ := hpl
      cases hb : β x.i with
      | some b =>
        obtain ⟨g1, g2, g3⟩ := hbl x (by simp) b hb
        obtain ⟨E', hst', hE', hk⟩ := h9 b g2 g3 hst
        have hn := hok.n1
        have hn2 := hok.n2
        simp only [List.map_cons, List.nodup_cons, List.mem_map, not_exists, not_and] at hn hn2
        have hlt : b < w.heap.size := by
          rcases Nat.lt_or_ge b w.heap.size with hl | hl
          · exact hl
          · rw [Array.getElem?_eq_none hl] at g1; cases g1
        have hok' : FgOk P ops tl fs' lF (a.put (some x.t) (x.yv b)) := by
          refine ⟨fun y hy => ?_, hn.2, hn2.2⟩
          obtain ⟨oy, k1, k2, k3, k4, k5, k6, k7⟩ := hok.fl y (by simp [hy])
          refine ⟨oy, k1, (wanted_put oy _ _ _ (fun e he => by obtain rfl := Option.some.inj he; exact k6 x (by simp))).trans k2, k3, k4, fun e he hb' => ⟨(k5 e he hb').1, fun hin => (k5 e he hb').2 (by simp only [List.map_cons, List.mem_cons]; exact .inr hin)⟩, fun z hz => k6 z (by simp [hz]), fun w => ?_⟩
          rw [execOp_put oy (fun cs b => Region.noSelect_spec hsel y.i oy cs b k1) _ _ _ (fun e he => by obtain rfl := Option.some.inj he; exact k6 x (by simp))]
          exact k7 w
        have key := ih rest fs' (b :: bs) listed lF β (a.put (some x.t) (x.yv b)) E' w (by
            have : nx fs' β ≤ nx (x :: fs') β := by unfold nx; rw [List.countP_cons]; omega
            simp only [List.length_cons] at hm; omega) (hR.wait (by rw [hb]; rfl)) hok' h3 htp hX hst' (hE' w hX hE g1)
          (fun y hy b' hyb => by
            obtain ⟨k1, k2, k3⟩ := hbl y (by simp [hy]) b' hyb
            refine ⟨k1, k2, fun hin => ?_⟩
            rcases List.mem_cons.1 hin with rfl | hin
            · exact hn.1 y hy (hinj y (by simp [hy]) x (by simp) _ hyb hb)
            · exact k3 hin)
          (fun y hy z hz b' hyb hzb => hinj y (by simp [hy]) z (by simp [hz]) b' hyb hzb)
          (fun b' hb' => by
            rcases List.mem_cons.1 hb' with rfl | hb'
            · exact hlt
            · exact hbs b' hb') hβ hk
        rw [putX_put fun y hy e => hn2.1 y hy (Option.some.inj e).symm] at key
        rw [show cost ((i, 3) :: rest) + nx (x :: fs') β + tp.length = cost rest + nx fs' β + tp.length by rw [cost_eq]; unfold nx; rw [List.countP_cons, hb]; rfl]
        unfold putX
        rw [hb]
        exact key
      | none =>
        have hnp : 1 ≤ nx (x :: fs') β := by unfold nx; rw [List.countP_cons, hb]; simp
        obtain ⟨f, hf⟩ : ∃ f, cost ((i, 3) :: rest) + nx (x :: fs') β + tp.length = f + 1 := ⟨cost ((i, 3) :: rest) + nx (x :: fs') β + tp.length - 1, by omega⟩
        rw [hf]
        refine ⟨fun h0 => (by have := hfr x (by simp) hb; rw [h0] at this; cases this), fun j hj => ?_⟩
        by_cases hin : j ∈ (x :: fs').map (·.i)
        · obtain ⟨y, hy, rfl⟩ := List.mem_map.1 hin
          exact hal y hy (hfl y hy hj) f hf
        · exfalso
          have h4 := h2 j (hto j hin hj)
          obtain ⟨_, oj, hoj, ha⟩ := mem_ready.1 hj
          rw [hoj] at h4
          obtain ⟨e, he, hb'⟩ := Array.any_eq_true'.1 h4
          simp only [Bool.and_eq_true, beq_iff_eq] at hb'
          have h5 := ha e he hb'.1
          rw [hb'.2, ← h1, getD_of (hR.done x (by simp)).1, hb] at h5
          cases h5
    | (i, 4) :: rest, hm, hpl, htp, h, hal =>
      obtain ⟨x, o, rfl, hi, hd, hwa, hrun, h⟩ := h
      simp only [planG, hi, Bool.and_eq_true, Bool.not_eq_true', beq_iff_eq, Array.all_eq_true_iff_forall_mem] at hpl
      obtain ⟨⟨⟨⟨h1, h2⟩, h3⟩, ⟨h5, hself⟩, haw⟩, h6⟩ := hpl
      rw [hd] at hself
      have hself' : x.t ∉ o.looksAt ops := by simpa using hself
      have hiF : x.i ∉ fs.map (·.i) := by simpa using h3
      have hA := away haw
      have hbn : β x.i = none := by
        cases hb : β x.i with
        | none => rfl
        | some b => have := hβ x.i ⟨b, hb⟩; rw [h1] at this; cases this
      have hx2 : ∀ y ∈ fs, y.t ∉ o.looksAt ops ∧ y.t ≠ x.t ∧ ∀ oy, ops[y.i]? = some oy → x.t ∉ oy.looksAt ops := fun y hy => by
        obtain ⟨oy, g1, _, g3, _⟩ := hok.fl y hy
        obtain ⟨t, e1, e2, e3, e4, _⟩ := hA.2 y.i (List.mem_map.2 ⟨y, hy, rfl⟩) oy g1
        rw [g3] at e1
        obtain rfl := Option.some.inj e1
        exact ⟨e2, fun e => e3 (by rw [hd, e]), fun oy' h' => by rw [g1] at h'; obtain rfl := Option.some.inj h'; exact e4 _ hd⟩
      have hnx : nx (x :: fs) β = nx fs β + 1 := by unfold nx; rw [List.countP_cons, hbn]; simp
      have hokL : FgOk P ops tl (x :: fs) (lF.setIfInBounds x.i true) a := by
        have hup : ∀ k : Nat, lF[k]? = some true → (lF.setIfInBounds x.i true)[k]? = some true := fun k hk => by
          have hne : x.i ≠ k := fun e => by rw [e, hk] at h1; cases h1
          rw [Array.getElem?_setIfInBounds_ne hne]; exact hk
        have hno : ∀ k : Nat, lF[k]? = some true → k ∉ fs.map (·.i) → k ∉ (x :: fs).map (·.i) := fun k hk hn hin => by
          simp only [List.map_cons, List.mem_cons] at hin
          rcases hin with rfl | hin
          · rw [hk] at h1; cases h1
          · exact hn hin
        refine ⟨fun y hy => ?_, ?_, ?_⟩
        · rcases List.mem_cons.1 hy with rfl | hy
          · refine ⟨o, hi, hwa, hd, h2, fun e he hb => ?_, fun z hz => ?_, hrun⟩
            · have h7 := h5 e he
              rw [hb] at h7
              simp only [Bool.not_true, Bool.false_or] at h7
              have h8 : lF[e.on]? = some true := by
                cases hg : lF[e.on]? with
                | none => simp [hg] at h7
                | some c => simp [hg] at h7; rw [h7]
              exact ⟨hup _ h8, hno _ h8 (hA.1 e he hb)⟩
            · rcases List.mem_cons.1 hz with rfl | hz
              · exact hself'
              · exact (hx2 z hz).1
          · rename_i hy9
            have hy8 : y ∈ fs := by assumption
            obtain ⟨oy, k1, k2, k3, k4, k5, k6, k7⟩ := hok.fl y hy8
            have hy7 := (hx2 y hy8).2.2 oy k1
            refine ⟨oy, k1, k2, k3, k4, fun e he hb => ⟨hup _ (k5 e he hb).1, hno _ (k5 e he hb).1 (k5 e he hb).2⟩, fun z hz => ?_, k7⟩
            rcases List.mem_cons.1 hz with rfl | hz
            · exact hy7
            · exact k6 z hz
        · simp only [List.map_cons, List.nodup_cons]; exact ⟨hiF, hok.n1⟩
        · simp only [List.map_cons, List.nodup_cons, List.mem_map, not_exists, not_and]; exact ⟨fun y hy e => (hx2 y hy).2.1 e, hok.n2⟩
      have key := ih rest (x :: fs) bs listed (lF.setIfInBounds x.i true) β a E w (by simp only [List.length_cons] at hm; omega) (hR.launch hiF h1 hbn) hokL h6 htp hX hst hE
        (fun y hy b hyb => by
          rcases List.mem_cons.1 hy with rfl | hy
          · rw [hbn] at hyb; cases hyb
          · exact hbl y hy b hyb)
        (fun y hy z hz b hyb hzb => by
          rcases List.mem_cons.1 hy with rfl | hy
          · rw [hbn] at hyb; cases hyb
          · rcases List.mem_cons.1 hz with rfl | hz
            · rw [hbn] at hzb; cases hzb
            · exact hinj y hy z hz b hyb hzb) hbs hβ' h
      rw [show cost ((x.i, 4) :: rest) + nx fs β + tp.length = cost rest + nx (x :: fs) β + tp.length by rw [hnx, cost_ne (by decide)]; omega]
      unfold putX at key
      rw [hbn] at key
      exact key
    | (i, 5) :: rest, hm, hpl, htp, h, hal =>
      simp only [planG, Bool.and_eq_true, Bool.not_eq_true', beq_iff_eq] at hpl
      obtain ⟨⟨⟨⟨⟨h0, h1⟩, h2⟩, h4⟩, haw⟩, h5⟩ := hpl
      obtain rfl : fs = [] := by simpa using h0
      have hiF : i ∉ ([] : List FX).map (·.i) := by simp
      have hir : i ∈ Region.ready .any ops lF := by rw [h1]; simp
      obtain ⟨_, o, hi, _⟩ := mem_ready.1 hir
      rw [hi] at haw
      have hA := away haw
      obtain ⟨f, hf⟩ : ∃ f, cost rest + nx [] β + tp.length = f := ⟨_, rfl⟩
      have hf1 : ∀ k, k ≠ 3 → cost ((i, k) :: rest) + nx [] β + tp.length = f + 1 := fun k hk => by rw [← hf, cost_ne hk]; omega
      rw [hf1 _ (by omega)]
      refine ⟨fun h0 => (by have := hfrom i o hi hiF hA.1 hir; rw [h0] at this; cases this), fun j hj => ?_⟩
      have hjr := hto j (by simp) hj
      rw [h1] at hjr
      obtain rfl : j = i := by simpa using hjr
      refine wpOp_mono ?_ (wpOp_putX (β := β) hi (Region.noSelect_spec hsel j o · · hi) hQ' (wpOp_same hi (h w hX hE)) (fs := []) (fun x hx => by cases hx))
      rintro a' w' ⟨a'', rfl, hsm, hXw, hsz, E', hst', hE', hk⟩
      have key := ih rest [] bs (listed.setIfInBounds j true) (lF.setIfInBounds j true) β _ E' w' (by simp only [List.length_cons] at hm; omega) (hR.step hiF) (hok.step hsel haw hsm) h5 htp hXw hst' hE' (fun x hx => by cases hx) (fun x hx => by cases hx) (fun b hb => by have := hbs b hb; omega) hβ' hk
      rw [hf] at key
      exact ⟨fun _ _ => hXw, key⟩
    | (i, 1) :: rest, hm, hpl, htp, h, hal | (i, k + 6) :: rest, hm, hpl, htp, h, hal =>
      simp only [planG, Bool.and_eq_true, Bool.not_eq_true', beq_iff_eq] at hpl
      obtain ⟨⟨⟨⟨⟨h1, h2⟩, h3⟩, h4⟩, haw⟩, h5⟩ := hpl
      have hiF : i ∉ fs.map (·.i) := by simpa using h3
      have hir : i ∈ Region.ready .any ops lF := by rw [h1]; simp
      obtain ⟨_, o, hi, _⟩ := mem_ready.1 hir
      rw [hi] at haw
      have hA := away haw
      have hx2 : ∀ x ∈ fs, x.t ∉ o.looksAt ops ∧ o.dst ≠ some x.t := fun x hx => by
        obtain ⟨ox, g1, _, g3, _⟩ := hok.fl x hx
        obtain ⟨t, e1, e2, e3, _, e5⟩ := hA.2 x.i (List.mem_map.2 ⟨x, hx, rfl⟩) ox g1
        rw [g3] at e1
        obtain rfl := Option.some.inj e1
        exact ⟨e2, e3⟩
      obtain ⟨f, hf⟩ : ∃ f, cost rest + nx fs β + tp.length = f := ⟨_, rfl⟩
      have hf1 : ∀ k, k ≠ 3 → cost ((i, k) :: rest) + nx fs β + tp.length = f + 1 := fun k hk => by rw [← hf, cost_ne hk]; omega
      rw [hf1 _ (by omega)]
      refine ⟨fun h0 => (by have := hfrom i o hi hiF hA.1 hir; rw [h0] at this; cases this), fun j hj => ?_⟩
      by_cases hin : j ∈ fs.map (·.i)
      · obtain ⟨x, hx, rfl⟩ := List.mem_map.1 hin
        exact hal x hx (hfl x hx hj) f (hf1 _ (by omega))
      · have hjr := hto j hin hj
        rw [h1] at hjr
        obtain rfl : j = i := by simpa using hjr
        refine wpOp_mono ?_ (wpOp_putX (β := β) hi (Region.noSelect_spec hsel j o · · hi) hQ' (wpOp_same hi (h w hX hE)) (fs := fs) hx2)
        rintro a' w' ⟨a'', rfl, hsm, hXw, E', hst', hE', hk⟩
        have key := ih rest fs bs (listed.setIfInBounds j true) (lF.setIfInBounds j true) β a'' E' w' (by simp only [List.length_cons] at hm; omega) (hR.step hiF) (hok.step hsel haw hsm) h5 htp (hX.trans hXw) hst' hE' ?_ hinj (fun b hb => by have := hbs b hb; have := hXw.size; omega) hβ' hk
        · rw [hf] at key
          exact ⟨fun _ _ => hX.trans hXw, key⟩
        · intro y hy b hyb
          obtain ⟨g1, g2, g3⟩ := hbl y hy b hyb
          have hlt : b < w.heap.size := by
            rcases Nat.lt_or_ge b w.heap.size with hl | hl
            · exact hl
            · rw [Array.getElem?_eq_none hl] at g1; cases g1
          exact ⟨by rw [hXw.block hlt]; exact g1, g2, g3⟩
/-- **The region, by a plan, with operations that may come up at any time.** -/
theorem wp_floatG {id : Nat} {a : Act} {w : World} (pl : List (Nat × Nat)) (tp tl pu : List Nat) (hm : P.follows .mixedOrders = true) (hsel : Region.noSelect ops = true)
    (hok : (planG ops tl pu (Array.replicate ops.size false) [] pl && tailOk ops tl (listG (Array.replicate ops.size false) pl) tp && cost pl + tp.length == ops.size) = true)
    (hQ : ∀ c a d v w, Q (.panic c) (a.put d v) w → Q (.panic c) a w) (hQ' : ∀ c a d v w, Q (.panic c) a w → Q (.panic c) (a.put d v) w)
    (h : wpFg P ops Q w.drew tp pl [] [] a (fun _ => True)) : (Code.region id ops true).wp P Q a w := by
  simp only [Bool.and_eq_true, beq_iff_eq] at hok
  obtain ⟨⟨h2, h3⟩, h4⟩ := hok
  refine wp_region_any hm (wpAny_of_U (S := Ext w.drew) (tl := tl) (pu := pu) _ _ _ _ ?_)
  have key := wpFg_sound (P := P) (Q := Q) (W0 := w.drew) (tp := tp) (pu := pu) (tl := tl) hsel hQ hQ' (2 * pl.length) pl [] [] (Array.replicate ops.size false) _ (fun _ => none) a (fun _ => True) w.drew (by simp [nx]) ⟨rfl, fun _ _ => rfl, fun x hx => (by cases hx)⟩
    ⟨fun x hx => (by cases hx), by simp, by simp⟩ h2 h3 (Ext.refl _) (fun _ _ _ _ => trivial) trivial (fun x hx => by cases hx) (fun x hx => by cases hx) (fun b hb => by cases hb) (fun j ⟨b, hb⟩ => by cases hb) h
  rw [show cost pl + nx [] (fun _ => none) + tp.length = ops.size by rw [← h4]; simp [nx]] at key
  exact key
variable {W0 : World} {fs : List FX} {bs tp : List Nat} {a : Act} {E : World → Prop} {i : Nat} {rest : List (Nat × Nat)} {o : Oper}
theorem wpFg_read {v : Value} (hi : ops.toList[i]? = some o) (hw : Region.wanted o (yielded ops a.tmps) = true) (h : ∀ w, Ext W0 w → (execOp a.eval o).run P w = .ok (.value v) w) (k : wpFg P ops Q W0 tp rest fs bs (a.put o.dst v) E) :
    wpFg P ops Q W0 tp ((i, 0) :: rest) fs bs a E := ⟨o, v, by simpa using hi, .inl ⟨hw, h⟩, k⟩
theorem wpFg_eff (hi : ops.toList[i]? = some o) (hw : Region.wanted o (yielded ops a.tmps) = true)
    (h : ∀ w, Ext W0 w → E w → ∀ K : Act → World → Prop, (∀ a' w' (E' : World → Prop), Ext w w' → (∀ w1 w2, Ext w1 w2 → E' w1 → E' w2) → E' w' → wpFg P ops Q W0 tp rest fs bs a' E' → K a' w') → o.wp P a w K Q) :
    wpFg P ops Q W0 tp ((i, 1) :: rest) fs bs a E := by
  have hi' : ops[i]? = some o := by simpa using hi
  intro w hX hE
  unfold wpOp
  simp only [hi', hw, if_true]
  exact .inl (h w hX hE _ fun a' w' E' h1 h2 h3 h4 => ⟨h1, E', h2, h3, h4⟩)
theorem wpFg_done (h : ∀ w, Ext W0 w → E w → wpTl P ops Q tp a w) : wpFg P ops Q W0 tp [] fs bs a E := by
  unfold wpFg
  exact h
theorem wpFg_store (hi : ops.toList[i]? = some o) (hw : Region.wanted o (yielded ops a.tmps) = true)
    (h : ∀ w, Ext W0 w → E w → ∀ K : Act → World → Prop, (∀ a' w' (E' : World → Prop), Ext W0 w' → w.heap.size ≤ w'.heap.size → (∀ w1 w2, Ext w1 w2 → E' w1 → E' w2) → E' w' → wpFg P ops Q W0 tp rest fs bs a' E' → K a' w') → o.wp P a w K Q) :
    wpFg P ops Q W0 tp ((i, 5) :: rest) fs bs a E := by
  have hi' : ops[i]? = some o := by simpa using hi
  intro w hX hE
  unfold wpOp
  simp only [hi', hw, if_true]
  exact .inl (h w hX hE _ fun a' w' E' h1 h2 h3 h4 h5 => ⟨h1, h2, E', h3, h4, h5⟩)
theorem wpFg_launch {t : Nat} (ob : Obj) (mk : Nat → Value) (hi : ops.toList[i]? = some o) (hd : o.dst = some t) (hw : Region.wanted o (yielded ops a.tmps) = true) (h : ∀ w, (execOp a.eval o).run P w = .ok (.value (mk w.heap.size)) (w.alloc ob)) (k : wpFg P ops Q W0 tp rest (⟨i, t, ob, mk⟩ :: fs) bs a E) :
    wpFg P ops Q W0 tp ((i, 4) :: rest) fs bs a E := ⟨⟨i, t, ob, mk⟩, o, rfl, by simpa using hi, hd, hw, h, k⟩
theorem wpFg_wait {x : FX} (h : ∀ b, W0.heap.size ≤ b → b ∉ bs → (∀ w1 w2, Ext w1 w2 → E w1 → E w2) → ∃ E' : World → Prop, (∀ w1 w2, Ext w1 w2 → E' w1 → E' w2) ∧ (∀ w, Ext W0 w → E w → w.heap[b]? = some x.ob → E' w) ∧ wpFg P ops Q W0 tp rest fs (b :: bs) (a.put (some x.t) (x.yv b)) E') :
    wpFg P ops Q W0 tp ((i, 3) :: rest) (x :: fs) bs a E := ⟨x, fs, rfl, h⟩
end
end Go.Proofs.YtkcoikelcmpceaaGreatDoor
namespace Go.Proofs.YtkcoikelcmpceaaGreatDoor
open Go.RowKit
theorem kargs_block {w : World} {t : TypeId} {p : Nat} {cs : Array Value} (xs : List Ar) (hb : w.heap[p]? = some (.cells cs t)) (hc : cs = (acells xs).toArray) {n : Nat} (hn : xs.length = n) (hs : n ≤ 9223372036854775807) (h : ∀ a ∈ xs, ArOk w a) :
    ArgsIn w (some ⟨p, 0, none⟩) n n xs :=
  ⟨by subst hc; exact Rd.of_row hb 0 (Nat.zero_le _), hn, Nat.le_refl _, hs, h⟩
theorem kargs_new {w : World} {t : TypeId} {p : Nat} {cs : Array Value} (xs : List Ar) (hp : p = w.heap.size) (hc : cs = (acells xs).toArray) {n : Nat} (hn : xs.length = n) (hs : n ≤ 9223372036854775807) (h : ∀ a ∈ xs, ArOk w a) :
    ArgsIn (w.alloc (.cells cs t)) (some ⟨p, 0, none⟩) n n xs :=
  kargs_block xs (by subst hp; exact heap_alloc_new _ _) hc hn hs fun a ha => (h a ha).ext ((Ext.refl _).alloc _)
theorem karr_block {w : World} {t : TypeId} {p : Nat} {cs : Array Value} (l : List Val) (h : w.heap[p]? = some (.cells cs t)) (hc : cs = (vcells l).toArray) {n : Nat} (hn : l.length = n) (hs : n ≤ 9223372036854775807) (hok : ∀ x ∈ l, x.ok) :
    ArrIn w (some ⟨p, 0, none⟩) n n l :=
  ⟨by subst hc; exact Rd.of_row h 0 (Nat.zero_le _), hn, Nat.le_refl _, hs, hok⟩
theorem karr_new {w : World} {t : TypeId} {p : Nat} {cs : Array Value} (l : List Val) (hp : p = w.heap.size) (hc : cs = (vcells l).toArray) {n : Nat} (hn : l.length = n) (hs : n ≤ 9223372036854775807) (hok : ∀ x ∈ l, x.ok) :
    ArrIn (w.alloc (.cells cs t)) (some ⟨p, 0, none⟩) n n l := by
  subst hp; exact karr_block l (heap_alloc_new _ _) hc hn hs hok
/-- An array of one value. -/
abbrev kOne (y : Val) (p : Nat) : Ar := arAt (rowA [y]) (some ⟨p, 0, none⟩) 1 1
theorem kOne_ok {w : World} {y : Val} {p : Nat} (h : ArrIn w (some ⟨p, 0, none⟩) 1 1 [y]) (hr : y.right) : ArOk w (kOne y p) := ⟨h, one_row hr⟩
abbrev kvB (x : Val) : Obj := .cells #[.int .i64 x.kind, .int .i64 x.mant, .int .i64 x.exp, .string x.text, .bool x.truth, .int .i64 x.fault] 30
abbrev kset (w : World) (b : Nat) (x : Val) : World := (((((w.setCell ⟨b, 0, none⟩ (.int .i64 x.kind)).setCell ⟨b, 1, none⟩ (.int .i64 x.mant)).setCell ⟨b, 2, none⟩ (.int .i64 x.exp)).setCell ⟨b, 3, none⟩ (.string x.text)).setCell ⟨b, 4, none⟩ (.bool x.truth)).setCell ⟨b, 5, none⟩ (.int .i64 x.fault)
theorem kset_heap {w : World} {b : Nat} {x : Val} {c0 c1 c2 c3 c4 c5 : Value} (h : w.heap[b]? = some (.cells #[c0, c1, c2, c3, c4, c5] 30)) : (kset w b x).heap[b]? = some (kvB x) := by
  have h0 := heap_setCell_same _ b 0 _ _ (.int .i64 x.kind) h
  have h1 := heap_setCell_same _ b 1 _ _ (.int .i64 x.mant) h0
  have h2 := heap_setCell_same _ b 2 _ _ (.int .i64 x.exp) h1
  have h3 := heap_setCell_same _ b 3 _ _ (.string x.text) h2
  have h4 := heap_setCell_same _ b 4 _ _ (.bool x.truth) h3
  have h5 := heap_setCell_same _ b 5 _ _ (.int .i64 x.fault) h4
  simpa using h5
theorem kset_other {w : World} {b q : Nat} {x : Val} (h : q ≠ b) : (kset w b x).heap[q]? = w.heap[q]? := by
  unfold kset
  rw [Below.heap_setCell _ _ _ _ h, Below.heap_setCell _ _ _ _ h, Below.heap_setCell _ _ _ _ h, Below.heap_setCell _ _ _ _ h, Below.heap_setCell _ _ _ _ h, Below.heap_setCell _ _ _ _ h]
theorem kset_ext {W0 w : World} {b : Nat} {x : Val} (h : Ext W0 w) (hb : W0.heap.size ≤ b) : Ext W0 (kset w b x) :=
  (((((Below.setCell h hb _).setCell hb _).setCell hb _).setCell hb _).setCell hb _).setCell hb _
theorem kvB_at {w : World} {b : Nat} {x : Val} (h : w.heap[b]? = some (kvB x)) : ValAt w b 0 x :=
  ⟨cell_of_row _ _ 0 _ _ _ h, cell_of_row _ _ 1 _ _ _ h, cell_of_row _ _ 2 _ _ _ h, cell_of_row _ _ 3 _ _ _ h, cell_of_row _ _ 4 _ _ _ h, cell_of_row _ _ 5 _ _ _ h⟩
/-- A row of values whose length is told. -/
abbrev kAr (l : List Val) (D : Option Addr) (n c : Nat) : Ar := ⟨⟨1, n, l⟩, D, n, c⟩
theorem kAr_ok {w : World} {l : List Val} {D : Option Addr} {n c : Nat} (h : ArrIn w D n c l) (h0 : 0 < n) (h1 : n ≤ 4096) (hr : ∀ x ∈ l, x.right) : ArOk w (kAr l D n c) := by
  have hl := h.len
  subst hl
  exact ⟨h, rowA_right h0 h1 hr⟩
end Go.Proofs.YtkcoikelcmpceaaGreatDoor
namespace Go.Proofs.YtkcoikelcmpceaaGreatDoor
open Go.RowKit NM
def nW (i : Int) : Val := nV (wholeN i)
theorem nW_rt {i : Int} (h : i.natAbs < T 15) : Rt (wholeN i).1 (wholeN i).2 := (wholex h).2.1
theorem nW_right {i : Int} (h : i.natAbs < T 15) : (nW i).right := right_num (nW_rt h)
end Go.Proofs.YtkcoikelcmpceaaGreatDoor
namespace Go.Proofs.YtkcoikelcmpceaaGreatDoor
open Go.RowKit NM
theorem floor_self {m e : Int} (h : Rt m e) (he : 0 ≤ e) : floorS m e = (m, e) := by
  unfold floorS
  rw [if_neg (fun h' => h' h), if_pos he]
theorem int_whole {n : Int} (h : n.natAbs < T 15) : intS (wholeN n).1 (wholeN n).2 = some n := by
  obtain ⟨h1, h2, h3, h4, h5⟩ := wholex h
  generalize wholeN n = p at *
  obtain ⟨m, e⟩ := p
  simp only at *
  have hH := HX_pos
  have hq : m * (T e.toNat : Nat) = n := by
    rw [sc_whole h5, sc_whole (m := n) (e := 0) (by omega)] at h3
    have h6 := Int.eq_of_mul_eq_mul_right (by omega) h3
    rw [h6]
    show n * ((T 0 : Nat) : Int) = n
    simp [T]
  have hT15 : T 15 = 1000000000000000 := by decide
  rw [hT15] at h
  unfold intS
  rw [if_neg (by rintro (h | h); exact h h2; omega), int_go _ _ (by rw [hq]; omega), hq]
theorem whole_cnt {n : Int} (h : n.natAbs < T 15) : wholeO (cntV n) = (n, 0) := by
  obtain ⟨h1, h2, h3, h4, h5⟩ := wholex h
  have hi := int_whole h
  have h6 : tnF (cntV n) = 0 := rfl
  have h7 : tnP (cntV n) = ((wholeN n).1, (wholeN n).2) := rfl
  unfold wholeO
  rw [if_pos h6, h7]
  simp only
  rw [floor_self h2 h5]
  simp only
  rw [hi]
  rfl
end Go.Proofs.YtkcoikelcmpceaaGreatDoor
