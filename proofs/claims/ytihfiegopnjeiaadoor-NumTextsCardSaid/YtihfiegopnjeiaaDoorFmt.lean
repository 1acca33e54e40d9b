/- strconv.FormatUint at base 10: the decimal numeral. -/
import Derived.Test.YtihfiegopnjeiaaDoorNVal
import Derived.Test.YtihfiegopnjeiaaDoorMath
import Derived.Test.YtihfiegopnjeiaaDoorShelf
import Derived.Lib.ItoaMem
namespace Go.Proofs.YtihfiegopnjeiaaDoor
set_option linter.unusedSimpArgs false
set_option linter.unusedVariables false
open Go.RowKit Go.Sort Go.Lib NM

/-- The table of powers of ten lies where start-up has laid it. -/
def Tab (w : World) : Prop := Lib.TabIs Tryd.prog w "internal/strconv.uint64pow10" .u64 Lib.pow10Tab
theorem Tab.ext {w w' : World} (h : Tab w) (hx : Ext w w') : Tab w' := by
  unfold Tab Lib.TabIs World.var? at *
  cases hg : Tryd.prog.globalNamed "internal/strconv.uint64pow10" with
  | none => simp [hg] at h
  | some g =>
    simp only [hg, Option.bind_some] at h ⊢
    have hlt : g < w.heap.size := by
      rcases Nat.lt_or_ge g w.heap.size with h' | h'
      · exact h'
      · rw [Array.getElem?_eq_none h'] at h; simp at h
    rw [hx.block hlt]
    exact h

theorem holds_zero0 (w : World) (t : TypeId) (n : Nat) (hs : n ≤ 24) : Holds (fun (b : UInt8) => Value.int .u8 (b.toNat : Int)) (w.alloc (.cells Lib.zeros24 t)) w.heap.size 0 (Array.replicate n (0 : UInt8)) := fun j hj => by
  have hj' : j < n := by simpa using hj
  refine ⟨?_, World.frozen?_alloc_new _ _ _ _⟩
  rw [World.cell?_alloc_new, Lib.zeros24_at _ (by omega), getElem!_pos _ j hj]
  simp
theorem ext_row (w : World) (o : Obj) (dk : Array UInt8) (k : Nat) : Ext w ((putRow (fun (b : UInt8) => Value.int .u8 (b.toNat : Int)) (w.alloc o) w.heap.size 0 dk).drewN k) := by
  obtain ⟨os, e⟩ : ∃ os, (putRow (fun (b : UInt8) => Value.int .u8 (b.toNat : Int)) (w.alloc o) w.heap.size 0 dk).drewN k = grow (w.drewN k) os := by
    rw [alloc_eq_grow]
    obtain ⟨os', _, e⟩ := putRow_grow_new (fun (b : UInt8) => Value.int .u8 (b.toNat : Int)) w #[o] w.heap.size 0 dk (Nat.le_refl _)
    exact ⟨os', by rw [e]; rfl⟩
  rw [e]
  exact ⟨rfl, rfl, rfl, by simp [grow, World.drewN], fun j hj => by simp only [grow, World.drewN]; rw [Array.getElem?_append_left hj]⟩

set_option maxHeartbeats 6400000 in
set_option maxRecDepth 100000 in
theorem fmtIn_any (u : Nat) (hu64 : u < 18446744073709551616) (w : World) (htab : Tab w) :
    Calls Tryd.prog 76 #[.int .u64 u, .int .i64 10] w fun e w' => e = .returned (.string ⟨(Lib.decDigits u).toArray⟩) ∧ Ext w w' := by
  by_cases hs : u < 100
  · have h1 : ((u : Int) < 100) := by omega
    go_enter Tryd.func76, Tryd.ntmps76
    go_wp2_with (go_at_call 84; refine (Tryd.internal_strconv_small u hs _).mono ?_; rintro e w' ⟨rfl, rfl⟩)
    go_ret
    exact ⟨rfl, Ext.refl _⟩
  · have hu1 : 1 ≤ u := by omega
    have hnd20 : Lib.nDigits u ≤ 20 := by have := Lib.numDigits_eq u hu1 hu64; split at this <;> omega
    have h1 : ¬ ((u : Int) < 100) := by omega
    have hal : Tryd.prog.arrayLen 98 = 24 := by kernel_rfl
    have hsl1 : ∀ W, (Instr.sliceAt 98 (.pointer (some ⟨w.heap.size, 0, none⟩)) none (some (.int .i64 (Lib.nDigits u : Int))) none).run Tryd.prog W = .ok (.slice (some ⟨w.heap.size, 0, none⟩) (Lib.nDigits u) 24) W := fun W => by
      rw [run_sliceAt_array_h W 98 ⟨w.heap.size, 0, none⟩ Tryd.underlying98 .i64 (Lib.nDigits u : Int) (by omega) (by rw [hal]; omega)]
      go_simp
      try omega
    have hH0 := holds_zero0 w 98 (Lib.nDigits u) (by omega)
    have hfmt := Tryd.internal_strconv_formatBase10 w.heap.size 0 24 u (Array.replicate (Lib.nDigits u) 0) (w.alloc (.cells Lib.zeros24 98)) hH0 (by rw [Array.size_replicate]; exact Lib.lt_pow_nDigits u) hu64 (by rw [Array.size_replicate]; omega)
    rw [Array.size_replicate] at hfmt
    have HH0 := Lib.hid hH0
    clear hH0 hal
    have htab' : Tab (w.alloc (.cells Lib.zeros24 98)) := htab.ext ((Ext.refl _).alloc _)
    go_enter Tryd.func76, Tryd.ntmps76
    go_wp2_with (go_at_call 85; refine (Tryd.internal_strconv_numDigits u hu1 hu64 _ htab').mono ?_; rintro e w' ⟨rfl, rfl⟩)
    go_at_call 86
    refine hfmt.mono ?_
    rintro e w' ⟨rfl, k, v', dk, rfl, hF⟩
    have hcv : (convert 50 9 (.slice (some ⟨w.heap.size, 0, none⟩) (Lib.nDigits u) 24)).run Tryd.prog ((putRow (fun (b : UInt8) => Value.int .u8 (b.toNat : Int)) (w.alloc (.cells Lib.zeros24 98)) w.heap.size 0 dk).drewN k) = .ok (.string ⟨(Lib.decDigits u).toArray⟩) ((putRow (fun (b : UInt8) => Value.int .u8 (b.toNat : Int)) (w.alloc (.cells Lib.zeros24 98)) w.heap.size 0 dk).drewN k) := by
      have h := run_convert_bytes_back (P := Tryd.prog) ((putRow (fun (b : UInt8) => Value.int .u8 (b.toNat : Int)) (w.alloc (.cells Lib.zeros24 98)) w.heap.size 0 dk).drewN k) 50 9 5 ⟨w.heap.size, 0, none⟩ 24 (Lib.decDigits u) Tryd.underlying50 Tryd.underlying5 Tryd.underlying9 (fun j hj => by
        rw [Lib.row_is_numeral hF j hj, Lib.add_plain, World.cell?_drewN]
        exact cell?_putRow (fun (b : UInt8) => Value.int .u8 (b.toNat : Int)) _ w.heap.size 0 _ dk HH0.out (by rw [hF.size, Array.size_replicate]) j (by rw [hF.size]; rw [Lib.decDigits_length] at hj; exact hj))
      rw [Lib.decDigits_length] at h
      exact h
    go_wp2
    go_ret
    exact ⟨rfl, ext_row _ _ _ _⟩

set_option maxHeartbeats 400000 in
theorem fmt_any (u : Nat) (hu64 : u < 18446744073709551616) (w : World) (htab : Tab w) :
    Calls Tryd.prog 56 #[.int .u64 u, .int .i64 10] w fun e w' => e = .returned (.string ⟨(Lib.decDigits u).toArray⟩) ∧ Ext w w' := by
  go_enter Tryd.func56, Tryd.ntmps56
  go_wp2_with (go_at_call 76; refine (fmtIn_any u hu64 _ htab).mono ?_; rintro e w' ⟨rfl, hb⟩; obtain ⟨os, d, rfl⟩ := hb.more)
  go_ret
  exact ⟨rfl, by repeat (first | exact Ext.refl _ | apply Ext.drew | apply Ext.alloc | apply Ext.more_)⟩

/-- The digits of n; of 0: one nought. -/
def dig0 (n : Nat) : List Nat := if n = 0 then [0] else dig n
theorem dig0_val (n : Nat) : val (dig0 n) = n := by
  unfold dig0
  split
  · subst n; rfl
  · exact val_dig n
theorem dig0_all (n : Nat) : AllD (dig0 n) := by
  unfold dig0
  split
  · exact AllD.cons (by omega) AllD.nil
  · exact dig_all n
theorem dig0_pos {n : Nat} (h : n ≠ 0) : dig0 n = dig n := by unfold dig0; rw [if_neg h]
theorem dig0_small {n : Nat} (h : n < 10) : dig0 n = [n] := by
  unfold dig0
  split
  · subst n; rfl
  · rename_i h0; rw [dig_pos h0, show n / 10 = 0 by omega, dig_zero, List.nil_append]; congr 1; omega
theorem dig0_big {n : Nat} (h : 10 ≤ n) : dig0 n = dig0 (n / 10) ++ [n % 10] := by
  rw [dig0_pos (by omega), dig0_pos (by omega), dig_pos (by omega)]
theorem dec_dig (n : Nat) : Lib.decDigits n = (dig0 n).map fun d => UInt8.ofNat (48 + d) := by
  induction n using Nat.strongRecOn with
  | ind n ih =>
    by_cases h : n < 10
    · rw [Lib.decDigits_one h, dig0_small h]; rfl
    · rw [Lib.decDigits, dif_neg h, dig0_big (by omega), ih (n / 10) (by omega), List.map_append]; rfl
theorem dig0_length (n : Nat) : (dig0 n).length = max 1 (nd n) := by
  unfold dig0
  split
  · subst n; rw [nd_zero]; rfl
  · rename_i h; rw [dig_length]; have := nd_pos h; omega
end Go.Proofs.YtihfiegopnjeiaaDoor
