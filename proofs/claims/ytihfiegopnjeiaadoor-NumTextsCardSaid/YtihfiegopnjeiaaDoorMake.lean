/- num.Make, num.Div. -/
import Derived.Test.YtihfiegopnjeiaaDoorTrim
import Derived.Test.YtihfiegopnjeiaaDoorNExt
namespace Go.Proofs.YtihfiegopnjeiaaDoor
set_option linter.unusedSimpArgs false
set_option linter.unusedVariables false
open Go.RowKit NM

/-- round, of digits that lie behind the world X. -/
theorem round_own (X : World) (neg : Bool) (v : Value) (l : List Nat) (ex : Int) (W : World) (n : Nat) (hx : Ext X W) (h : W.ownsRow X.heap.size 5 1 v n (b8 l)) (hall : AllD l) (hl : l.length ≤ 1000) (he : -9223372036854775808 ≤ ex) :
    Calls Tryd.prog 47 #[.bool neg, v, .int .i64 ex] W fun e w' => e = .returned (rnV (rnd neg (val l) false ex)) ∧ ∃ os d, w' = more X os d := by
  obtain ⟨A, cap, rfl, hd, _⟩ := Dg.of_own h
  exact (round_any X.heap.size neg A cap l ex W hd hall hl hx.size he).mono fun e w' ⟨h1, h2⟩ => ⟨h1, (show Ext X w' from Below.trans hx h2).more⟩
theorem rnd_bd {neg : Bool} {N : Nat} {more : Bool} {e : Int} : I64 (rm (rnd neg N more e)) ∧ I64 (re (rnd neg N more e)) := by
  cases h : rnd neg N more e with
  | none => exact ⟨⟨by decide, by decide⟩, by decide, by decide⟩
  | some r =>
    have hr := rnd_right h
    have hT : T 15 = 1000000000000000 := by decide
    show I64 r.1 ∧ I64 r.2
    unfold I64
    rcases hr with ⟨h1, h2⟩ | ⟨h1, h2, h3, h4, h5⟩
    · omega
    · have := nd_pos (show r.1.natAbs ≠ 0 by omega)
      omega

set_option maxHeartbeats 1000000 in
theorem make_any (m ex : Int) (w : World) (htab : Tab w) (hm : I64 m) (he : I64 ex) :
    Calls Tryd.prog 15 #[.int .i64 m, .int .i64 ex] w fun e w' => e = .returned (rnV (rnd (decide (m < 0)) m.natAbs false ex)) ∧ Ext w w' := by
  have hs := sizeI_nat m
  have hu : m.natAbs < 18446744073709551616 := by obtain ⟨h1, h2⟩ := hm; omega
  have hd := digitsOf_any m.natAbs hu (w.alloc (.cells #[.int .i64 0, .int .i64 0] 24)) (htab.ext (by repeat (first | exact Ext.refl _ | apply Ext.drew | apply Ext.alloc | apply Ext.more_)))
  rw [← hs] at hd
  have HD := Lib.hid (dig0_val m.natAbs)
  have hl : (dig0 m.natAbs).length ≤ 1000 := by rw [dig0_length]; have := (nd_le_iff m.natAbs 20).2 (Nat.lt_of_lt_of_le hu (by decide)); omega
  clear hs hu
  go_enter Tryd.func15, Tryd.ntmps15
  go_wp2_with (first | (go_at_call 49; refine (size_any m _ hm).mono ?_; rintro e w' ⟨rfl, rfl⟩) | (go_at_call 48; refine hd.mono ?_; rintro e w' ⟨v, rfl, ho, hx⟩) | (go_at_call 47; refine (round_own (w.alloc (.cells #[.int .i64 0, .int .i64 0] 24)) _ _ (dig0 m.natAbs) _ _ _ hx ho (dig0_all _) hl he.1).mono ?_; rintro e w2 ⟨rfl, os2, d2, rfl⟩; rw [HD.out]))
  exact bodyPost_ret (v := rnV (rnd (decide (m < 0)) m.natAbs false ex)) (by simp [results, Tryd.results15, go_sem]; done) rfl ⟨rfl, by repeat (first | exact Ext.refl _ | apply Ext.drew | apply Ext.alloc | apply Ext.more_)⟩

theorem size_nat (n : Int) (w : World) (h : I64 n) :
    Calls Tryd.prog 49 #[.int .i64 n] w fun e w' => e = .returned (.int .u64 (n.natAbs : Int)) ∧ w = w' := by
  have := size_any n w h
  rw [sizeI_nat] at this
  exact this
def rtB (m e : Int) : Bool := decide (Rt m e)
theorem rtB_yes {m e : Int} (h : Rt m e) : rtB m e = true := decide_eq_true h
theorem rtB_no {m e : Int} (h : ¬ Rt m e) : rtB m e = false := decide_eq_false h
theorem right_rt (m ex : Int) (w : World) (h : I64 m) :
    Calls Tryd.prog 17 #[NV m ex] w fun e w' => e = .returned (.bool (rtB m ex)) ∧ Ext w w' := by
  have := numRight_any m ex w h
  rw [numRight_Rt] at this
  exact this
theorem Rt_bd {m e : Int} (h : Rt m e) : m.natAbs < 1000000000000000 ∧ -40 ≤ e ∧ e ≤ 39 := by
  have hT : T 15 = 1000000000000000 := by decide
  rcases h with ⟨h1, h2⟩ | ⟨h1, h2, h3, h4, h5⟩
  · omega
  · have := nd_pos (show m.natAbs ≠ 0 by omega)
    omega
theorem own_step {X wr w3 : World} {v : Value} {n : Nat} {xs : List Value} {o : Obj} (hx : Ext X wr) (ho : wr.ownsRow X.heap.size 5 1 v n xs) (hg : (wr.alloc o).grownBy w3 v.ownBlock) : Ext X w3 := by
  have hb := own_block ho
  have h1 := hx.size
  refine ⟨hg.os.trans hx.os, hg.tape.trans hx.tape, hg.output.trans hx.output, ?_, fun j hj => ?_⟩
  · have h2 := hg.size
    simp at h2
    omega
  · rw [hg.block j (by simp; omega) (fun he => by have := (hb j he.symm).1; omega), RowKit.Below.heap_alloc _ o j (by omega), hx.block hj]
theorem own_alloc {X wr : World} {v : Value} {n : Nat} {xs : List Value} (ho : wr.ownsRow X.heap.size 5 1 v n xs) (o : Obj) : (wr.alloc o).ownsRow X.heap.size 5 1 v n xs :=
  own_keep ho fun g cur hg => RowKit.Below.heap_alloc _ o g (lt_block hg)

/-- Is just one of two numbers below 0? -/
def ngB (a b : Int) : Bool := !(decide (a < 0) == decide (b < 0))
set_option maxRecDepth 100000 in
set_option maxHeartbeats 2000000 in
theorem div_no (ma ea mb eb : Int) (w : World) (hma : I64 ma) (hmb : I64 mb) (h : ¬ (Rt ma ea ∧ Rt mb eb ∧ mb ≠ 0)) :
    Calls Tryd.prog 31 #[NV ma ea, NV mb eb] w fun e w' => e = .returned (rnV none) ∧ Ext w w' := by
  by_cases h1 : Rt ma ea
  · have r1 := rtB_yes h1
    by_cases h2 : Rt mb eb
    · have r2 := rtB_yes h2
      have h3 : mb = 0 := by
        by_cases h3 : mb = 0
        · exact h3
        · exact absurd ⟨h1, h2, h3⟩ h
      have h4 : (mb == 0) = true := by simp [h3]
      clear h h1 h2 h3
      go_enter Tryd.func31, Tryd.ntmps31
      go_wp2_with (go_at_call 17; (with_reducible refine (right_rt _ _ _ (by assumption)).mono ?_); rintro e w' ⟨rfl, hbr⟩; obtain ⟨osr, dr, rfl⟩ := hbr.more)
      exact bodyPost_ret (v := .tuple #[NV 0 0, .bool false]) (by simp [results, Tryd.results31, go_sem]; done) rfl ⟨rfl, by repeat (first | exact Ext.refl _ | apply Ext.drew | apply Ext.alloc | apply Ext.more_)⟩
    · have r2 := rtB_no h2
      clear h h1 h2
      go_enter Tryd.func31, Tryd.ntmps31
      go_wp2_with (go_at_call 17; (with_reducible refine (right_rt _ _ _ (by assumption)).mono ?_); rintro e w' ⟨rfl, hbr⟩; obtain ⟨osr, dr, rfl⟩ := hbr.more)
      exact bodyPost_ret (v := .tuple #[NV 0 0, .bool false]) (by simp [results, Tryd.results31, go_sem]; done) rfl ⟨rfl, by repeat (first | exact Ext.refl _ | apply Ext.drew | apply Ext.alloc | apply Ext.more_)⟩
  · have r1 := rtB_no h1
    clear h h1
    go_enter Tryd.func31, Tryd.ntmps31
    go_wp2_with (go_at_call 17; (with_reducible refine (right_rt _ _ _ (by assumption)).mono ?_); rintro e w' ⟨rfl, hbr⟩; obtain ⟨osr, dr, rfl⟩ := hbr.more)
    exact bodyPost_ret (v := .tuple #[NV 0 0, .bool false]) (by simp [results, Tryd.results31, go_sem]; done) rfl ⟨rfl, by repeat (first | exact Ext.refl _ | apply Ext.drew | apply Ext.alloc | apply Ext.more_)⟩
end Go.Proofs.YtihfiegopnjeiaaDoor
