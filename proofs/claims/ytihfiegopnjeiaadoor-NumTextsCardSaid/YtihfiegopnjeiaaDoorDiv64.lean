/- math/bits.Div64, by 10 to the power 15. -/
import Derived.Test.YtihfiegopnjeiaaDoorMake
import Derived.Deep.CutBlock
import Derived.Laws.Bits64b
namespace Go.Proofs.YtihfiegopnjeiaaDoor
set_option linter.unusedSimpArgs false
set_option linter.unusedVariables false
open Go.RowKit NM
set_option maxRecDepth 100000

theorem lz15 (w : World) :
    Calls Tryd.prog 83 #[.int .u64 1000000000000000] w fun e w' => e = .returned (.int .i64 14) ∧ w = w' :=
  (Tryd.bits_LeadingZeros64 1000000000000000 w (by omega) (by omega)).mono fun e w' ⟨h1, h2⟩ => ⟨by rw [h1, show (64 : Int) - (Lib.bitLen (1000000000000000 : Int).toNat : Int) = 14 by decide], h2.symm⟩
set_option maxRecDepth 100000 in
set_option maxHeartbeats 2000000 in
theorem div64_small (lo : Nat) (w : World) (hlo : lo < 18446744073709551616) :
    Calls Tryd.prog 62 #[.int .u64 0, .int .u64 (lo : Int), .int .u64 1000000000000000] w fun e w' => e = .returned (.tuple #[.int .u64 ((lo / 1000000000000000 : Nat) : Int), .int .u64 ((lo % 1000000000000000 : Nat) : Int)]) ∧ Ext w w' := by
  have q1 : (lo : Int) / 1000000000000000 = ((lo / 1000000000000000 : Nat) : Int) := by omega
  have q2 : (lo : Int) % 1000000000000000 = ((lo % 1000000000000000 : Nat) : Int) := by omega
  have q3 : (lo : Int).tmod 1000000000000000 = ((lo % 1000000000000000 : Nat) : Int) := rfl
  have w1 : IntKind.u64.wrap ((lo / 1000000000000000 : Nat) : Int) = ((lo / 1000000000000000 : Nat) : Int) := by rw [IntKind.wrap_u64]; omega
  have w2 : IntKind.u64.wrap ((lo % 1000000000000000 : Nat) : Int) = ((lo % 1000000000000000 : Nat) : Int) := by rw [IntKind.wrap_u64]; omega
  generalize lo / 1000000000000000 = Q at *
  generalize lo % 1000000000000000 = R at *
  clear hlo
  go_enter Tryd.func62, Tryd.ntmps62
  go_wp2
  refine wp_plan (S := Ext _) [(0, 0), (1, 0), (2, 0), (3, 0), (4, 0), (5, 0), (6, 0), (7, 0)] [] (by kernel_rfl) (by kernel_rfl) (by kernel_rfl) (fun _ _ d _ _ h => by cases d <;> exact h) (Ext.drew (Ext.refl _)) ?_
  (refine wpPl_read (v := ?_) rfl ?_ (fun w1 h1 => ?_) ?_; rotate_left 1; rfl; (obtain ⟨os1, d1, rfl⟩ := h1.more; go_simp; first | done | rfl))
  try simp only [Act.put, List.setIfInBounds_toArray, List.set_cons_zero, List.set_cons_succ]
  (refine wpPl_read (v := ?_) rfl ?_ (fun w1 h1 => ?_) ?_; rotate_left 1; rfl; (obtain ⟨os1, d1, rfl⟩ := h1.more; go_simp; first | done | rfl))
  try simp only [Act.put, List.setIfInBounds_toArray, List.set_cons_zero, List.set_cons_succ]
  (refine wpPl_read (v := ?_) rfl ?_ (fun w1 h1 => ?_) ?_; rotate_left 1; rfl; (obtain ⟨os1, d1, rfl⟩ := h1.more; go_simp; first | done | rfl))
  try simp only [Act.put, List.setIfInBounds_toArray, List.set_cons_zero, List.set_cons_succ]
  (refine wpPl_read (v := ?_) rfl ?_ (fun w1 h1 => ?_) ?_; rotate_left 1; rfl; (obtain ⟨os1, d1, rfl⟩ := h1.more; go_simp; first | done | rfl))
  try simp only [Act.put, List.setIfInBounds_toArray, List.set_cons_zero, List.set_cons_succ]
  (refine wpPl_read (v := ?_) rfl ?_ (fun w1 h1 => ?_) ?_; rotate_left 1; rfl; (obtain ⟨os1, d1, rfl⟩ := h1.more; go_simp; first | done | rfl))
  try simp only [Act.put, List.setIfInBounds_toArray, List.set_cons_zero, List.set_cons_succ]
  (refine wpPl_read (v := ?_) rfl ?_ (fun w1 h1 => ?_) ?_; rotate_left 1; rfl; (obtain ⟨os1, d1, rfl⟩ := h1.more; go_simp; first | done | rfl))
  try simp only [Act.put, List.setIfInBounds_toArray, List.set_cons_zero, List.set_cons_succ]
  (refine wpPl_read (v := ?_) rfl ?_ (fun w1 h1 => ?_) ?_; rotate_left 1; rfl; (obtain ⟨os1, d1, rfl⟩ := h1.more; go_simp; first | done | rfl))
  try simp only [Act.put, List.setIfInBounds_toArray, List.set_cons_zero, List.set_cons_succ]
  (refine wpPl_read (v := ?_) rfl ?_ (fun w1 h1 => ?_) ?_; rotate_left 1; rfl; (obtain ⟨os1, d1, rfl⟩ := h1.more; go_simp; first | done | rfl))
  try simp only [Act.put, List.setIfInBounds_toArray, List.set_cons_zero, List.set_cons_succ]
  refine wpPl_nil ?_
  go_wp2
  go_ret2
  exact ⟨rfl, by repeat (first | with_reducible exact Ext.refl _ | with_reducible apply Ext.drew | with_reducible apply Ext.alloc | with_reducible apply Ext.more_)⟩
theorem or_join (h l : Nat) (hh : h < 1125899906842624) (hl : l < 16384) : bits .or .u64 ((h * 16384 : Nat) : Int) (l : Int) = ((h * 16384 + l : Nat) : Int) := by
  rw [bits_or_u64_nat _ _ (by omega) (by omega)]
  congr 1
  have := Nat.shiftLeft_add_eq_or_of_lt (b := l) (i := 14) (by omega) h
  rw [Nat.shiftLeft_eq] at this
  exact this.symm
theorem and_low (x : Nat) (hx : x < 18446744073709551616) : bits .and .u64 (x : Int) 4294967295 = ((x % 4294967296 : Nat) : Int) := by
  rw [show (4294967295 : Int) = ((4294967295 : Nat) : Int) from rfl, bits_and_u64_nat _ _ hx (by omega)]
  congr 1
  exact Nat.and_two_pow_sub_one_eq_mod x 32
/-- 2 to the power 64, as a word. -/
def M64 : Nat := 18446744073709551616
theorem wu_mul (a c : Nat) : IntKind.u64.wrap ((a : Int) * (c : Int)) = ((a * c % M64 : Nat) : Int) := by
  rw [IntKind.wrap_u64, ← Int.natCast_mul]; rfl
theorem wu_mul32 (a : Nat) : IntKind.u64.wrap ((a : Int) * 4294967296) = ((a * 4294967296 % M64 : Nat) : Int) := wu_mul a 4294967296
theorem wu_add (a b : Nat) : IntKind.u64.wrap (((a % M64 : Nat) : Int) + (b : Int)) = (((a + b) % M64 : Nat) : Int) := by
  unfold M64; rw [IntKind.wrap_u64]; omega
theorem wu_sub {a b t : Nat} (h : a = b + t) (ht : t < M64) : IntKind.u64.wrap (((a % M64 : Nat) : Int) - ((b % M64 : Nat) : Int)) = (t : Int) := by
  unfold M64 at *; rw [IntKind.wrap_u64]; omega
theorem wu_in {a : Nat} (h : a < M64) : a % M64 = a := Nat.mod_eq_of_lt h
theorem wu_sub_in {a b t : Nat} (h : a = b + t) (ht : t < M64) : IntKind.u64.wrap ((a : Int) - (b : Int)) = (t : Int) := by
  unfold M64 at *; rw [IntKind.wrap_u64]; omega
theorem div_parts {U u v v1 v0 q1 t q0 rr : Nat} (hsp : u * 18446744073709551616 + v = U * 16384) (hv1 : v1 = v / 4294967296) (hv0 : v0 = v % 4294967296) (hq1 : q1 = (u * 4294967296 + v1) / 16384000000000000000) (ht : t = (u * 4294967296 + v1) % 16384000000000000000)
    (hq0 : q0 = (t * 4294967296 + v0) / 16384000000000000000) (hrr : rr = (t * 4294967296 + v0) % 16384000000000000000) : U / 1000000000000000 = q1 * 4294967296 + q0 ∧ U % 1000000000000000 = rr / 16384 := by omega
/-- The first half of the division: q at most one too great, or just it. -/
structure DA (u v q r : Nat) : Prop where
  eq : r + q * 3814697265 = u
  lt : u * 4294967296 + v < (q + 1) * 16384000000000000000
  qb : q ≤ 4294967296
  rb : r < 4294967296
  vb : v < 4294967296
  ub : u < 16384000000000000000
theorem DA.more {u v q r : Nat} (h : DA u v q r) (hc : 4294967296 ≤ q ∨ 4294967296 * r + v < q * 2684354560) : 1 ≤ q ∧ u * 4294967296 + v < q * 16384000000000000000 := by
  obtain ⟨h1, h2, h3, h4, h5, h6⟩ := h
  rcases hc with hc | hc <;> omega
theorem DA.step {u v q r q' r' : Nat} (h : DA u v q r) (hc : 4294967296 ≤ q ∨ 4294967296 * r + v < q * 2684354560) (hq : q' = q - 1) (hr' : r' = r + 3814697265) (hr : r' < 4294967296) : DA u v q' r' := by
  have h0 := h.more hc
  obtain ⟨h1, h2, h3, h4, h5, h6⟩ := h
  have a1 : r' + q' * 3814697265 = u := by omega
  have hq2 : q' + 1 = q := by omega
  have a2 : u * 4294967296 + v < (q' + 1) * 16384000000000000000 := by rw [hq2]; exact h0.2
  have a3 : q' ≤ 4294967296 := by omega
  exact ⟨a1, a2, a3, hr, h5, h6⟩
theorem DA.brk {u v q r : Nat} (h : DA u v q r) (hc : 4294967296 ≤ q ∨ 4294967296 * r + v < q * 2684354560) (hr : 4294967296 ≤ r + 3814697265) : q - 1 = (u * 4294967296 + v) / 16384000000000000000 := by
  have h0 := h.more hc
  obtain ⟨h1, h2, h3, h4, h5, h6⟩ := h
  omega
theorem DA.done {u v q r : Nat} (h : DA u v q r) (hc : ¬ (4294967296 ≤ q ∨ 4294967296 * r + v < q * 2684354560)) : q = (u * 4294967296 + v) / 16384000000000000000 := by
  obtain ⟨h1, h2, h3, h4, h5, h6⟩ := h
  omega
theorem DA.start {u v : Nat} (hu : u < 16384000000000000000) (hv : v < 4294967296) : DA u v (u / 3814697265) (u % 3814697265) := by
  refine ⟨by omega, by omega, by omega, by omega, hv, hu⟩
/-- What the walk of Div64 reckons with. -/
structure DF (Y Yn a b hi lo u ll v v1 v0 q1 t q0 rr QQ RR s1 s2 s3 s4 s5 s6 s7 s8 s9 qa ra qb rb hh : Nat) : Prop where
  or4 : bits .or .u64 (hh : Int) (ll : Int) = (u : Int)
  hi16 : IntKind.u64.wrap ((hi : Int) * 16384) = (hh : Int)
  sh : (lo : Int) / 1125899906842624 = (ll : Int)
  lo16 : IntKind.u64.wrap ((lo : Int) * 16384) = (v : Int)
  hi32 : (v : Int) / 4294967296 = (v1 : Int)
  lo32 : bits .and .u64 (v : Int) 4294967295 = (v0 : Int)
  yn : IntKind.u64.wrap ((Y : Int) * 16384) = (Yn : Int)
  yna : (Yn : Int) / 4294967296 = (a : Int)
  ynb : bits .and .u64 (Yn : Int) 4294967295 = (b : Int)
  dA : DA u v1 qa ra
  dB : DA t v0 qb rb
  q1e : q1 = (u * 4294967296 + v1) / 16384000000000000000
  q0e : q0 = (t * 4294967296 + v0) / 16384000000000000000
  x1 : IntKind.u64.wrap ((u : Int) * 4294967296) = (s1 : Int)
  x2 : IntKind.u64.wrap ((s1 : Int) + (v1 : Int)) = (s2 : Int)
  x3 : IntKind.u64.wrap ((q1 : Int) * (Yn : Int)) = (s3 : Int)
  x4 : IntKind.u64.wrap ((s2 : Int) - (s3 : Int)) = (t : Int)
  z1 : (u : Int) / (a : Int) = (qa : Int)
  z2 : IntKind.u64.wrap ((qa : Int) * (a : Int)) = (s8 : Int)
  z3 : IntKind.u64.wrap ((u : Int) - (s8 : Int)) = (ra : Int)
  z4 : (t : Int) / (a : Int) = (qb : Int)
  z5 : IntKind.u64.wrap ((qb : Int) * (a : Int)) = (s9 : Int)
  z6 : IntKind.u64.wrap ((t : Int) - (s9 : Int)) = (rb : Int)
  p1 : IntKind.u64.wrap ((q1 : Int) * 4294967296) = (s7 : Int)
  p2 : IntKind.u64.wrap ((s7 : Int) + (q0 : Int)) = (QQ : Int)
  p3 : IntKind.u64.wrap ((t : Int) * 4294967296) = (s4 : Int)
  p4 : IntKind.u64.wrap ((s4 : Int) + (v0 : Int)) = (s5 : Int)
  p5 : IntKind.u64.wrap ((q0 : Int) * (Yn : Int)) = (s6 : Int)
  p6 : IntKind.u64.wrap ((s5 : Int) - (s6 : Int)) = (rr : Int)
  p7 : (rr : Int) / 16384 = (RR : Int)
  a0 : a = 3814697265
  b0 : b = 2684354560
  y0 : Y = 1000000000000000
  hib : hi < 100000000000
theorem df_all (hi lo : Nat) (hlo : lo < 18446744073709551616) (hU : hi * 18446744073709551616 + lo < 1000000000000000000000000000000) :
    ∃ Yn a b u ll v v1 v0 q1 t q0 rr s1 s2 s3 s4 s5 s6 s7 s8 s9 qa ra qb rb hh, DF 1000000000000000 Yn a b hi lo u ll v v1 v0 q1 t q0 rr ((hi * 18446744073709551616 + lo) / 1000000000000000) ((hi * 18446744073709551616 + lo) % 1000000000000000) s1 s2 s3 s4 s5 s6 s7 s8 s9 qa ra qb rb hh := by
  have hhb : hi < 100000000000 := by omega
  obtain ⟨u, hu⟩ : ∃ u, u = hi * 16384 + lo / 1125899906842624 := ⟨_, rfl⟩
  obtain ⟨v, hv⟩ : ∃ v, v = lo * 16384 % 18446744073709551616 := ⟨_, rfl⟩
  have hub : u < 1000000000000000 := by omega
  have hvb : v < 18446744073709551616 := by omega
  have hsp : u * 18446744073709551616 + v = (hi * 18446744073709551616 + lo) * 16384 := by omega
  have f4 := or_join hi (lo / 1125899906842624) (by omega) (by omega)
  rw [← hu] at f4
  have f5 : IntKind.u64.wrap ((lo : Int) * 16384) = (v : Int) := by rw [hv]; exact wu_mul lo 16384
  clear hu hv
  obtain ⟨U, hUU⟩ : ∃ U, U = hi * 18446744073709551616 + lo := ⟨_, rfl⟩
  rw [← hUU] at hU hsp ⊢
  clear hUU
  obtain ⟨v1, hv1⟩ : ∃ v1, v1 = v / 4294967296 := ⟨_, rfl⟩
  obtain ⟨v0, hv0⟩ : ∃ v0, v0 = v % 4294967296 := ⟨_, rfl⟩
  have hv1b : v1 < 4294967296 := by rw [hv1]; exact Nat.div_lt_of_lt_mul hvb
  have hv0b : v0 < 4294967296 := by rw [hv0]; exact Nat.mod_lt _ (by decide)
  obtain ⟨q1, hq1⟩ : ∃ q1, q1 = (u * 4294967296 + v1) / 16384000000000000000 := ⟨_, rfl⟩
  obtain ⟨t, ht⟩ : ∃ t, t = (u * 4294967296 + v1) % 16384000000000000000 := ⟨_, rfl⟩
  obtain ⟨q0, hq0⟩ : ∃ q0, q0 = (t * 4294967296 + v0) / 16384000000000000000 := ⟨_, rfl⟩
  obtain ⟨rr, hrr⟩ : ∃ rr, rr = (t * 4294967296 + v0) % 16384000000000000000 := ⟨_, rfl⟩
  have ht0 : t < 16384000000000000000 := by rw [ht]; exact Nat.mod_lt _ (by decide)
  obtain ⟨hQ, hR⟩ := div_parts hsp hv1 hv0 hq1 ht hq0 hrr
  have k1 : u * 4294967296 + v1 = q1 * 16384000000000000000 + t := by rw [hq1, ht]; exact (Nat.div_add_mod' _ _).symm
  have k2 : t * 4294967296 + v0 = q0 * 16384000000000000000 + rr := by rw [hq0, hrr]; exact (Nat.div_add_mod' _ _).symm
  have k3 : t < M64 := Nat.lt_trans ht0 (by unfold M64; decide)
  have k4 : rr < M64 := by rw [hrr]; exact Nat.lt_trans (Nat.mod_lt _ (by decide)) (by unfold M64; decide)
  have k7 : q1 * 4294967296 + q0 < M64 := by rw [← hQ]; exact Nat.div_lt_of_lt_mul (Nat.lt_of_lt_of_le hU (by unfold M64; decide))
  have k8 : u / 3814697265 * 3814697265 < M64 := Nat.lt_of_le_of_lt (Nat.div_mul_le_self _ _) (Nat.lt_trans hub (by unfold M64; decide))
  have k9 : t / 3814697265 * 3814697265 < M64 := Nat.lt_of_le_of_lt (Nat.div_mul_le_self _ _) k3
  have z2 := wu_mul (u / 3814697265) 3814697265
  rw [wu_in k8] at z2
  have z5 := wu_mul (t / 3814697265) 3814697265
  rw [wu_in k9] at z5
  have p2 := wu_add (q1 * 4294967296) q0
  rw [wu_in k7, ← hQ] at p2
  have f7 := and_low v hvb
  rw [← hv0] at f7
  refine ⟨16384000000000000000, 3814697265, 2684354560, u, lo / 1125899906842624, v, v1, v0, q1, t, q0, rr, _, _, _, _, _, _, _, _, _, u / 3814697265, u % 3814697265, t / 3814697265, t % 3814697265, hi * 16384,
    { or4 := f4, hi16 := by rw [IntKind.wrap_u64]; omega, sh := rfl, lo16 := f5, hi32 := by rw [hv1]; rfl, lo32 := f7, yn := by decide, yna := by decide, ynb := by rw [and_low _ (by decide)], dA := DA.start (Nat.lt_trans hub (by decide)) hv1b, dB := DA.start ht0 hv0b, q1e := hq1, q0e := hq0,
      x1 := wu_mul32 u, x2 := wu_add _ _, x3 := wu_mul _ _, x4 := wu_sub k1 k3, z1 := rfl, z2 := z2, z3 := wu_sub_in (Nat.div_add_mod' _ _).symm (Nat.lt_trans (Nat.mod_lt u (show 0 < 3814697265 by decide)) (by unfold M64; decide)), z4 := rfl, z5 := z5, z6 := wu_sub_in (Nat.div_add_mod' _ _).symm (Nat.lt_trans (Nat.mod_lt t (show 0 < 3814697265 by decide)) (by unfold M64; decide)),
      p1 := wu_mul32 q1, p2 := p2, p3 := wu_mul32 t, p4 := wu_add _ _, p5 := wu_mul _ _, p6 := wu_sub k2 k4, p7 := by rw [hR]; rfl, a0 := rfl, b0 := rfl, y0 := rfl, hib := hhb }⟩
set_option maxHeartbeats 4000000 in
theorem div64_df {Y Yn a b hi lo u ll v v1 v0 q1 t q0 rr QQ RR s1 s2 s3 s4 s5 s6 s7 s8 s9 qa ra qb rb hh : Nat} (w : World) (hhi : 0 < hi) (h : DF Y Yn a b hi lo u ll v v1 v0 q1 t q0 rr QQ RR s1 s2 s3 s4 s5 s6 s7 s8 s9 qa ra qb rb hh)
    (hlz : ∀ w, Calls Tryd.prog 83 #[.int .u64 (Y : Int)] w fun e w' => e = .returned (.int .i64 14) ∧ w = w') :
    Calls Tryd.prog 62 #[.int .u64 (hi : Int), .int .u64 (lo : Int), .int .u64 (Y : Int)] w fun e w' => e = .returned (.tuple #[.int .u64 (QQ : Int), .int .u64 (RR : Int)]) ∧ Ext w w' := by
  obtain ⟨f4, f16, f4', f5, f6, f7, y5, y6, y7, dA, dB, hq1, hq0, x1, x2, x3, x4, z1, z2, z3, z4, z5, z6, p1, p2, p3, p4, p5, p6, p7, ha, hb, hY, hhb⟩ := h
  have e1 : ((hi : Int) == 0) = false := by simp; omega
  have e2 : (hi == 0) = false := by simp; omega
  have y3 : ¬ (Y ≤ hi) := by omega
  have y1 : ¬ ((Y : Int) ≤ (hi : Int)) := by omega
  have y4 : (Y == 0) = false := by simp; omega
  have y2 : ((Y : Int) == 0) = false := by simp; omega
  have d2 : (a == 0) = false := by simp; omega
  have d3 : ((a : Int) == 0) = false := by simp; omega
  have d4 : ¬ a = 0 := by omega
  have HDA := Lib.hid dA
  have HDB := Lib.hid dB
  have HQ1 := Lib.hid hq1
  have HQ0 := Lib.hid hq0
  have HA := Lib.hid ha
  have HB := Lib.hid hb
  have qaw : IntKind.u64.wrap (qa : Int) = qa := by have := dA.qb; rw [IntKind.wrap_u64]; omega
  have qbw : IntKind.u64.wrap (qb : Int) = qb := by have := dB.qb; rw [IntKind.wrap_u64]; omega
  have z1' : (u : Int).tdiv (a : Int) = (qa : Int) := z1
  have z4' : (t : Int).tdiv (a : Int) = (qb : Int) := z4
  clear dA dB hq1 hq0 ha hb hY hhb
  go_enter Tryd.func62, Tryd.ntmps62
  go_upto_block 0 with (go_at_call 83; refine (hlz _).mono ?_; rintro e w' ⟨rfl, rfl⟩)
  go_cut [15] (fun s15 wx => s15 = .int .u64 (q1 : Int) ∧ wx = w)
  case first =>
    go_wp2_with fail
    go_loop [16, 15] (fun sr sq => ∃ q r : Nat, sq = .int .u64 (q : Int) ∧ sr = .int .u64 (r : Int) ∧ Hid (DA u v1 q r)) (fun _ sq => (intOf sq).toNat)
    case atStart => exact ⟨_, _, rfl, rfl, HDA⟩
    case round =>
      obtain ⟨q, r, rfl, rfl, H⟩ := hrel
      obtain ⟨P, hP⟩ : ∃ P, P = q * b := ⟨_, rfl⟩
      obtain ⟨S, hS⟩ : ∃ S, S = 4294967296 * r := ⟨_, rfl⟩
      obtain ⟨Z, hZ⟩ : ∃ Z, Z = S + v1 := ⟨_, rfl⟩
      obtain ⟨r2, hr2⟩ : ∃ r2, r2 = r + a := ⟨_, rfl⟩
      have hq32 := H.out.qb
      have hPb : P ≤ 4294967296 * 2684354560 := by rw [hP, HB.out]; exact Nat.mul_le_mul_right _ hq32
      have g1 : (q : Int) * (b : Int) = (P : Int) := by rw [hP, Int.natCast_mul]
      have g1w : IntKind.u64.wrap (P : Int) = P := by rw [IntKind.wrap_u64]; omega
      have g2 : (4294967296 : Int) * (r : Int) = (S : Int) := by rw [hS, Int.natCast_mul]; rfl
      have g2w : IntKind.u64.wrap (S : Int) = S := by have := H.out.rb; rw [IntKind.wrap_u64]; omega
      have g3 : (S : Int) + (v1 : Int) = (Z : Int) := by omega
      have g3w : IntKind.u64.wrap (Z : Int) = Z := by have := H.out.rb; have := H.out.vb; rw [IntKind.wrap_u64]; omega
      have g4 : (r : Int) + (a : Int) = (r2 : Int) := by omega
      have g4w : IntKind.u64.wrap (r2 : Int) = r2 := by have := H.out.rb; have := HA.out; rw [IntKind.wrap_u64]; omega
      have HCC : Hid ((4294967296 ≤ q ∨ 4294967296 * r + v1 < q * 2684354560) ↔ (4294967296 ≤ q ∨ Z < P)) := by show _ ↔ _; rw [hZ, hS, hP, HB.out]
      have HR2 : Hid (r2 = r + 3814697265) := by show _ = _; rw [hr2, HA.out]
      clear hP hS hZ hr2 hPb
      by_cases hc : 4294967296 ≤ q ∨ Z < P
      · have hc' := HCC.out.2 hc
        have hq1 : 1 ≤ q := (H.out.more hc').1
        have HM := Lib.hid hc'
        have g5 : (q : Int) - 1 = ((q - 1 : Nat) : Int) := by omega
        have g5w : IntKind.u64.wrap ((q - 1 : Nat) : Int) = ((q - 1 : Nat) : Int) := by rw [IntKind.wrap_u64]; omega
        clear hc'
        by_cases hr32 : 4294967296 ≤ r2
        · have c5 : decide ((4294967296 : Int) ≤ (r2 : Int)) = true := by simp; omega
          have c6 : decide (4294967296 ≤ r2) = true := by simp; omega
          have HD : Hid (q - 1 = q1) := by show _ = _; rw [H.out.brk HM.out (by rw [← HR2.out]; exact hr32)]; exact HQ1.out.symm
          rcases (show 4294967296 ≤ q ∨ ¬ 4294967296 ≤ q ∧ Z < P by omega) with h1 | ⟨h1, h2⟩
          · have c1 : decide ((4294967296 : Int) ≤ (q : Int)) = true := by simp; omega
            have c2 : decide (4294967296 ≤ q) = true := by simp; omega
            clear hq32 hc h1 hr32
            go_wp2_with fail
            go_meet
            exact ⟨by first | rw [HD.out] | (rw [← HD.out]; rw [g5]), rfl⟩
          · have c1 : decide ((4294967296 : Int) ≤ (q : Int)) = false := by simp; omega
            have c2 : decide (4294967296 ≤ q) = false := by simp; omega
            clear hq32 hc h1 hr32
            go_wp2_with fail
            go_meet
            exact ⟨by first | rw [HD.out] | (rw [← HD.out]; rw [g5]), rfl⟩
        · have c5 : decide ((4294967296 : Int) ≤ (r2 : Int)) = false := by simp; omega
          have c6 : decide (4294967296 ≤ r2) = false := by simp; omega
          have HD : Hid (DA u v1 (q - 1) r2) := by
            exact H.out.step HM.out rfl HR2.out (by omega)
          rcases (show 4294967296 ≤ q ∨ ¬ 4294967296 ≤ q ∧ Z < P by omega) with h1 | ⟨h1, h2⟩
          · have c1 : decide ((4294967296 : Int) ≤ (q : Int)) = true := by simp; omega
            have c2 : decide (4294967296 ≤ q) = true := by simp; omega
            clear hq32 hc h1 hr32
            go_wp2_with fail
            exact ⟨⟨q - 1, r2, by first | rfl | rw [g5], rfl, HD⟩, by simp [intOf]; omega⟩
          · have c1 : decide ((4294967296 : Int) ≤ (q : Int)) = false := by simp; omega
            have c2 : decide (4294967296 ≤ q) = false := by simp; omega
            clear hq32 hc h1 hr32
            go_wp2_with fail
            exact ⟨⟨q - 1, r2, by first | rfl | rw [g5], rfl, HD⟩, by simp [intOf]; omega⟩
      · have HD : Hid (q = q1) := by show _ = _; rw [H.out.done (fun h => hc (HCC.out.1 h))]; exact HQ1.out.symm
        have h1 : ¬ 4294967296 ≤ q := by omega
        have h2 : ¬ Z < P := by omega
        have c1 : decide ((4294967296 : Int) ≤ (q : Int)) = false := by simp; omega
        have c2 : decide (4294967296 ≤ q) = false := by simp; omega
        clear hq32 hc h1
        go_wp2_with fail
        go_meet
        exact ⟨by first | rw [HD.out] | (rw [← HD.out]; rw [g5]), rfl⟩
  case rest =>
  obtain ⟨rfl, rfl⟩ := hcut
  go_upto_block 2 with fail
  go_cut [18] (fun s18 wx => s18 = .int .u64 (q0 : Int) ∧ wx = wc)
  case first =>
    go_wp2_with fail
    go_loop [16, 18] (fun sr sq => ∃ q r : Nat, sq = .int .u64 (q : Int) ∧ sr = .int .u64 (r : Int) ∧ Hid (DA t v0 q r)) (fun _ sq => (intOf sq).toNat)
    case atStart => exact ⟨_, _, rfl, rfl, HDB⟩
    case round =>
      obtain ⟨q, r, rfl, rfl, H⟩ := hrel
      obtain ⟨P, hP⟩ : ∃ P, P = q * b := ⟨_, rfl⟩
      obtain ⟨S, hS⟩ : ∃ S, S = 4294967296 * r := ⟨_, rfl⟩
      obtain ⟨Z, hZ⟩ : ∃ Z, Z = S + v0 := ⟨_, rfl⟩
      obtain ⟨r2, hr2⟩ : ∃ r2, r2 = r + a := ⟨_, rfl⟩
      have hq32 := H.out.qb
      have hPb : P ≤ 4294967296 * 2684354560 := by rw [hP, HB.out]; exact Nat.mul_le_mul_right _ hq32
      have g1 : (q : Int) * (b : Int) = (P : Int) := by rw [hP, Int.natCast_mul]
      have g1w : IntKind.u64.wrap (P : Int) = P := by rw [IntKind.wrap_u64]; omega
      have g2 : (4294967296 : Int) * (r : Int) = (S : Int) := by rw [hS, Int.natCast_mul]; rfl
      have g2w : IntKind.u64.wrap (S : Int) = S := by have := H.out.rb; rw [IntKind.wrap_u64]; omega
      have g3 : (S : Int) + (v0 : Int) = (Z : Int) := by omega
      have g3w : IntKind.u64.wrap (Z : Int) = Z := by have := H.out.rb; have := H.out.vb; rw [IntKind.wrap_u64]; omega
      have g4 : (r : Int) + (a : Int) = (r2 : Int) := by omega
      have g4w : IntKind.u64.wrap (r2 : Int) = r2 := by have := H.out.rb; have := HA.out; rw [IntKind.wrap_u64]; omega
      have HCC : Hid ((4294967296 ≤ q ∨ 4294967296 * r + v0 < q * 2684354560) ↔ (4294967296 ≤ q ∨ Z < P)) := by show _ ↔ _; rw [hZ, hS, hP, HB.out]
      have HR2 : Hid (r2 = r + 3814697265) := by show _ = _; rw [hr2, HA.out]
      clear hP hS hZ hr2 hPb
      by_cases hc : 4294967296 ≤ q ∨ Z < P
      · have hc' := HCC.out.2 hc
        have hq1 : 1 ≤ q := (H.out.more hc').1
        have HM := Lib.hid hc'
        have g5 : (q : Int) - 1 = ((q - 1 : Nat) : Int) := by omega
        have g5w : IntKind.u64.wrap ((q - 1 : Nat) : Int) = ((q - 1 : Nat) : Int) := by rw [IntKind.wrap_u64]; omega
        clear hc'
        by_cases hr32 : 4294967296 ≤ r2
        · have c5 : decide ((4294967296 : Int) ≤ (r2 : Int)) = true := by simp; omega
          have c6 : decide (4294967296 ≤ r2) = true := by simp; omega
          have HD : Hid (q - 1 = q0) := by show _ = _; rw [H.out.brk HM.out (by rw [← HR2.out]; exact hr32)]; exact HQ0.out.symm
          rcases (show 4294967296 ≤ q ∨ ¬ 4294967296 ≤ q ∧ Z < P by omega) with h1 | ⟨h1, h2⟩
          · have c1 : decide ((4294967296 : Int) ≤ (q : Int)) = true := by simp; omega
            have c2 : decide (4294967296 ≤ q) = true := by simp; omega
            clear hq32 hc h1 hr32
            go_wp2_with fail
            go_meet
            exact ⟨by first | rw [HD.out] | (rw [← HD.out]; rw [g5]), rfl⟩
          · have c1 : decide ((4294967296 : Int) ≤ (q : Int)) = false := by simp; omega
            have c2 : decide (4294967296 ≤ q) = false := by simp; omega
            clear hq32 hc h1 hr32
            go_wp2_with fail
            go_meet
            exact ⟨by first | rw [HD.out] | (rw [← HD.out]; rw [g5]), rfl⟩
        · have c5 : decide ((4294967296 : Int) ≤ (r2 : Int)) = false := by simp; omega
          have c6 : decide (4294967296 ≤ r2) = false := by simp; omega
          have HD : Hid (DA t v0 (q - 1) r2) := by
            exact H.out.step HM.out rfl HR2.out (by omega)
          rcases (show 4294967296 ≤ q ∨ ¬ 4294967296 ≤ q ∧ Z < P by omega) with h1 | ⟨h1, h2⟩
          · have c1 : decide ((4294967296 : Int) ≤ (q : Int)) = true := by simp; omega
            have c2 : decide (4294967296 ≤ q) = true := by simp; omega
            clear hq32 hc h1 hr32
            go_wp2_with fail
            exact ⟨⟨q - 1, r2, by first | rfl | rw [g5], rfl, HD⟩, by simp [intOf]; omega⟩
          · have c1 : decide ((4294967296 : Int) ≤ (q : Int)) = false := by simp; omega
            have c2 : decide (4294967296 ≤ q) = false := by simp; omega
            clear hq32 hc h1 hr32
            go_wp2_with fail
            exact ⟨⟨q - 1, r2, by first | rfl | rw [g5], rfl, HD⟩, by simp [intOf]; omega⟩
      · have HD : Hid (q = q0) := by show _ = _; rw [H.out.done (fun h => hc (HCC.out.1 h))]; exact HQ0.out.symm
        have h1 : ¬ 4294967296 ≤ q := by omega
        have h2 : ¬ Z < P := by omega
        have c1 : decide ((4294967296 : Int) ≤ (q : Int)) = false := by simp; omega
        have c2 : decide (4294967296 ≤ q) = false := by simp; omega
        clear hq32 hc h1
        go_wp2_with fail
        go_meet
        exact ⟨by first | rw [HD.out] | (rw [← HD.out]; rw [g5]), rfl⟩
  case rest =>
  obtain ⟨rfl, rfl⟩ := hcut
  go_wp2_with fail
  go_ret2
  exact ⟨rfl, by repeat (first | with_reducible exact Ext.refl _ | with_reducible apply Ext.drew | with_reducible apply Ext.alloc | with_reducible apply Ext.more_)⟩
theorem div64_cut (hi lo : Nat) (w : World) (hlo : lo < 18446744073709551616) (hU : hi * 18446744073709551616 + lo < 1000000000000000000000000000000) :
    Calls Tryd.prog 62 #[.int .u64 (hi : Int), .int .u64 (lo : Int), .int .u64 1000000000000000] w fun e w' => e = .returned (.tuple #[.int .u64 (((hi * 18446744073709551616 + lo) / 1000000000000000 : Nat) : Int), .int .u64 (((hi * 18446744073709551616 + lo) % 1000000000000000 : Nat) : Int)]) ∧ Ext w w' := by
  rcases Nat.eq_zero_or_pos hi with h0 | h0
  · rw [h0, Nat.zero_mul, Nat.zero_add]
    exact div64_small lo w hlo
  · obtain ⟨Yn, a, b, u, ll, v, v1, v0, q1, t, q0, rr, s1, s2, s3, s4, s5, s6, s7, s8, s9, qa, ra, qb, rb, hh, hdf⟩ := df_all hi lo hlo hU
    exact div64_df w h0 hdf lz15
end Go.Proofs.YtihfiegopnjeiaaDoor
