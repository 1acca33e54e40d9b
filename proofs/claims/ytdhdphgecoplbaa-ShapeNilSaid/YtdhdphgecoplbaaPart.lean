/- Contracts: Part, First, Common. -/
import Derived.Test.YtdhdphgecoplbaaJoinC
namespace Go.Proofs.Ytdhdphgecoplbaa
open Go.RowKit
theorem part_prod {R C row col rows cols i j : Nat} (hi : i < rows) (hj : j < cols) (h1 : row + rows ≤ R) (h2 : col + cols ≤ C) (hN : R * C ≤ 4096) : (row + i) * C + col + j < R * C ∧ (row + i) * C ≤ 4096 := by
  have : (row + i + 1) * C ≤ R * C := Nat.mul_le_mul_right C (by omega)
  rw [Nat.succ_mul] at this
  omega

set_option maxHeartbeats 400000 in
theorem part1_any (pa pr pc R C row col rows cols : Nat) (A : Option Addr) (n cap : Nat) (l : List Val) (i j : Nat) (W : World) (hb : ABox pa R C A n cap W) (hpr : pr < W.heap.size) (hpc : pc < W.heap.size) (cr : W.cell? ⟨pr, 0, none⟩ = some (.int .i64 row)) (cc : W.cell? ⟨pc, 0, none⟩ = some (.int .i64 col)) (h : ArrIn W A n cap l) (hn : n = R * C) (hN : n ≤ 4096)
    (hi : i < rows) (hj : j < cols) (h1 : row + rows ≤ R) (h2 : col + cols ≤ C) (hR : R ≤ 4096) (hC : C ≤ 4096) (x : Val) (hx : getV l ((row + i) * C + col + j) = x) :
    Calls Try.prog 60 #[.int .i64 i, .int .i64 j, .pointer (some ⟨pa, 0, none⟩), .pointer (some ⟨pr, 0, none⟩), .pointer (some ⟨pc, 0, none⟩)] W fun e W' => e = .returned (VV x.kind x.mant x.exp x.text x.truth x.fault) ∧ Ext W W' := by
  subst hn
  obtain ⟨hk, hk2⟩ := part_prod hi hj h1 h2 hN
  obtain ⟨b, off, rfl, hv, ho⟩ := h.get hk
  rw [hx] at hv
  clear hx ho
  obtain ⟨v0, v1, v2, v3, v4, v5⟩ := hv
  have hbl : b < W.heap.size := lt_of_cell v0
  obtain ⟨hp, b0, b1, b2⟩ := hb
  have w1 : IntKind.i64.wrap (((row : Int) + (i : Int)) * (C : Int)) = (((row + i) * C : Nat) : Int) := by
    rw [IntKind.wrap_i64, Int.natCast_mul, Int.natCast_add]
    have : (((row + i) * C : Nat) : Int) ≤ 4096 := by omega
    rw [Int.natCast_mul, Int.natCast_add] at this
    have h0 : (0 : Int) ≤ ((row : Int) + (i : Int)) * (C : Int) := Int.mul_nonneg (by omega) (by omega)
    omega
  generalize hjc : (row + i) * C = jc at *
  generalize hrc : R * C = rc at *
  clear hjc hrc
  go_enter Try.func60, Try.ntmps60
  go_wp2
  exact bodyPost_ret (v := VV x.kind x.mant x.exp x.text x.truth x.fault) (by simp [results, Try.results60, go_sem]; done) rfl ⟨rfl, by repeat (first | exact Ext.refl _ | exact ext_app _ _ _ _ _ | exact ext_app2 _ _ _ _ _ _ | apply Ext.drew | apply Ext.alloc | apply Ext.more_)⟩

def partL (C row col rows cols : Nat) (l : List Val) : List Val := vals (fun i j => getV l ((row + i) * C + col + j)) cols (rows * cols)
set_option maxHeartbeats 600000 in
theorem part_yes (R C row col rows cols : Nat) (A : Option Addr) (n cap : Nat) (l : List Val) (w : World) (h : ArrIn w A n cap l) (hr : rightA R C l = true) (hr1 : 1 ≤ rows) (hc1 : 1 ≤ cols) (h1 : row + rows ≤ R) (h2 : col + cols ≤ C) :
    Calls Try.prog 29 #[AV R C (.slice A n cap), .int .i64 row, .int .i64 col, .int .i64 rows, .int .i64 cols] w fun e w' => ∃ D c, e = .returned (.tuple #[AV rows cols (.slice D (rows * cols) c), .bool true]) ∧ SlV w.heap.size w' D (partL C row col rows cols l) ∧ rows * cols ≤ c ∧ Ext w w' := by
  obtain ⟨r1, r2, r3, r4, r5, r6⟩ := right_bd hr
  have hln := h.len
  have HN := Lib.hid (show n = R * C by omega)
  have hN : n ≤ 4096 := by omega
  clear r4 hln
  have hh : hasB R C row col = true := by simp [hasB]; omega
  have hT : rows * cols ≤ 4096 := by
    have a1 : rows * cols ≤ rows * C := Nat.mul_le_mul_left _ (by omega)
    have a2 : rows * C ≤ R * C := Nat.mul_le_mul_right _ (by omega)
    omega
  generalize hL : partL C row col rows cols l = LL
  have HL := Lib.hid hL
  clear hL
  generalize hTT : rows * cols = T at *
  have HT := Lib.hid hTT
  clear hTT
  go_enter Try.func29, Try.ntmps29
  go_wp2_with fail
  refine (right_any _ _ _ _ _ _ _ (h.ext (by repeat (first | exact Ext.refl _ | exact ext_app _ _ _ _ _ | exact ext_app2 _ _ _ _ _ _ | apply Ext.drew | apply Ext.alloc | apply Ext.more_)))).mono ?_; rintro e w' ⟨rfl, hb⟩; obtain ⟨os1, d1, rfl⟩ := hb.more; clear hb
  go_wp2_with fail
  refine (has_any _ _ _ _ _ _ rfl).mono ?_; rintro e w' ⟨rfl, hb⟩; obtain ⟨os2, d2, rfl⟩ := hb.more; clear hb
  go_wp2_with fail
  refine (build_pure rows cols 60 #[.pointer (some ⟨w.heap.size, 0, none⟩), .pointer (some ⟨w.heap.size + 1, 0, none⟩), .pointer (some ⟨w.heap.size + 1 + 1, 0, none⟩)] (fun i j => getV l ((row + i) * C + col + j)) _ hr1 hc1 (by rw [HT.out]; exact hT) (fun _ _ => by kernel_rfl) ?_).mono ?_
  · intro i j W hi hj hx
    have hz := hx.size
    refine part1_any w.heap.size (w.heap.size + 1) (w.heap.size + 1 + 1) R C row col rows cols A n cap l i j W (ABox.ext ?_ hx) ?_ ?_ (hx.cell_some ?_) (hx.cell_some ?_) (h.ext (Ext.trans ?_ hx)) HN.out hN hi hj h1 h2 r5 r6 _ rfl
    · refine ⟨?_, ?_, ?_, ?_⟩ <;> simp [go_sem]
    · simp at hz; omega
    · simp at hz; omega
    · simp [go_sem]
    · simp [go_sem]
    · exact (by repeat (first | exact Ext.refl _ | exact ext_app _ _ _ _ _ | exact ext_app2 _ _ _ _ _ _ | apply Ext.drew | apply Ext.alloc | apply Ext.more_))
  rintro e w' ⟨D, c', rfl, hs, hc', hb⟩
  obtain ⟨os', d', rfl⟩ := hb.more
  rw [HT.out] at hs hc' ⊢
  change SlV _ _ _ (vals _ _ _) at hs
  have hs' := hs
  rw [show vals (fun i j => getV l ((row + i) * C + col + j)) cols T = LL by rw [← HL.out, partL, HT.out]] at hs'
  clear hs
  go_wp2
  exact bodyPost_ret (v := .tuple #[AV rows cols (.slice D T c'), .bool true]) (by simp [results, Try.results29, go_sem]; done) rfl ⟨D, c', rfl, (by (try simp only [more_more] at hs'); (try simp only [drew_more] at hs'); (try simp only [more_drew] at hs'); (try simp only [Array.append_assoc] at hs'); exact Rd.swap hs' (by first | (simp; done) | (simp; omega) | omega) (by first | (simp; done) | (simp; omega) | omega) (by first | (simp; done) | (simp; omega) | omega)), hc', by repeat (first | exact Ext.refl _ | exact ext_app _ _ _ _ _ | exact ext_app2 _ _ _ _ _ _ | apply Ext.drew | apply Ext.alloc | apply Ext.more_)⟩

def partOk (r c : Int) (l : List Val) (row col rows cols : Int) : Bool := rightA r c l && decide (1 ≤ rows) && decide (1 ≤ cols) && hasB r c row col && decide (rows ≤ r - row) && decide (cols ≤ c - col)
set_option maxHeartbeats 600000 in
theorem part_no (r c row col rows cols : Int) (A : Option Addr) (n cap : Nat) (l : List Val) (w : World) (h : ArrIn w A n cap l) (hp : partOk r c l row col rows cols = false) :
    Calls Try.prog 29 #[AV r c (.slice A n cap), .int .i64 row, .int .i64 col, .int .i64 rows, .int .i64 cols] w fun e w' => e = .returned (.tuple #[AV 0 0 (.slice none 0 0), .bool false]) ∧ Ext w w' := by
  by_cases hr : rightA r c l = true
  · obtain ⟨R, C, rfl, rfl, r1, r2, r3, r4, _⟩ := right_parts hr
    obtain ⟨_, _, _, _, r5, r6⟩ := right_bd hr
    clear r4
    by_cases h1 : 1 ≤ rows
    · by_cases h2 : 1 ≤ cols
      · by_cases h3 : hasB R C row col = true
        · obtain ⟨a, b, rfl, rfl, ha, hb⟩ := hasB_nat h3
          by_cases h4 : rows ≤ (R : Int) - (a : Int)
          · have h5 : ¬ cols ≤ (C : Int) - (b : Int) := by
              intro h5
              have : partOk R C l a b rows cols = true := by simp [partOk, hr, h1, h2, h3, h4, h5]
              rw [this] at hp; cases hp
            clear hp
            go_enter Try.func29, Try.ntmps29
            go_wp2_with fail
            refine (right_any _ _ _ _ _ _ _ (h.ext (by repeat (first | exact Ext.refl _ | exact ext_app _ _ _ _ _ | exact ext_app2 _ _ _ _ _ _ | apply Ext.drew | apply Ext.alloc | apply Ext.more_)))).mono ?_; rintro e w' ⟨rfl, hb⟩; obtain ⟨os1, d1, rfl⟩ := hb.more; clear hb
            go_wp2_with fail
            refine (has_any _ _ _ _ _ _ rfl).mono ?_; rintro e w' ⟨rfl, hb⟩; obtain ⟨os2, d2, rfl⟩ := hb.more; clear hb
            go_wp2
            exact bodyPost_ret (v := .tuple #[AV 0 0 (.slice none 0 0), .bool false]) (by simp [results, Try.results29, go_sem]; done) rfl ⟨rfl, by repeat (first | exact Ext.refl _ | exact ext_app _ _ _ _ _ | exact ext_app2 _ _ _ _ _ _ | apply Ext.drew | apply Ext.alloc | apply Ext.more_)⟩
          · clear hp
            go_enter Try.func29, Try.ntmps29
            go_wp2_with fail
            refine (right_any _ _ _ _ _ _ _ (h.ext (by repeat (first | exact Ext.refl _ | exact ext_app _ _ _ _ _ | exact ext_app2 _ _ _ _ _ _ | apply Ext.drew | apply Ext.alloc | apply Ext.more_)))).mono ?_; rintro e w' ⟨rfl, hb⟩; obtain ⟨os1, d1, rfl⟩ := hb.more; clear hb
            go_wp2_with fail
            refine (has_any _ _ _ _ _ _ rfl).mono ?_; rintro e w' ⟨rfl, hb⟩; obtain ⟨os2, d2, rfl⟩ := hb.more; clear hb
            go_wp2
            exact bodyPost_ret (v := .tuple #[AV 0 0 (.slice none 0 0), .bool false]) (by simp [results, Try.results29, go_sem]; done) rfl ⟨rfl, by repeat (first | exact Ext.refl _ | exact ext_app _ _ _ _ _ | exact ext_app2 _ _ _ _ _ _ | apply Ext.drew | apply Ext.alloc | apply Ext.more_)⟩
        · have h3' : hasB R C row col = false := by simpa using h3
          clear hp h3
          go_enter Try.func29, Try.ntmps29
          go_wp2_with fail
          refine (right_any _ _ _ _ _ _ _ (h.ext (by repeat (first | exact Ext.refl _ | exact ext_app _ _ _ _ _ | exact ext_app2 _ _ _ _ _ _ | apply Ext.drew | apply Ext.alloc | apply Ext.more_)))).mono ?_; rintro e w' ⟨rfl, hb⟩; obtain ⟨os1, d1, rfl⟩ := hb.more; clear hb
          go_wp2_with fail
          refine (has_any _ _ _ _ _ _ rfl).mono ?_; rintro e w' ⟨rfl, hb⟩; obtain ⟨os2, d2, rfl⟩ := hb.more; clear hb
          go_wp2
          exact bodyPost_ret (v := .tuple #[AV 0 0 (.slice none 0 0), .bool false]) (by simp [results, Try.results29, go_sem]; done) rfl ⟨rfl, by repeat (first | exact Ext.refl _ | exact ext_app _ _ _ _ _ | exact ext_app2 _ _ _ _ _ _ | apply Ext.drew | apply Ext.alloc | apply Ext.more_)⟩
      · clear hp
        go_enter Try.func29, Try.ntmps29
        go_wp2_with fail
        refine (right_any _ _ _ _ _ _ _ (h.ext (by repeat (first | exact Ext.refl _ | exact ext_app _ _ _ _ _ | exact ext_app2 _ _ _ _ _ _ | apply Ext.drew | apply Ext.alloc | apply Ext.more_)))).mono ?_; rintro e w' ⟨rfl, hb⟩; obtain ⟨os1, d1, rfl⟩ := hb.more; clear hb
        go_wp2
        exact bodyPost_ret (v := .tuple #[AV 0 0 (.slice none 0 0), .bool false]) (by simp [results, Try.results29, go_sem]; done) rfl ⟨rfl, by repeat (first | exact Ext.refl _ | exact ext_app _ _ _ _ _ | exact ext_app2 _ _ _ _ _ _ | apply Ext.drew | apply Ext.alloc | apply Ext.more_)⟩
    · clear hp
      go_enter Try.func29, Try.ntmps29
      go_wp2_with fail
      refine (right_any _ _ _ _ _ _ _ (h.ext (by repeat (first | exact Ext.refl _ | exact ext_app _ _ _ _ _ | exact ext_app2 _ _ _ _ _ _ | apply Ext.drew | apply Ext.alloc | apply Ext.more_)))).mono ?_; rintro e w' ⟨rfl, hb⟩; obtain ⟨os1, d1, rfl⟩ := hb.more; clear hb
      go_wp2
      exact bodyPost_ret (v := .tuple #[AV 0 0 (.slice none 0 0), .bool false]) (by simp [results, Try.results29, go_sem]; done) rfl ⟨rfl, by repeat (first | exact Ext.refl _ | exact ext_app _ _ _ _ _ | exact ext_app2 _ _ _ _ _ _ | apply Ext.drew | apply Ext.alloc | apply Ext.more_)⟩
  · have hr' : rightA r c l = false := by simpa using hr
    clear hr hp
    go_enter Try.func29, Try.ntmps29
    go_wp2_with fail
    refine (right_any _ _ _ _ _ _ _ (h.ext (by repeat (first | exact Ext.refl _ | exact ext_app _ _ _ _ _ | exact ext_app2 _ _ _ _ _ _ | apply Ext.drew | apply Ext.alloc | apply Ext.more_)))).mono ?_; rintro e w' ⟨rfl, hb⟩; obtain ⟨os1, d1, rfl⟩ := hb.more; clear hb
    go_wp2
    exact bodyPost_ret (v := .tuple #[AV 0 0 (.slice none 0 0), .bool false]) (by simp [results, Try.results29, go_sem]; done) rfl ⟨rfl, by repeat (first | exact Ext.refl _ | exact ext_app _ _ _ _ _ | exact ext_app2 _ _ _ _ _ _ | apply Ext.drew | apply Ext.alloc | apply Ext.more_)⟩
end Go.Proofs.Ytdhdphgecoplbaa
