/- What the rows' proofs lean on: the contracts of the functions that they reach, and plain facts (part R3). -/
import Derived.WalkKit
import Derived.WalkLawsBesides
import Derived.WalkSpells
import Derived.Outline
import Derived.Below
import Derived.Deep.RegionHeld3
import Derived.Deep.DeepCutAuto
import Derived.Deep.AppendLies
import Derived.Maps.AppendAt
import Derived.Lib.Hide
import Derived.OrdersHeld
import Derived.Test.YtmjmijjbijlhfaaGreatDoorProg
import Derived.Shelf.Small.Bits
import Derived.Shelf.Small.Strs
import Derived.Shelf.Strconv.Itoa0
import Derived.Shelf.Strconv.Itoa1
import Derived.Shelf.LaysM
import Derived.Shelf.Strconv.Itoa2
import Derived.Shelf.Bits.Mul64
import Derived.Ground.SlgmProg
import Derived.Shelf.SortM.Plain
import Derived.Shelf.SortM.SortNone
import Derived.Lib.ItoaMem
import Derived.Lib.OthersKept
import Derived.Deep.CutBlock
import Derived.Laws.Bits64b
import Derived.Lib.AppendZeros
import Derived.Lib.Bytealg
import Derived.Laws.RangeAny
import Derived.Maps.OwnSet
import Derived.Maps.Own
import Derived.Laws.EntriesVeiled
import Derived.Lib.ConvBytes
import Derived.Lib.SlBytesRow
import Derived.Lib.SmallJoins
import Derived.RegionTactic
import Derived.Sort.OwnSortedInts
import Derived.Shelf.SlIter.Nil
import Derived.Ground.GgzProg
import Derived.Test.YtmjmijjbijlhfaaGreatDoorRows
import Derived.Test.YtmjmijjbijlhfaaGreatDoorCards
import Derived.Test.YtmjmijjbijlhfaaGreatDoorTie
import Derived.ProofKit
import Derived.LaidMore
import Derived.OpenShut
import Derived.ShutString
import Derived.ChangeOld
import Derived.Stop.Joined
import Derived.Deep.Slices
import Derived.SevenTiedAt
import Derived.Test.YtmjmijjbijlhfaaGreatDoorR2
set_option linter.unusedSimpArgs false
set_option linter.unusedVariables false
set_option maxRecDepth 100000
namespace Go.Proofs.YtmjmijjbijlhfaaGreatDoor
open Go.RowKit
theorem badV_ok (f : Int) (h : I64 f) : (badV f).ok := ⟨⟨by simp [badV], by simp [badV]⟩, ⟨by simp [badV], by simp [badV]⟩, ⟨by simp [badV], by simp [badV]⟩, by simp [badV, ByteArray.size], h⟩
theorem getV_mem {l : List Val} {k : Nat} (h : k < l.length) : getV l k ∈ l := by
  simp [getV, List.getElem?_eq_getElem h]
theorem getV_vals (g : Nat → Nat → Val) {R C i j : Nat} (hi : i < R) (hj : j < C) : getV (vals g C (R * C)) (i * C + j) = g i j := by
  have h1 : (i * C + j) / C = i := by rw [Nat.add_comm, Nat.add_mul_div_right _ _ (by omega), Nat.div_eq_of_lt hj]; omega
  have h2 : (i * C + j) % C = j := by rw [Nat.add_comm, Nat.add_mul_mod_self_right, Nat.mod_eq_of_lt hj]
  have h3 : i * C + j < R * C := by
    calc i * C + j < i * C + C := by omega
      _ = (i + 1) * C := by rw [Nat.succ_mul]
      _ ≤ R * C := Nat.mul_le_mul_right _ hi
  simp [getV, vals, h1, h2, h3]
theorem vals_congr {g g' : Nat → Nat → Val} {C R : Nat} (h : ∀ i j, i < R → j < C → g i j = g' i j) : vals g C (R * C) = vals g' C (R * C) := by
  unfold vals
  refine List.map_congr_left fun t ht => ?_
  have ht' : t < R * C := List.mem_range.1 ht
  have hC : 0 < C := by rcases Nat.eq_zero_or_pos C with rfl | h; · simp at ht'
                        · exact h
  exact h _ _ (Nat.div_lt_of_lt_mul (by rw [Nat.mul_comm]; exact ht')) (Nat.mod_lt _ hC)
/-- An array as data. -/
structure NA where
  R : Nat
  C : Nat
  l : List Val
def NA.right (a : NA) : Prop := rightA a.R a.C a.l = true
def NA.ok (a : NA) : Prop := ∀ x ∈ a.l, x.ok
theorem rightA_nat {R C : Nat} {l : List Val} : rightA R C l = true ↔ 1 ≤ R ∧ 1 ≤ C ∧ R * C ≤ 4096 ∧ l.length = R * C ∧ ∀ x ∈ l, valRight x = true := by
  simp only [rightA, Bool.and_eq_true, fits_nat, decide_eq_true_eq, List.all_eq_true]
  constructor
  · rintro ⟨⟨⟨h1, h2, h3⟩, h4⟩, h5⟩
    refine ⟨h1, h2, h3, ?_, h5⟩
    have : ((l.length : Nat) : Int) = ((R * C : Nat) : Int) := by rw [h4]; simp
    omega
  · rintro ⟨h1, h2, h3, h4, h5⟩
    exact ⟨⟨⟨h1, h2, h3⟩, by rw [h4]; simp⟩, h5⟩
end Go.Proofs.YtmjmijjbijlhfaaGreatDoor
namespace Go.Proofs.YtmjmijjbijlhfaaGreatDoor
open Go.RowKit NM
/-- An argument: an array that may be, and where its values lie. -/
structure Ar where
  x : NA
  A : Option Addr
  n : Nat
  cap : Nat
def Ar.cells (a : Ar) : List Value := [.int .i64 a.x.R, .int .i64 a.x.C, .slice a.A a.n a.cap]
def acells (xs : List Ar) : List Value := xs.flatMap Ar.cells
/-- The three cells of an array anywhere. -/
def ArAt (w : World) (b o : Nat) (a : Ar) : Prop :=
  w.cell? ⟨b, o, none⟩ = some (.int .i64 a.x.R) ∧ w.cell? ⟨b, o + 1, none⟩ = some (.int .i64 a.x.C) ∧ w.cell? ⟨b, o + 2, none⟩ = some (.slice a.A a.n a.cap)
theorem acells_at : ∀ (xs : List Ar) (i : Nat) (a : Ar), xs[i]? = some a → ∀ j, j < 3 → (acells xs)[i * 3 + j]? = a.cells[j]?
  | [], i, x, h, j, hj => by simp at h
  | y :: l, 0, x, h, j, hj => by
    obtain rfl : y = x := by simpa using h
    rw [acells, List.flatMap_cons, List.getElem?_append_left (by simp [Ar.cells]; omega)]
    simp
  | y :: l, i + 1, x, h, j, hj => by
    rw [acells, List.flatMap_cons, List.getElem?_append_right (by simp [Ar.cells]; omega)]
    rw [show (i + 1) * 3 + j - y.cells.length = i * 3 + j by simp [Ar.cells]; omega]
    exact acells_at l i x (by simpa using h) j hj
/-- An array whose values lie, and may be. -/
structure ArOk (w : World) (a : Ar) : Prop where
  arr : ArrIn w a.A a.n a.cap a.x.l
  right : a.x.right
theorem ArOk.ext {w w' : World} {a : Ar} (h : ArOk w a) (hx : Ext w w') : ArOk w' a := ⟨h.arr.ext hx, h.right⟩
structure ArgsIn (w : World) (A : Option Addr) (n cap : Nat) (xs : List Ar) : Prop where
  rd : Rd 0 w A (acells xs)
  len : xs.length = n
  cap : n ≤ cap
  small : n ≤ 9223372036854775807
  all : ∀ a ∈ xs, ArOk w a
theorem ArgsIn.ext {w w' : World} {A : Option Addr} {n cap : Nat} {xs : List Ar} (h : ArgsIn w A n cap xs) (hx : Ext w w') : ArgsIn w' A n cap xs :=
  ⟨h.rd.ext hx, h.len, h.cap, h.small, fun a ha => (h.all a ha).ext hx⟩
theorem ArgsIn.get {w : World} {A : Option Addr} {n cap : Nat} {xs : List Ar} (h : ArgsIn w A n cap xs) {k : Nat} {a : Ar} (hk : xs[k]? = some a) :
    ∃ b off, A = some ⟨b, off, none⟩ ∧ ArAt w b (off + k * 3) a ∧ ArOk w a := by
  have hc : ∀ j, j < 3 → (acells xs)[k * 3 + j]? = a.cells[j]? := acells_at xs k a hk
  obtain ⟨b, off, rfl, _, h0⟩ := h.rd (k * 3 + 0) (.int .i64 a.x.R) (by rw [hc 0 (by omega)]; rfl)
  refine ⟨b, off, rfl, ?_, h.all a (List.mem_of_getElem? hk)⟩
  have hg : ∀ j u, j < 3 → a.cells[j]? = some u → w.cell? ⟨b, off + k * 3 + j, none⟩ = some u := fun j u hj hu => by
    obtain ⟨b', off', he, _, h1⟩ := h.rd (k * 3 + j) u (by rw [hc j hj]; exact hu)
    simp only [Option.some.injEq, Addr.mk.injEq, and_true] at he
    obtain ⟨rfl, rfl⟩ := he
    rw [← h1]; congr 2; omega
  exact ⟨hg 0 _ (by omega) rfl, hg 1 _ (by omega) rfl, hg 2 _ (by omega) rfl⟩
theorem ArgsIn.at {w : World} {A : Option Addr} {n cap : Nat} {xs : List Ar} (h : ArgsIn w A n cap xs) {k : Nat} (hk : k < n) :
    ∃ a b off, xs[k]? = some a ∧ A = some ⟨b, off, none⟩ ∧ ArAt w b (off + k * 3) a ∧ ArOk w a := by
  have hl : k < xs.length := by rw [h.len]; exact hk
  obtain ⟨b, off, e, h1, h2⟩ := h.get (List.getElem?_eq_getElem hl)
  exact ⟨_, b, off, List.getElem?_eq_getElem hl, e, h1, h2⟩
/-- What lies in one block from its start on. -/
theorem Rd.of_row {w : World} {b : Nat} {cs : List Value} {t : TypeId} (h : w.heap[b]? = some (.cells cs.toArray t)) (base : Nat) (hb : base ≤ b) : Rd base w (some ⟨b, 0, none⟩) cs := fun j u hu => by
  refine ⟨b, 0, rfl, hb, ?_⟩
  simp only [World.cell?, h, Nat.zero_add]
  simpa using hu
/-- What a function of arrays hands back. -/
def ResA (w : World) (x : NA) (e : Ending) (w' : World) : Prop :=
  ∃ D m cc, e = .returned (AV x.R x.C (.slice D m cc)) ∧ ArrN w.heap.size w' D m cc x.l ∧ Ext w w'
def oneA (v : Val) : NA := ⟨1, 1, [v]⟩
def aloneO (f : Int) : NA := oneA (bad_ f)
end Go.Proofs.YtmjmijjbijlhfaaGreatDoor
namespace Go.Proofs.YtmjmijjbijlhfaaGreatDoor
open Go.RowKit NM
theorem ArrO.res {w w' : World} {e : Ending} {x : NA} (h : ArrO w.heap.size w' e x.R x.C x.l) (hl : x.l.length ≤ 9223372036854775807) (ho : x.ok) (hx : Ext w w') : ResA w x e w' := by
  obtain ⟨A, cap, rfl, h1, h2⟩ := h
  exact ⟨A, _, cap, rfl, ⟨h1, rfl, h2, hl, ho⟩, hx⟩
theorem one_res (v : Val) (w : World) (hv : v.ok) (hr : v.right) :
    Calls Tryz.prog 36 #[VV v.kind v.mant v.exp v.text v.truth v.fault] w fun e w' => ResA w (oneA v) e w' :=
  (one_right v.kind v.mant v.exp v.fault v.text v.truth w hv.2.1 hv.2.2.2.1 hr).mono fun e w' ⟨h1, h2⟩ => ArrO.res (x := oneA v) h1 (by simp [oneA]) (fun y hy => by rw [show y = v by simpa [oneA] using hy]; exact hv) h2
theorem ok_bad (f : Int) : (bad_ f).ok := badV_ok _ (by have := badF_bd f; unfold I64; omega)
end Go.Proofs.YtmjmijjbijlhfaaGreatDoor
namespace Go.Proofs.YtmjmijjbijlhfaaGreatDoor
open Go.RowKit NM
theorem upB_yes {b : UInt8} (h1 : 97 ≤ b.toNat) (h2 : b.toNat ≤ 122) : (upB b).toNat = b.toNat - 32 := by
  unfold upB
  rw [if_pos ⟨UInt8.le_iff_toNat_le.2 h1, UInt8.le_iff_toNat_le.2 h2⟩, UInt8.toNat_sub_of_le]
  · rfl
  · rw [UInt8.le_iff_toNat_le]; show 32 ≤ b.toNat; omega
theorem upB_no {b : UInt8} (h : b.toNat < 97 ∨ 122 < b.toNat) : upB b = b := by
  unfold upB
  rw [if_neg]
  rintro ⟨h1, h2⟩
  have h1 : 97 ≤ b.toNat := UInt8.le_iff_toNat_le.1 h1
  have h2 : b.toNat ≤ 122 := UInt8.le_iff_toNat_le.1 h2
  omega
theorem bytes_ext_ (w : World) (e : TypeId) (s : ByteArray) : Ext w (Lib.bytesWorld w e s) :=
  ⟨rfl, rfl, rfl, by rw [Lib.bytesWorld_size]; omega, fun b hb => Lib.bytesWorld_at_old w e s b hb⟩
theorem tl_get (s : ByteArray) (j : Nat) (h : j < s.size) : (tl s)[j]? = some (s[j]'h) := by
  unfold tl
  rw [List.getElem?_eq_getElem (by exact h)]
  rfl
theorem fold_get (s : ByteArray) (j : Nat) (h : j < s.size) : (foldB s)[j]'(by rw [foldB_size]; exact h) = upB (s[j]'h) := by
  have h1 := tl_get (foldB s) j (by rw [foldB_size]; exact h)
  rw [tl_fold, List.getElem?_map, tl_get s j h] at h1
  exact (Option.some.inj h1).symm
/-- What the loop of folded keeps. -/
structure FS (w : World) (s : ByteArray) (k : Nat) (wr : World) : Prop where
  ext : Ext w wr
  cell : ∀ j (h : j < s.size), wr.cell? ⟨w.heap.size, j, none⟩ = some (.int .u8 ((if j < k then upB (s[j]'h) else s[j]'h).toNat : Int))
  fz : ∀ j, j < s.size → wr.frozen? ⟨w.heap.size, j, none⟩ = false
theorem FS.start (w : World) (s : ByteArray) : FS w s 0 (Lib.bytesWorld w 5 s) := by
  refine ⟨bytes_ext_ _ _ _, fun j h => ?_, fun j h => ?_⟩
  · rw [Lib.bytesWorld_cell _ _ _ _ h]
    have h1 := tl_get s j h
    unfold tl at h1
    rw [List.getD_eq_getElem?_getD, h1]
    rfl
  · have hc : s.size ≤ (Lib.bytesCells w 5 s).size := by
      unfold Lib.bytesCells
      rw [Array.size_append, Array.size_map]
      exact Nat.le_add_right _ _
    unfold World.frozen?
    rw [Lib.bytesWorld_at_new]
    simp
    omega
theorem FS.lt {w : World} {s : ByteArray} {k : Nat} {wr : World} (h : FS w s k wr) (h0 : 0 < s.size) : w.heap.size < wr.heap.size := lt_of_cell (h.cell 0 h0)
theorem FS.up {w : World} {s : ByteArray} {k : Nat} {wr : World} (h : FS w s k wr) (hk : k < s.size) (v : Int) (hv : v = ((upB (s[k]'hk)).toNat : Int)) : FS w s (k + 1) (wr.setCell ⟨w.heap.size, k, none⟩ (.int .u8 v)) := by
  subst hv
  refine ⟨h.ext.set _ (Nat.le_refl _), fun j hj => ?_, fun j hj => by rw [World.frozen?_setCell]; exact h.fz j hj⟩
  by_cases hjk : j = k
  · subst hjk
    rw [World.cell?_setCell_same _ _ _ (h.cell j hj), if_pos (by omega)]
  · rw [World.cell?_setCell_other _ _ _ _ (by intro e; injection e with _ e; omega), h.cell j hj]
    congr 4
    by_cases h1 : j < k
    · rw [if_pos h1, if_pos (by omega)]
    · rw [if_neg h1, if_neg (by omega)]
theorem FS.keep {w : World} {s : ByteArray} {k : Nat} {wr : World} (h : FS w s k wr) (hk : k < s.size) (hv : upB (s[k]'hk) = s[k]'hk) : FS w s (k + 1) wr := by
  refine ⟨h.ext, fun j hj => ?_, h.fz⟩
  rw [h.cell j hj]
  by_cases hjk : j = k
  · subst hjk
    rw [if_neg (by omega), if_pos (by omega), hv]
  · congr 4
    by_cases h1 : j < k
    · rw [if_pos h1, if_pos (by omega)]
    · rw [if_neg h1, if_neg (by omega)]
theorem FS.done {w : World} {s : ByteArray} {wr : World} (h : FS w s s.size wr) : Lib.Bytes wr w.heap.size 0 (foldB s) := by
  intro j hj
  have hj' : j < s.size := by rw [foldB_size] at hj; exact hj
  rw [Nat.zero_add, h.cell j hj', if_pos hj', fold_get s j hj']
set_option maxHeartbeats 1000000 in
theorem folded_any (s : ByteArray) (w : World) (h0 : 0 < s.size) (hs : s.size ≤ 9223372036854775807) :
    Calls Tryz.prog 174 #[.string s] w fun e w' => e = .returned (.string (foldB s)) ∧ Ext w w' := by
  have hc1 := Lib.run_convert_string_bytes (P := Tryz.prog) w 9 135 5 s Tryz.underlying9 Tryz.underlying135 Tryz.underlying5
  have hst := FS.start w s
  generalize Lib.bytesWorld w 5 s = W at *
  generalize grownCap w s.size 0 5 = cap at *
  have HST := Lib.hid hst
  clear hst
  go_enter Tryz.func174, Tryz.ntmps174
  go_wp2_with fail
  go_loopw [10] (fun v10 wr => ∃ k : Nat, k ≤ s.size ∧ v10 = .int .i64 (k : Int) ∧ Hid (FS w s k wr)) (fun v10 _ => s.size - (intOf v10).toNat)
  case atStart => exact ⟨0, Nat.zero_le _, rfl, HST⟩
  case round =>
    obtain ⟨k, hk, rfl, H⟩ := hrel
    by_cases hks : k < s.size
    · have hc := H.out.cell k hks
      rw [if_neg (Nat.lt_irrefl k)] at hc
      have hf := H.out.fz k hks
      have hl := H.out.lt h0
      have hb := (s[k]'hks).toNat_lt
      by_cases h97 : 97 ≤ (s[k]'hks).toNat
      · by_cases h122 : (s[k]'hks).toNat ≤ 122
        · have HU := Lib.hid (H.out.up hks (((s[k]'hks).toNat : Int) - 97 + 65) (by rw [upB_yes h97 h122]; omega))
          have g1 : (97 : Int) ≤ ((s[k]'hks).toNat : Int) := by omega
          have g2 : ((s[k]'hks).toNat : Int) ≤ 122 := by omega
          generalize (s[k]'hks).toNat = c at *
          have w1 : IntKind.u8.wrap ((c : Int) - 97) = (c : Int) - 97 := by rw [IntKind.wrap_u8]; omega
          have w2 : IntKind.u8.wrap ((c : Int) - 97 + 65) = (c : Int) - 97 + 65 := by rw [IntKind.wrap_u8]; omega
          clear h97 h122
          go_wp2_with fail
          exact ⟨⟨k + 1, by omega, by go_num, HU⟩, by simp [intOf]; omega⟩
        · have HU := Lib.hid (H.out.keep hks (upB_no (by omega)))
          have g1 : (97 : Int) ≤ ((s[k]'hks).toNat : Int) := by omega
          have g2 : ¬ ((s[k]'hks).toNat : Int) ≤ 122 := by omega
          generalize (s[k]'hks).toNat = c at *
          clear h97 h122
          go_wp2_with fail
          exact ⟨⟨k + 1, by omega, by go_num, HU⟩, by simp [intOf]; omega⟩
      · have HU := Lib.hid (H.out.keep hks (upB_no (by omega)))
        have g1 : ¬ (97 : Int) ≤ ((s[k]'hks).toNat : Int) := by omega
        generalize (s[k]'hks).toNat = c at *
        clear h97
        go_wp2_with fail
        exact ⟨⟨k + 1, by omega, by go_num, HU⟩, by simp [intOf]; omega⟩
    · obtain rfl : k = s.size := by omega
      have hcv := Lib.run_convert_whole (P := Tryz.prog) wr 135 5 9 Tryz.underlying135 Tryz.underlying5 Tryz.underlying9 w.heap.size 0 (foldB s) H.out.done cap
      rw [foldB_size] at hcv
      go_wp2_with fail
      exact bodyPost_ret (v := .string (foldB s)) (by simp [results, Tryz.results174, go_sem]) rfl ⟨rfl, H.out.ext⟩
set_option maxHeartbeats 1000000 in
theorem fold_any (s : ByteArray) (w : World) (hs : s.size ≤ 9223372036854775807) :
    Calls Tryz.prog 144 #[.string s] w fun e w' => e = .returned (.string (foldB s)) ∧ Ext w w' := by
  go_enter Tryz.func144, Tryz.ntmps144
  go_wp2_with fail
  go_loop [6] (fun v6 => ∃ k : Nat, k ≤ s.size ∧ v6 = .int .i64 (k : Int) ∧ Hid (∀ j (h : j < s.size), j < k → upB (s[j]'h) = s[j]'h)) (fun v6 => s.size - (intOf v6).toNat)
  case atStart => exact ⟨0, Nat.zero_le _, rfl, fun j _ h => by omega⟩
  case round =>
    obtain ⟨k, hk, rfl, H⟩ := hrel
    have hstep : ∀ hks : k < s.size, upB (s[k]'hks) = s[k]'hks → Hid (∀ j (h : j < s.size), j < k + 1 → upB (s[j]'h) = s[j]'h) := by
      intro hks hu j hj hjk
      by_cases h : j = k
      · subst h; exact hu
      · exact H.out j hj (by omega)
    by_cases hks : k < s.size
    · have HS := fun hu => hstep hks hu
      by_cases h97 : 97 ≤ (s[k]'hks).toNat
      · have g1 : (97 : Int) ≤ ((s[k]'hks).toNat : Int) := by omega
        by_cases h122 : (s[k]'hks).toNat ≤ 122
        · have g2 : ((s[k]'hks).toNat : Int) ≤ 122 := by omega
          have hfd := folded_any s w (by omega) hs
          clear HS hstep h97 h122
          go_wp2_with (go_at_call 174; (with_reducible refine hfd.mono ?_); rintro e w' ⟨rfl, hb⟩)
          exact bodyPost_ret (v := .string (foldB s)) (by simp [results, Tryz.results144, go_sem]) rfl ⟨rfl, hb⟩
        · have g2 : ¬ ((s[k]'hks).toNat : Int) ≤ 122 := by omega
          have HU := HS (upB_no (by omega))
          clear HS hstep h97 h122
          go_wp2_with fail
          exact ⟨⟨k + 1, by omega, by go_num, HU⟩, by simp [intOf]; omega⟩
      · have g1 : ¬ (97 : Int) ≤ ((s[k]'hks).toNat : Int) := by omega
        have HU := HS (upB_no (by omega))
        clear HS hstep h97
        go_wp2_with fail
        exact ⟨⟨k + 1, by omega, by go_num, HU⟩, by simp [intOf]; omega⟩
    · have hfs : Hid (foldB s = s) := by
        show _ = _
        have h1 : tl (foldB s) = tl s := by
          rw [tl_fold]
          conv => rhs; rw [← List.map_id (tl s)]
          apply List.map_congr_left
          intro b hb
          obtain ⟨j, hj, rfl⟩ := List.mem_iff_getElem.1 hb
          exact H.out j hj (by have : j < s.size := hj; omega)
        rw [tl_eq h1]
        cases s; simp [tl]
      have hks' : ¬ (k : Int) < (s.size : Int) := by omega
      clear hstep
      go_wp2_with fail
      exact bodyPost_ret (v := .string s) (by simp [results, Tryz.results144, go_sem]) rfl ⟨by rw [hfs.out], Ext.refl _⟩
end Go.Proofs.YtmjmijjbijlhfaaGreatDoor
namespace Go.Proofs.YtmjmijjbijlhfaaGreatDoor
open Go.RowKit
/-- A variable that may come up at any time: the operation, its slot, what it makes. -/
abbrev FL := Nat × Nat × Obj
def ptrB (b : Nat) : Value := .pointer (some ⟨b, 0, none⟩)
def putF : List FL → (Nat → Option Nat) → Act → Act
  | [], _, a => a
  | x :: fs, β, a => match β x.1 with
    | none => putF fs β a
    | some b => (putF fs β a).put (some x.2.1) (ptrB b)
def setB (β : Nat → Option Nat) (j b : Nat) : Nat → Option Nat := fun i => if i = j then some b else β i
def np (fs : List FL) (β : Nat → Option Nat) : Nat := fs.countP fun x => (β x.1).isNone
theorem putF_congr {β β' : Nat → Option Nat} {a : Act} : ∀ {fs : List FL}, (∀ x ∈ fs, β x.1 = β' x.1) → putF fs β a = putF fs β' a
  | [], _ => rfl
  | x :: fs, h => by
    unfold putF
    rw [h x (by simp), putF_congr (fs := fs) fun y hy => h y (by simp [hy])]
theorem putF_put {β : Nat → Option Nat} {a : Act} {d : Option Tmp} {v : Value} : ∀ {fs : List FL}, (∀ x ∈ fs, d ≠ some x.2.1) → putF fs β (a.put d v) = (putF fs β a).put d v
  | [], _ => rfl
  | x :: fs, h => by
    unfold putF
    rw [putF_put (fs := fs) fun y hy => h y (by simp [hy])]
    cases β x.1 with
    | none => rfl
    | some b => exact Act.put_comm _ _ _ fun e he hx => h x (by simp) (by rw [he, hx])
theorem putF_set {β : Nat → Option Nat} {a : Act} {x : FL} {b : Nat} : ∀ {fs : List FL}, x ∈ fs → (fs.map (·.1)).Nodup → (fs.map (·.2.1)).Nodup → β x.1 = none → putF fs (setB β x.1 b) a = (putF fs β a).put (some x.2.1) (ptrB b)
  | [], h, _, _, _ => by cases h
  | y :: fs, h, hn, hs, hb => by
    simp only [List.map_cons, List.nodup_cons, List.mem_map, not_exists, not_and] at hn hs
    unfold putF
    by_cases hxy : y.1 = x.1
    · have hyx : y = x := by
        rcases List.mem_cons.1 h with rfl | h'
        · rfl
        · exact absurd hxy.symm (hn.1 x h')
      subst hyx
      have e : putF fs (setB β y.1 b) a = putF fs β a := putF_congr fun z hz => by
        unfold setB; rw [if_neg (fun e => hn.1 z hz e)]
      simp only [setB, if_true, hb] at e ⊢
      rw [e]
    · have hx : x ∈ fs := by
        rcases List.mem_cons.1 h with rfl | h'
        · exact absurd rfl hxy
        · exact h'
      have e : setB β x.1 b y.1 = β y.1 := by unfold setB; rw [if_neg hxy]
      rw [e, putF_set hx hn.2 hs.2 hb]
      cases β y.1 with
      | none => rfl
      | some b' => exact Act.put_comm _ _ _ fun d hd hd' => hs.1 x hx (by simp_all)
theorem np_set {β : Nat → Option Nat} {x : FL} {b : Nat} : ∀ {fs : List FL}, x ∈ fs → (fs.map (·.1)).Nodup → β x.1 = none → np fs (setB β x.1 b) + 1 = np fs β
  | [], h, _, _ => by cases h
  | y :: fs, h, hn, hb => by
    simp only [List.map_cons, List.nodup_cons, List.mem_map, not_exists, not_and] at hn
    unfold np
    rw [List.countP_cons, List.countP_cons]
    by_cases hxy : y.1 = x.1
    · have e : fs.countP (fun z => (setB β x.1 b z.1).isNone) = fs.countP (fun z => (β z.1).isNone) := by
        refine List.countP_congr fun z hz => ?_
        rw [show setB β x.1 b z.1 = β z.1 by unfold setB; rw [if_neg (fun e => hn.1 z hz (e.trans hxy.symm))]]
      rw [e, show setB β x.1 b y.1 = some b by unfold setB; rw [if_pos hxy], show β y.1 = none by rw [hxy]; exact hb]
      simp
    · have hx : x ∈ fs := by
        rcases List.mem_cons.1 h with rfl | h'
        · exact absurd rfl hxy
        · exact h'
      have ih := np_set (b := b) hx hn.2 hb
      unfold np at ih
      rw [show setB β x.1 b y.1 = β y.1 by unfold setB; rw [if_neg hxy]]
      omega
theorem nodup_inj {x y : FL} : ∀ {fs : List FL}, (fs.map (·.1)).Nodup → x ∈ fs → y ∈ fs → x.1 = y.1 → x = y
  | [], _, h, _, _ => by cases h
  | z :: fs, hn, hx, hy, e => by
    simp only [List.map_cons, List.nodup_cons, List.mem_map, not_exists, not_and] at hn
    rcases List.mem_cons.1 hx with rfl | hx'
    · rcases List.mem_cons.1 hy with rfl | hy'
      · rfl
      · exact absurd e.symm (hn.1 y hy')
    · rcases List.mem_cons.1 hy with rfl | hy'
      · exact absurd e (hn.1 x hx')
      · exact nodup_inj hn.2 hx' hy' e
theorem np_zero {β : Nat → Option Nat} {fs : List FL} (h : np fs β = 0) : ∀ x ∈ fs, ∃ b, β x.1 = some b := by
  intro x hx
  have := List.countP_eq_zero.1 h x hx
  cases hb : β x.1 with
  | none => simp [hb] at this
  | some b => exact ⟨b, rfl⟩
theorem np_pos {β : Nat → Option Nat} {fs : List FL} (h : np fs β ≠ 0) : ∃ x ∈ fs, β x.1 = none := by
  obtain ⟨x, hx, hb⟩ := List.countP_pos_iff.1 (Nat.pos_of_ne_zero h)
  exact ⟨x, hx, by simpa using hb⟩
section
variable {P : Program} {ops : Array Oper} {Q : Exit → Act → World → Prop} {tl : List Nat}
theorem wpOp_put1 {j : Nat} {oj : Oper} {d : Tmp} {v : Value} (hj : ops[j]? = some oj) (hsj : ∀ cs b, oj.op ≠ .select cs b) (h1 : d ∉ oj.looksAt ops) (h2 : oj.dst ≠ some d)
    (hQ : ∀ c a w, Q (.panic c) a w → Q (.panic c) (a.put (some d) v) w) {K : Act → World → Prop} {a : Act} {w : World} (h : wpOp P ops Q j K a w) :
    wpOp P ops Q j (fun a' w' => ∃ a'', a' = a''.put (some d) v ∧ K a'' w') (a.put (some d) v) w := by
  have h1' : ∀ e, (some d : Option Tmp) = some e → e ∉ oj.looksAt ops := fun e he => by obtain rfl := Option.some.inj he; exact h1
  have h2' : ∀ e, (some d : Option Tmp) = some e → oj.dst ≠ some e := fun e he => by obtain rfl := Option.some.inj he; exact h2
  unfold wpOp at *
  simp only [hj] at *
  rw [wanted_put oj a (some d) v h1']
  split
  · rename_i hw
    simp only [hw, if_true] at h
    rcases h with h | ⟨hasks, hlets⟩
    case inr => exact .inr ⟨by unfold Oper.asks at *; rw [execOp_put oj hsj a (some d) v h1']; exact hasks, hlets⟩
    refine .inl ?_
    unfold Oper.wp at *
    rw [execOp_put oj hsj a (some d) v h1']
    generalize (execOp a.eval oj).run P w = r at *
    cases r with
    | ok n w' =>
      cases n <;> simp only [Oper.upon] at h ⊢
      case value u => exact ⟨_, Act.put_comm a v u h2', h⟩
      case skip => exact ⟨_, Act.put_comm a v undef h2', h⟩
      case defer f => exact ⟨_, Act.put_comm { a with defers := f :: a.defers } v undef h2', h⟩
      case enter f args =>
        refine Calls.mono h fun e w'' he => ?_
        cases e with
        | returned u => exact ⟨_, Act.put_comm a v u h2', he⟩
        | panicked c => exact hQ _ _ _ he
        | outgrown => exact he
      case row row args => exact Rows.mono h fun u w'' he => ⟨_, Act.put_comm a v u h2', he⟩
    | halt x w' =>
      cases x <;> simp only [Oper.upon] at h ⊢
      case panic u => exact hQ _ _ _ h
  · rename_i hw
    simp only [hw] at h
    exact ⟨_, Act.put_comm a v undef h2', h⟩
theorem wpOp_putF {j : Nat} {oj : Oper} {β : Nat → Option Nat} (hj : ops[j]? = some oj) (hsj : ∀ cs b, oj.op ≠ .select cs b) (hQ : ∀ c a d v w, Q (.panic c) a w → Q (.panic c) (a.put d v) w)
    {K : Act → World → Prop} {a : Act} {w : World} (h : wpOp P ops Q j K a w) : ∀ {fs : List FL}, (∀ x ∈ fs, x.2.1 ∉ oj.looksAt ops ∧ oj.dst ≠ some x.2.1) →
    wpOp P ops Q j (fun a' w' => ∃ a'', a' = putF fs β a'' ∧ K a'' w') (putF fs β a) w
  | [], _ => wpOp_mono (fun a' w' h' => ⟨a', rfl, h'⟩) h
  | x :: fs, hx => by
    have ih := wpOp_putF (β := β) hj hsj hQ h (fs := fs) fun y hy => hx y (by simp [hy])
    unfold putF
    cases β x.1 with
    | none => exact ih
    | some b =>
      refine wpOp_mono ?_ (wpOp_put1 (v := ptrB b) hj hsj (hx x (by simp)).1 (hx x (by simp)).2 (fun c a w => hQ c a _ _ w) ih)
      rintro a' w' ⟨a1, rfl, a2, rfl, hk⟩
      exact ⟨a2, rfl, hk⟩
theorem yields_putF {S : World → Prop} {o : Oper} {v : Value} {a : Act} {β : Nat → Option Nat} (hs : ∀ cs b, o.op ≠ .select cs b) (hy : YieldsIf P ops S o v a) : ∀ {fs : List FL}, (∀ x ∈ fs, x.2.1 ∉ o.looksAt ops) → YieldsIf P ops S o v (putF fs β a)
  | [], _ => hy
  | x :: fs, hx => by
    have ih := yields_putF (β := β) hs hy (fs := fs) fun y hy => hx y (by simp [hy])
    unfold putF
    cases β x.1 with
    | none => exact ih
    | some b =>
      have h1 : ∀ e, (some x.2.1 : Option Tmp) = some e → e ∉ o.looksAt ops := fun e he => by obtain rfl := Option.some.inj he; exact hx x (by simp)
      exact ih.of_same (execOp_put o hs _ _ _ h1) (wanted_put o _ _ _ h1)
/-- As 'wpAnyT'; an operation of 'pu' reads no memory: it may come up behind those of 'tl', too. -/
def wpAnyU (P : Program) (ops : Array Oper) (Q : Exit → Act → World → Prop) (S : World → Prop) (tl pu : List Nat) : Nat → Array Bool → Act → World → Prop
  | 0, listed, a, w => Region.ready .any ops listed = [] ∧ Q .normal a w
  | fuel + 1, listed, a, w =>
    (Region.ready .any ops listed = [] → Q .normal a w) ∧
    ∀ i ∈ Region.ready .any ops listed, wpOp P ops Q i (fun a' w' => (tl.contains i = false → (pu.contains i = true → S w) → S w') ∧ wpAnyU P ops Q S tl pu fuel (listed.setIfInBounds i true) a' w') a w
theorem wpAny_of_U {S : World → Prop} {pu : List Nat} : ∀ (fuel : Nat) (listed : Array Bool) (a : Act) (w : World), wpAnyU P ops Q S tl pu fuel listed a w → wpAny P .any ops Q fuel listed a w
  | 0, _, _, _, h => h
  | fuel + 1, _, _, _, h => ⟨h.1, fun i hi => wpOp_mono (fun a' w' h' => wpAny_of_U fuel _ a' w' h'.2) (h.2 i hi)⟩
/-- k is i, or waits for it by way of others that have not come up. -/
def dep (ops : Array Oper) (listed : Array Bool) (i : Nat) : Nat → Nat → Prop
  | 0, k => k = i
  | n + 1, k => k = i ∨ (listed.getD k false = false ∧ ∃ om, ops[k]? = some om ∧ ∃ e' ∈ om.after, Region.binds .any e' = true ∧ dep ops listed i n e'.on)
theorem dep_top {listed : Array Bool} {i : Nat} : ∀ {n k : Nat}, dep ops listed i n k → k = i ∨ listed.getD k false = false
  | 0, _, h => .inl h
  | _ + 1, _, .inl h => .inl h
  | _ + 1, _, .inr h => .inr h.1
theorem dep_set {listed : Array Bool} {i j : Nat} {oj : Oper} (hoj : ops[j]? = some oj) (hall : ∀ e ∈ oj.after, Region.binds .any e = true → listed.getD e.on false = true) (hnot : ∀ e ∈ oj.after, Region.binds .any e = true → e.on ≠ i) :
    ∀ (n k : Nat), dep ops listed i n k → dep ops (listed.setIfInBounds j true) i n k
  | 0, _, h => h
  | _ + 1, _, .inl h => .inl h
  | n + 1, k, .inr ⟨ho, om, hom, e', he', hb', hd⟩ => by
    refine .inr ⟨?_, om, hom, e', he', hb', dep_set hoj hall hnot n _ hd⟩
    have hje : j ≠ k := fun hje => by
      subst hje
      rw [hoj] at hom
      obtain rfl := Option.some.inj hom
      rcases dep_top hd with h | h
      · exact hnot e' he' hb' h
      · rw [hall e' he' hb'] at h; cases h
    rw [getD_set_ne false hje]; exact ho
/-- Every tail operation that has not come up waits for i, or for others that do. -/
def waits2 (ops : Array Oper) (tl : List Nat) (listed : Array Bool) (i : Nat) : Prop :=
  ∀ j oj, ops[j]? = some oj → tl.contains j = true → listed.getD j true = false → ∃ e ∈ oj.after, Region.binds .any e = true ∧ dep ops listed i 4 e.on
theorem wpAnyU_first {S : World → Prop} {pu : List Nat} {i : Nat} {oi : Oper} {v : Value} (hi : ops[i]? = some oi) (hsel : ∀ (j : Nat) (o : Oper) cs b, ops[j]? = some o → o.op ≠ .select cs b)
    (hQ : ∀ c a w, Q (.panic c) (a.put oi.dst v) w → Q (.panic c) a w) :
    ∀ (fuel : Nat) (listed : Array Bool) (a : Act) (w : World),
      (∀ j oj, ops[j]? = some oj → j ≠ i → listed.getD j true = false → (∀ e ∈ oj.after, Region.binds .any e = true → e.on ≠ i) → oi.apart ops oj = true) →
      waits2 ops tl listed i →
      i ∈ Region.ready .any ops listed → YieldsIf P ops S oi v a → S w →
      wpAnyU P ops Q S tl pu fuel (listed.setIfInBounds i true) (a.put oi.dst v) w → wpAnyU P ops Q S tl pu (fuel + 1) listed a w := by
  intro fuel
  induction fuel with
  | zero =>
    intro listed a w _ _ hr hy hS H
    refine ⟨fun h => (by rw [h] at hr; cases hr), fun j hj => ?_⟩
    by_cases hji : j = i
    · subst hji; exact hy.wpOp hi hS ⟨fun _ _ => hS, H⟩
    · have := ready_mono hj hji
      rw [H.1] at this
      cases this
  | succ fuel ih =>
    intro listed a w hfree hwt hr hy hS H
    refine ⟨fun h => (by rw [h] at hr; cases hr), fun j hj => ?_⟩
    by_cases hji : j = i
    · subst hji; exact hy.wpOp hi hS ⟨fun _ _ => hS, H⟩
    · have h1 := H.2 j (ready_mono hj hji)
      obtain ⟨hjun, oj, hoj, hall⟩ := mem_ready.1 hj
      have hnot : ∀ e ∈ oj.after, Region.binds .any e = true → e.on ≠ i := fun e he hb heq => by
        have h1 := hall e he hb
        have h0 := (mem_ready.1 hr).1
        rw [heq] at h1
        rcases Nat.lt_or_ge i listed.size with h' | h'
        · simp [h'] at h0 h1; rw [h0] at h1; cases h1
        · simp [Array.getElem?_eq_none h'] at h1
      have htj : tl.contains j = false := by
        cases hc : tl.contains j with
        | false => rfl
        | true =>
          obtain ⟨e, he, hb, ho⟩ := hwt j oj hoj hc hjun
          rcases dep_top ho with ho | ho
          · exact absurd ho (hnot e he hb)
          · have := hall e he hb
            rw [ho] at this; cases this
      have h2 := wpOp_putIf hoj (hfree j oj hoj hji hjun hnot) (fun cs b => hsel i oi cs b hi) (fun cs b => hsel j oj cs b hoj) hQ hy h1
      have hfree' : ∀ k ok, ops[k]? = some ok → k ≠ i → (listed.setIfInBounds j true).getD k true = false →
          (∀ e ∈ ok.after, Region.binds .any e = true → e.on ≠ i) → oi.apart ops ok = true := fun k ok hk hki hun hno => by
        refine hfree k ok hk hki ?_ hno
        by_cases hjk : j = k
        · subst hjk; exact hjun
        · rw [getD_set_ne true hjk] at hun; exact hun
      have hwt' : waits2 ops tl (listed.setIfInBounds j true) i := fun k ok hk htk hun => by
        obtain ⟨e, he, hb, ho⟩ := hwt k ok hk htk (by
          by_cases hjk : j = k
          · subst hjk; exact hjun
          · rw [getD_set_ne true hjk] at hun; exact hun)
        exact ⟨e, he, hb, dep_set hoj hall hnot _ _ ho⟩
      refine wpOp_mono (fun a' w' h3 => ⟨h3.2.1, ih (listed.setIfInBounds j true) a' w' hfree' hwt' (ready_mono hr (Ne.symm hji)) h3.1 (h3.2.1 htj fun _ => hS) ?_⟩) h2
      rw [Array.setIfInBounds_comm _ _ hji]
      exact h3.2.2
theorem wpAnyU_pure {S : World → Prop} {pu : List Nat} {i : Nat} {oi : Oper} {v : Value} (hi : ops[i]? = some oi) (hsel : ∀ (j : Nat) (o : Oper) cs b, ops[j]? = some o → o.op ≠ .select cs b)
    (hpi : pu.contains i = true) (hQ : ∀ c a w, Q (.panic c) (a.put oi.dst v) w → Q (.panic c) a w) :
    ∀ (fuel : Nat) (listed : Array Bool) (a : Act) (w : World),
      (∀ j oj, ops[j]? = some oj → j ≠ i → listed.getD j true = false → (∀ e ∈ oj.after, Region.binds .any e = true → e.on ≠ i) → oi.apart ops oj = true) →
      i ∈ Region.ready .any ops listed → YieldsIf P ops (fun _ => True) oi v a →
      wpAnyU P ops Q S tl pu fuel (listed.setIfInBounds i true) (a.put oi.dst v) w → wpAnyU P ops Q S tl pu (fuel + 1) listed a w := by
  intro fuel
  induction fuel with
  | zero =>
    intro listed a w _ hr hy H
    refine ⟨fun h => (by rw [h] at hr; cases hr), fun j hj => ?_⟩
    by_cases hji : j = i
    · subst hji; exact hy.wpOp hi trivial ⟨fun _ h => h hpi, H⟩
    · have := ready_mono hj hji
      rw [H.1] at this
      cases this
  | succ fuel ih =>
    intro listed a w hfree hr hy H
    refine ⟨fun h => (by rw [h] at hr; cases hr), fun j hj => ?_⟩
    by_cases hji : j = i
    · subst hji; exact hy.wpOp hi trivial ⟨fun _ h => h hpi, H⟩
    · have h1 := H.2 j (ready_mono hj hji)
      obtain ⟨hjun, oj, hoj, hall⟩ := mem_ready.1 hj
      have hnot : ∀ e ∈ oj.after, Region.binds .any e = true → e.on ≠ i := fun e he hb heq => by
        have h1 := hall e he hb
        have h0 := (mem_ready.1 hr).1
        rw [heq] at h1
        rcases Nat.lt_or_ge i listed.size with h' | h'
        · simp [h'] at h0 h1; rw [h0] at h1; cases h1
        · simp [Array.getElem?_eq_none h'] at h1
      have h2 := wpOp_putIf hoj (hfree j oj hoj hji hjun hnot) (fun cs b => hsel i oi cs b hi) (fun cs b => hsel j oj cs b hoj) hQ hy h1
      have hfree' : ∀ k ok, ops[k]? = some ok → k ≠ i → (listed.setIfInBounds j true).getD k true = false →
          (∀ e ∈ ok.after, Region.binds .any e = true → e.on ≠ i) → oi.apart ops ok = true := fun k ok hk hki hun hno => by
        refine hfree k ok hk hki ?_ hno
        by_cases hjk : j = k
        · subst hjk; exact hjun
        · rw [getD_set_ne true hjk] at hun; exact hun
      refine wpOp_mono (fun a' w' h3 => ⟨h3.2.1, ih (listed.setIfInBounds j true) a' w' hfree' (ready_mono hr (Ne.symm hji)) h3.1 ?_⟩) h2
      rw [Array.setIfInBounds_comm _ _ hji]
      exact h3.2.2
/-- What ends the region, one behind the other. -/
def wpTl (P : Program) (ops : Array Oper) (Q : Exit → Act → World → Prop) : List Nat → Act → World → Prop
  | [], a, w => Q .normal a w
  | i :: rest, a, w => wpOp P ops Q i (wpTl P ops Q rest) a w
def tailOk (ops : Array Oper) (tl : List Nat) : Array Bool → List Nat → Bool
  | listed, [] => (Region.ready .any ops listed).isEmpty
  | listed, i :: rest => (Region.ready .any ops listed == [i]) && tl.contains i && tailOk ops tl (listed.setIfInBounds i true) rest
theorem wpTl_sound {S : World → Prop} {pu : List Nat} : ∀ (tp : List Nat) (listed : Array Bool) (a : Act) (w : World), tailOk ops tl listed tp = true → wpTl P ops Q tp a w → wpAnyU P ops Q S tl pu tp.length listed a w
  | [], listed, a, w, ho, h => ⟨by simpa [tailOk] using ho, h⟩
  | i :: rest, listed, a, w, ho, h => by
    simp only [tailOk, Bool.and_eq_true, beq_iff_eq] at ho
    obtain ⟨⟨h1, h2⟩, h3⟩ := ho
    refine ⟨fun h0 => (by rw [h1] at h0; cases h0), fun j hj => ?_⟩
    rw [h1] at hj
    obtain rfl : j = i := by simpa using hj
    exact wpOp_mono (fun a' w' h' => ⟨fun ht => (by rw [h2] at ht; cases ht), wpTl_sound rest _ _ _ h3 h'⟩) h
theorem wpTl_op {i : Nat} {o : Oper} {rest : List Nat} {a : Act} {w : World} (hi : ops.toList[i]? = some o) (hw : Region.wanted o (yielded ops a.tmps) = true) (h : ∀ K : Act → World → Prop, (∀ a' w', wpTl P ops Q rest a' w' → K a' w') → o.wp P a w K Q) :
    wpTl P ops Q (i :: rest) a w := by
  have hi' : ops[i]? = some o := by simpa using hi
  show wpOp _ _ _ _ _ _ _
  unfold wpOp
  simp only [hi', hw, if_true]
  exact .inl (h _ fun a' w' hk => hk)
theorem wpTl_nil {a : Act} {w : World} (h : Q .normal a w) : wpTl P ops Q [] a w := h
/-- The walk by a plan, whatever the new variables' turns. -/
def wpFp (P : Program) (ops : Array Oper) (Q : Exit → Act → World → Prop) (W0 : World) (fs : List FL) (tp : List Nat) : List (Nat × Nat) → Act → (World → Prop) → Prop
  | [], a, E => ∀ (β : Nat → Option Nat) (w : World), Ext W0 w → E w → (∀ x ∈ fs, ∃ b, β x.1 = some b ∧ w.heap[b]? = some x.2.2 ∧ W0.heap.size ≤ b) →
      (∀ x ∈ fs, ∀ y ∈ fs, ∀ b, β x.1 = some b → β y.1 = some b → x.1 = y.1) → wpTl P ops Q tp (putF fs β a) w
  | (i, 0) :: rest, a, E => ∃ o v, ops[i]? = some o ∧ YieldsIf P ops (Ext W0) o v a ∧ wpFp P ops Q W0 fs tp rest (a.put o.dst v) E
  | (i, 2) :: rest, a, E => ∃ o v, ops[i]? = some o ∧ YieldsIf P ops (fun _ => True) o v a ∧ wpFp P ops Q W0 fs tp rest (a.put o.dst v) E
  | (i, _) :: rest, a, E => ∀ w, Ext W0 w → E w → wpOp P ops Q i (fun a' w' => Ext w w' ∧ ∃ E' : World → Prop, (∀ w1 w2, Ext w1 w2 → E' w1 → E' w2) ∧ E' w' ∧ wpFp P ops Q W0 fs tp rest a' E') a w
def floatsOk (ops : Array Oper) (fs : List FL) (tl : List Nat) : Bool :=
  fs.all (fun x => match ops[x.1]? with
    | some o => o.guard.isNone && o.dst == some x.2.1 && o.after.all (fun e => !Region.binds .any e) && !tl.contains x.1
    | none => false) &&
  decide (fs.map (·.1)).Nodup && decide (fs.map (·.2.1)).Nodup &&
  (List.range ops.size).all (fun j => (fs.map (·.1)).contains j || match ops[j]? with
    | none => true
    | some oj =>
      if tl.contains j then fs.all (fun x => oj.after.any (fun e => Region.binds .any e && e.on == x.1))
      else oj.after.all (fun e => !Region.binds .any e || !(fs.map (·.1)).contains e.on) &&
        fs.all (fun x => !(oj.looksAt ops).contains x.2.1 && oj.dst != some x.2.1 && (match ops[x.1]? with | some o => oj.apart ops o | none => false)))
def depB (ops : Array Oper) (F : List Nat) (listed : Array Bool) (i : Nat) : Nat → Nat → Bool
  | 0, k => k == i
  | n + 1, k => k == i || (!F.contains k && !listed.getD k false && match ops[k]? with | some om => om.after.any (fun e' => Region.binds .any e' && depB ops F listed i n e'.on) | none => false)
def planF (ops : Array Oper) (F : List Nat) (tl pu : List Nat) : Array Bool → List (Nat × Nat) → Bool
  | listed, [] => (List.range ops.size).all (fun j => listed.getD j true || tl.contains j)
  | listed, (i, 0) :: rest => Region.free .any ops listed i && (Region.ready .any ops listed).contains i && !tl.contains i && !F.contains i &&
      tl.all (fun j => listed.getD j true || match ops[j]? with | some oj => oj.after.any (fun e => Region.binds .any e && depB ops F listed i 4 e.on) | none => true) && planF ops F tl pu (listed.setIfInBounds i true) rest
  | listed, (i, 2) :: rest => Region.free .any ops listed i && (Region.ready .any ops listed).contains i && !tl.contains i && !F.contains i && pu.contains i && planF ops F tl pu (listed.setIfInBounds i true) rest
  | listed, (i, _) :: rest => (Region.ready .any ops listed == [i]) && !tl.contains i && !F.contains i && !pu.contains i && planF ops F tl pu (listed.setIfInBounds i true) rest
def listAll (listed : Array Bool) (pl : List (Nat × Nat)) : Array Bool := pl.foldl (fun l x => l.setIfInBounds x.1 true) listed
/-- How far the floats have come up. -/
structure Rel (fs : List FL) (listed lF : Array Bool) (β : Nat → Option Nat) : Prop where
  size : listed.size = lF.size
  main : ∀ j, j ∉ fs.map (·.1) → listed[j]? = lF[j]?
  done : ∀ x ∈ fs, listed[x.1]? = some (β x.1).isSome ∧ lF[x.1]? = some true
theorem Rel.step {fs : List FL} {listed lF : Array Bool} {β : Nat → Option Nat} (h : Rel fs listed lF β) {i : Nat} (hi : i ∉ fs.map (·.1)) : Rel fs (listed.setIfInBounds i true) (lF.setIfInBounds i true) β := by
  refine ⟨by simp [h.size], fun j hj => ?_, fun x hx => ?_⟩
  · rw [Array.getElem?_setIfInBounds, Array.getElem?_setIfInBounds, h.size, h.main j hj]
  · have hne : i ≠ x.1 := fun e => hi (by rw [e]; exact List.mem_map.2 ⟨x, hx, rfl⟩)
    rw [Array.getElem?_setIfInBounds_ne hne, Array.getElem?_setIfInBounds_ne hne]
    exact h.done x hx
theorem Rel.float {fs : List FL} {listed lF : Array Bool} {β : Nat → Option Nat} (h : Rel fs listed lF β) {x : FL} (hx : x ∈ fs) (b : Nat) : Rel fs (listed.setIfInBounds x.1 true) lF (setB β x.1 b) := by
  refine ⟨by simp [h.size], fun j hj => ?_, fun y hy => ?_⟩
  · rw [Array.getElem?_setIfInBounds_ne (fun e => hj (by rw [← e]; exact List.mem_map.2 ⟨x, hx, rfl⟩))]; exact h.main j hj
  · refine ⟨?_, (h.done y hy).2⟩
    have hl := (h.done y hy).1
    by_cases hxy : x.1 = y.1
    · rw [← hxy, Array.getElem?_setIfInBounds_self]
      have : x.1 < listed.size := by rw [hxy]; exact (Array.getElem?_eq_some_iff.1 hl).1
      simp [this, setB]
    · rw [Array.getElem?_setIfInBounds_ne hxy, hl]
      unfold setB; rw [if_neg (fun e => hxy e.symm)]
theorem getD_of {l : Array Bool} {j : Nat} {b d : Bool} (h : l[j]? = some b) : l.getD j d = b := by simp [h]
theorem getD_same {l l' : Array Bool} {j : Nat} {d : Bool} (h : l[j]? = l'[j]?) : l.getD j d = l'.getD j d := by simp [h]
theorem dep_of {fs : List FL} {listed lF : Array Bool} {β : Nat → Option Nat} (hR : Rel fs listed lF β) {i : Nat} : ∀ (n k : Nat), depB ops (fs.map (·.1)) lF i n k = true → dep ops listed i n k
  | 0, k, h => by show k = i; simpa [depB] using h
  | n + 1, k, h => by
    simp only [depB, Bool.or_eq_true, beq_iff_eq, Bool.and_eq_true, Bool.not_eq_true'] at h
    rcases h with h | ⟨⟨hF, hun⟩, h⟩
    · exact .inl h
    · right
      refine ⟨by rw [getD_same (hR.main k (by simpa using hF))]; exact hun, ?_⟩
      cases hom : ops[k]? with
      | none => rw [hom] at h; cases h
      | some om =>
        rw [hom] at h
        obtain ⟨e', he', hb'⟩ := Array.any_eq_true'.1 h
        simp only [Bool.and_eq_true] at hb'
        exact ⟨om, rfl, e', he', hb'.1, dep_of hR n _ hb'.2⟩
/-- What floatsOk says. -/
structure FOk (ops : Array Oper) (fs : List FL) (tl : List Nat) : Prop where
  fl : ∀ x ∈ fs, ∃ o, ops[x.1]? = some o ∧ o.guard = none ∧ o.dst = some x.2.1 ∧ (∀ e ∈ o.after, Region.binds .any e = false) ∧ tl.contains x.1 = false
  n1 : (fs.map (·.1)).Nodup
  n2 : (fs.map (·.2.1)).Nodup
  tail : ∀ j oj, ops[j]? = some oj → j ∉ fs.map (·.1) → tl.contains j = true → ∀ x ∈ fs, ∃ e ∈ oj.after, Region.binds .any e = true ∧ e.on = x.1
  main : ∀ j oj, ops[j]? = some oj → j ∉ fs.map (·.1) → tl.contains j = false → (∀ e ∈ oj.after, Region.binds .any e = true → e.on ∉ fs.map (·.1)) ∧ ∀ x ∈ fs, x.2.1 ∉ oj.looksAt ops ∧ oj.dst ≠ some x.2.1 ∧ ∀ o, ops[x.1]? = some o → oj.apart ops o = true
theorem FOk.of {fs : List FL} (h : floatsOk ops fs tl = true) : FOk ops fs tl := by
  simp only [floatsOk, Bool.and_eq_true, decide_eq_true_eq, List.all_eq_true] at h
  obtain ⟨⟨⟨h1, h2⟩, h3⟩, h4⟩ := h
  refine ⟨fun x hx => ?_, h2, h3, fun j oj hj hn ht x hx => ?_, fun j oj hj hn ht => ?_⟩
  · have := h1 x hx
    cases ho : ops[x.1]? with
    | none => rw [ho] at this; cases this
    | some o =>
      rw [ho] at this
      simp only [Bool.and_eq_true, Bool.not_eq_true', Option.isNone_iff_eq_none, beq_iff_eq, Array.all_eq_true_iff_forall_mem] at this
      exact ⟨o, rfl, this.1.1.1, this.1.1.2, this.1.2, this.2⟩
  · have := h4 j (List.mem_range.2 (Array.getElem?_eq_some_iff.1 hj).1)
    rw [show (fs.map (·.1)).contains j = false by simpa using hn, hj] at this
    simp only [Bool.false_or, ht, if_true, List.all_eq_true] at this
    obtain ⟨e, he, hb⟩ := Array.any_eq_true'.1 (this x hx)
    simp only [Bool.and_eq_true, beq_iff_eq] at hb
    exact ⟨e, he, hb⟩
  · have := h4 j (List.mem_range.2 (Array.getElem?_eq_some_iff.1 hj).1)
    rw [show (fs.map (·.1)).contains j = false by simpa using hn, hj] at this
    simp only [Bool.false_or, ht, Bool.false_eq_true, if_false, Bool.and_eq_true, List.all_eq_true, Array.all_eq_true_iff_forall_mem] at this
    refine ⟨fun e he hb hin => ?_, fun x hx => ?_⟩
    · have := this.1 e he
      rw [hb] at this
      simp only [Bool.not_true, Bool.false_or, Bool.not_eq_true'] at this
      exact absurd hin (by simpa using this)
    · have := this.2 x hx
      obtain ⟨⟨a1, a2⟩, a3⟩ := this
      refine ⟨by simpa using a1, by simpa using a2, fun o ho => ?_⟩
      rw [ho] at a3
      exact a3
theorem wpFp_sound {W0 : World} {fs : List FL} {tp pu : List Nat} (hok : FOk ops fs tl) (hsel : Region.noSelect ops = true) (hQ : ∀ c a d v w, Q (.panic c) (a.put d v) w → Q (.panic c) a w) (hQ' : ∀ c a d v w, Q (.panic c) a w → Q (.panic c) (a.put d v) w)
    (hob : ∀ x ∈ fs, ∀ o, ops[x.1]? = some o → ∀ (a : Act) (w : World), (execOp a.eval o).run P w = .ok (.value (ptrB w.heap.size)) (w.alloc x.2.2)) :
    ∀ (m : Nat) (pl : List (Nat × Nat)) (listed lF : Array Bool) (β : Nat → Option Nat) (a : Act) (E : World → Prop) (w : World), pl.length + np fs β = m → Rel fs listed lF β →
      planF ops (fs.map (·.1)) tl pu lF pl = true → tailOk ops tl (listAll lF pl) tp = true → Ext W0 w → (∀ w1 w2, Ext w1 w2 → E w1 → E w2) → E w →
      (∀ x ∈ fs, ∀ b, β x.1 = some b → w.heap[b]? = some x.2.2 ∧ W0.heap.size ≤ b) → (∀ x ∈ fs, ∀ y ∈ fs, ∀ b, β x.1 = some b → β y.1 = some b → x.1 = y.1) →
      wpFp P ops Q W0 fs tp pl a E → wpAnyU P ops Q (Ext W0) tl pu (m + tp.length) listed (putF fs β a) w := by
  intro m
  induction m with
  | zero =>
    intro pl listed lF β a E w hm hR hpl htp hX hst hE hbl hinj h
    obtain rfl : pl = [] := List.eq_nil_of_length_eq_zero (by omega)
    have hz : np fs β = 0 := by simpa using hm
    have hdone := np_zero hz
    have hl : listed = lF := by
      apply Array.ext_getElem?
      intro j
      by_cases hj : j ∈ fs.map (·.1)
      · obtain ⟨x, hx, rfl⟩ := List.mem_map.1 hj
        obtain ⟨b, hb⟩ := hdone x hx
        rw [(hR.done x hx).1, (hR.done x hx).2, hb]; rfl
      · exact hR.main j hj
    subst hl
    rw [Nat.zero_add]
    exact wpTl_sound tp _ _ _ htp (h β w hX hE (fun x hx => by obtain ⟨b, hb⟩ := hdone x hx; exact ⟨b, hb, hbl x hx b hb⟩) hinj)
  | succ m ih =>
    intro pl listed lF β a E w hm hR hpl htp hX hst hE hbl hinj h
    have hal : ∀ x ∈ fs, β x.1 = none → wpOp P ops Q x.1 (fun a' w' => (tl.contains x.1 = false → (pu.contains x.1 = true → Ext W0 w) → Ext W0 w') ∧ wpAnyU P ops Q (Ext W0) tl pu (m + tp.length) (listed.setIfInBounds x.1 true) a' w') (putF fs β a) w := by
      intro x hx hb
      obtain ⟨o, ho, hg, hd, _, _⟩ := hok.fl x hx
      unfold wpOp
      simp only [ho]
      rw [if_pos (by simp [Region.wanted, hg])]
      refine .inl ?_
      unfold Oper.wp
      rw [hob x hx o ho]
      have hnp := np_set (b := w.heap.size) hx hok.n1 hb
      have hXa : Ext w (w.alloc x.2.2) := (Ext.refl w).alloc _
      have key := ih pl (listed.setIfInBounds x.1 true) lF (setB β x.1 w.heap.size) a E (w.alloc x.2.2) (by omega) (hR.float hx _) hpl htp (hX.trans hXa) hst (hst _ _ hXa hE) ?_ ?_ h
      · rw [putF_set hx hok.n1 hok.n2 hb] at key
        simp only [Oper.upon, hd]
        exact ⟨fun _ _ => hX.trans hXa, key⟩
      · intro y hy b hyb
        by_cases hxy : y.1 = x.1
        · have hyx : y = x := by
            have := hok.n1
            exact nodup_inj this hy hx hxy
          subst hyx
          simp only [setB, if_true, Option.some.injEq] at hyb
          subst hyb
          exact ⟨heap_alloc_new _ _, hX.size⟩
        · simp only [setB, hxy, if_false] at hyb
          obtain ⟨h1, h2⟩ := hbl y hy b hyb
          have hlt : b < w.heap.size := by
            rcases Nat.lt_or_ge b w.heap.size with hl | hl
            · exact hl
            · rw [Array.getElem?_eq_none hl] at h1; cases h1
          exact ⟨by rw [hXa.block hlt]; exact h1, h2⟩
      · intro y hy z hz b hyb hzb
        have hlt : ∀ u ∈ fs, β u.1 = some b → b < w.heap.size := fun u hu hub => by
          obtain ⟨h1, _⟩ := hbl u hu b hub
          rcases Nat.lt_or_ge b w.heap.size with hl | hl
          · exact hl
          · rw [Array.getElem?_eq_none hl] at h1; cases h1
        unfold setB at hyb hzb
        split at hyb
        · rename_i e1
          split at hzb
          · rename_i e2; rw [e1, e2]
          · have := hlt z hz hzb
            simp only [Option.some.injEq] at hyb
            omega
        · split at hzb
          · have := hlt y hy hyb
            simp only [Option.some.injEq] at hzb
            omega
          · exact hinj y hy z hz b hyb hzb
    have hfr : ∀ x ∈ fs, β x.1 = none → x.1 ∈ Region.ready .any ops listed := by
      intro x hx hb
      obtain ⟨o, ho, _, _, ha, _⟩ := hok.fl x hx
      refine mem_ready.2 ⟨?_, o, ho, fun e he hbi => ?_⟩
      · rw [getD_of (hR.done x hx).1, hb]; rfl
      · rw [ha e he] at hbi; cases hbi
    have hfl : ∀ x ∈ fs, x.1 ∈ Region.ready .any ops listed → β x.1 = none := by
      intro x hx hr
      have h0 := (mem_ready.1 hr).1
      rw [getD_of (hR.done x hx).1] at h0
      cases hb : β x.1 with
      | none => rfl
      | some b => rw [hb] at h0; cases h0
    have hto : ∀ j, j ∉ fs.map (·.1) → j ∈ Region.ready .any ops listed → j ∈ Region.ready .any ops lF := by
      intro j hj hr
      obtain ⟨h0, o, ho, ha⟩ := mem_ready.1 hr
      refine mem_ready.2 ⟨by rw [← getD_same (hR.main j hj)]; exact h0, o, ho, fun e he hb => ?_⟩
      have h1 := ha e he hb
      by_cases hin : e.on ∈ fs.map (·.1)
      · obtain ⟨x, hx, hxe⟩ := List.mem_map.1 hin
        rw [← hxe, getD_of (hR.done x hx).2]
      · rw [← getD_same (hR.main _ hin)]; exact h1
    have hfrom : ∀ j oj, ops[j]? = some oj → j ∉ fs.map (·.1) → tl.contains j = false → j ∈ Region.ready .any ops lF → j ∈ Region.ready .any ops listed := by
      intro j oj hoj hj ht hr
      obtain ⟨h0, o, ho, ha⟩ := mem_ready.1 hr
      obtain rfl : oj = o := by rw [hoj] at ho; exact Option.some.inj ho
      refine mem_ready.2 ⟨by rw [getD_same (hR.main j hj)]; exact h0, oj, hoj, fun e he hb => ?_⟩
      rw [getD_same (hR.main _ ((hok.main j oj hoj hj ht).1 e he hb))]
      exact ha e he hb
    match pl, hm, hpl, htp, h with
    | [], hm, hpl, htp, h =>
      have hnz : np fs β ≠ 0 := by simp at hm; omega
      obtain ⟨x0, hx0, hb0⟩ := np_pos hnz
      rw [show m + 1 + tp.length = (m + tp.length) + 1 by omega]
      refine ⟨fun h0 => (by have := hfr x0 hx0 hb0; rw [h0] at this; cases this), fun j hj => ?_⟩
      by_cases hin : j ∈ fs.map (·.1)
      · obtain ⟨x, hx, rfl⟩ := List.mem_map.1 hin
        exact hal x hx (hfl x hx hj)
      · exfalso
        obtain ⟨h0, oj, hoj, ha⟩ := mem_ready.1 hj
        rw [getD_same (hR.main j hin)] at h0
        simp only [planF, List.all_eq_true] at hpl
        have := hpl j (List.mem_range.2 (Array.getElem?_eq_some_iff.1 hoj).1)
        rw [h0, Bool.false_or] at this
        obtain ⟨e, he, hb, hon⟩ := hok.tail j oj hoj hin this x0 hx0
        have h1 := ha e he hb
        rw [hon, getD_of (hR.done x0 hx0).1, hb0] at h1
        cases h1
    | (i, 0) :: rest, hm, hpl, htp, h =>
      obtain ⟨o, v, hi, hy, h⟩ := h
      simp only [planF, Bool.and_eq_true, Bool.not_eq_true'] at hpl
      obtain ⟨⟨⟨⟨⟨h1, h2⟩, h3⟩, h3'⟩, h4⟩, h5⟩ := hpl
      have hiF : i ∉ fs.map (·.1) := by simpa using h3'
      obtain ⟨hm1, hm2⟩ := hok.main i o hi hiF h3
      have key := ih rest (listed.setIfInBounds i true) (lF.setIfInBounds i true) β (a.put o.dst v) E w (by simp at hm; omega) (hR.step hiF) h5 htp hX hst hE hbl hinj h
      rw [putF_put fun x hx => (hm2 x hx).2.1] at key
      rw [show m + 1 + tp.length = (m + tp.length) + 1 by omega]
      refine wpAnyU_first hi (Region.noSelect_spec hsel) (fun c a w => hQ c a _ _ w) _ _ _ _ ?_ ?_ (hfrom i o hi hiF h3 (by simpa using h2)) (yields_putF (Region.noSelect_spec hsel i o · · hi) hy fun x hx => (hm2 x hx).1) hX key
      · intro j oj hj hji hun hno
        by_cases hin : j ∈ fs.map (·.1)
        · obtain ⟨x, hx, rfl⟩ := List.mem_map.1 hin
          exact (hm2 x hx).2.2 oj hj
        · exact Region.free_spec hi h1 j oj hj hji (by rw [← getD_same (hR.main j hin)]; exact hun) hno
      · intro j oj hj htj hun
        have hjF : j ∉ fs.map (·.1) := fun hin => by
          obtain ⟨x, hx, rfl⟩ := List.mem_map.1 hin
          obtain ⟨_, _, _, _, _, ht⟩ := hok.fl x hx
          rw [ht] at htj; cases htj
        have h6 := List.all_eq_true.1 h4 j (by simpa using htj)
        rw [getD_same (hR.main j hjF)] at hun
        rw [hj] at h6
        simp only [hun, Bool.false_or] at h6
        obtain ⟨e, he, hb⟩ := Array.any_eq_true'.1 h6
        simp only [Bool.and_eq_true] at hb
        exact ⟨e, he, hb.1, dep_of hR _ _ hb.2⟩
    | (i, 2) :: rest, hm, hpl, htp, h =>
      obtain ⟨o, v, hi, hy, h⟩ := h
      simp only [planF, Bool.and_eq_true, Bool.not_eq_true'] at hpl
      obtain ⟨⟨⟨⟨⟨h1, h2⟩, h3⟩, h3'⟩, h4⟩, h5⟩ := hpl
      have hiF : i ∉ fs.map (·.1) := by simpa using h3'
      obtain ⟨hm1, hm2⟩ := hok.main i o hi hiF h3
      have key := ih rest (listed.setIfInBounds i true) (lF.setIfInBounds i true) β (a.put o.dst v) E w (by simp at hm; omega) (hR.step hiF) h5 htp hX hst hE hbl hinj h
      rw [putF_put fun x hx => (hm2 x hx).2.1] at key
      rw [show m + 1 + tp.length = (m + tp.length) + 1 by omega]
      refine wpAnyU_pure hi (Region.noSelect_spec hsel) h4 (fun c a w => hQ c a _ _ w) _ _ _ _ ?_ (hfrom i o hi hiF h3 (by simpa using h2)) (yields_putF (Region.noSelect_spec hsel i o · · hi) hy fun x hx => (hm2 x hx).1) key
      intro j oj hj hji hun hno
      by_cases hin : j ∈ fs.map (·.1)
      · obtain ⟨x, hx, rfl⟩ := List.mem_map.1 hin
        exact (hm2 x hx).2.2 oj hj
      · exact Region.free_spec hi h1 j oj hj hji (by rw [← getD_same (hR.main j hin)]; exact hun) hno
    | (i, 1) :: rest, hm, hpl, htp, h | (i, k + 3) :: rest, hm, hpl, htp, h =>
      simp only [planF, Bool.and_eq_true, Bool.not_eq_true', beq_iff_eq] at hpl
      obtain ⟨⟨⟨⟨h1, h2⟩, h3⟩, h4⟩, h5⟩ := hpl
      have hiF : i ∉ fs.map (·.1) := by simpa using h3
      have hir : i ∈ Region.ready .any ops lF := by rw [h1]; simp
      obtain ⟨_, o, hi, _⟩ := mem_ready.1 hir
      rw [show m + 1 + tp.length = (m + tp.length) + 1 by omega]
      refine ⟨fun h0 => (by have := hfrom i o hi hiF h2 hir; rw [h0] at this; cases this), fun j hj => ?_⟩
      by_cases hin : j ∈ fs.map (·.1)
      · obtain ⟨x, hx, rfl⟩ := List.mem_map.1 hin
        exact hal x hx (hfl x hx hj)
      · have hjr := hto j hin hj
        rw [h1] at hjr
        obtain rfl : j = i := by simpa using hjr
        obtain ⟨_, hm2⟩ := hok.main j o hi hiF h2
        refine wpOp_mono ?_ (wpOp_putF (β := β) hi (Region.noSelect_spec hsel j o · · hi) hQ' (h w hX hE) (fs := fs) fun x hx => ⟨(hm2 x hx).1, (hm2 x hx).2.1⟩)
        rintro a' w' ⟨a'', rfl, hXw, E', hst', hE', hk⟩
        refine ⟨fun _ _ => hX.trans hXw, ih rest (listed.setIfInBounds j true) (lF.setIfInBounds j true) β a'' E' w' (by simp at hm; omega) (hR.step hiF) h5 htp (hX.trans hXw) hst' hE' ?_ hinj hk⟩
        intro y hy b hyb
        obtain ⟨g1, g2⟩ := hbl y hy b hyb
        have hlt : b < w.heap.size := by
          rcases Nat.lt_or_ge b w.heap.size with hl | hl
          · exact hl
          · rw [Array.getElem?_eq_none hl] at g1; cases g1
        exact ⟨by rw [hXw.block hlt]; exact g1, g2⟩
/-- **The region, by a plan, with new variables at any time.** -/
theorem wp_float {id : Nat} {a : Act} {w : World} (fs : List FL) (pl : List (Nat × Nat)) (tp tl pu : List Nat) (hm : P.follows .mixedOrders = true) (hsel : Region.noSelect ops = true)
    (hok : (floatsOk ops fs tl && planF ops (fs.map (·.1)) tl pu (fs.foldl (fun l x => l.setIfInBounds x.1 true) (Array.replicate ops.size false)) pl && tailOk ops tl (listAll (fs.foldl (fun l x => l.setIfInBounds x.1 true) (Array.replicate ops.size false)) pl) tp && pl.length + fs.length + tp.length == ops.size) = true)
    (hQ : ∀ c a d v w, Q (.panic c) (a.put d v) w → Q (.panic c) a w) (hQ' : ∀ c a d v w, Q (.panic c) a w → Q (.panic c) (a.put d v) w)
    (hob : ∀ x ∈ fs, ∀ o, ops[x.1]? = some o → ∀ (a : Act) (w : World), (execOp a.eval o).run P w = .ok (.value (ptrB w.heap.size)) (w.alloc x.2.2))
    (h : wpFp P ops Q w.drew fs tp pl a (fun _ => True)) : (Code.region id ops true).wp P Q a w := by
  simp only [Bool.and_eq_true, beq_iff_eq] at hok
  obtain ⟨⟨⟨h1, h2⟩, h3⟩, h4⟩ := hok
  have hF := FOk.of h1
  refine wp_region_any hm (wpAny_of_U (S := Ext w.drew) (tl := tl) (pu := pu) _ _ _ _ ?_)
  have hnone : ∀ (fs' : List FL), np fs' (fun _ => none) = fs'.length := fun fs' => by
    unfold np; rw [List.countP_eq_length.2]; intro x hx; rfl
  have hput : ∀ (fs' : List FL) (a : Act), putF fs' (fun _ => none) a = a := fun fs' a => by
    induction fs' with
    | nil => rfl
    | cons x fs' ih => unfold putF; exact ih
  have hlF : ∀ (fs' : List FL) (l : Array Bool), l.size = ops.size → (∀ x ∈ fs', x.1 < ops.size) → (fs'.foldl (fun l x => l.setIfInBounds x.1 true) l).size = ops.size ∧ (∀ j : Nat, j ∉ fs'.map (·.1) → (fs'.foldl (fun l x => l.setIfInBounds x.1 true) l)[j]? = l[j]?) ∧
      (∀ x ∈ fs', (fs'.foldl (fun l x => l.setIfInBounds x.1 true) l)[x.1]? = some true) ∧ (∀ j : Nat, l[j]? = some true → (fs'.foldl (fun l x => l.setIfInBounds x.1 true) l)[j]? = some true) := by
    intro fs'
    induction fs' with
    | nil => intro l hl _; exact ⟨hl, fun _ _ => rfl, fun x hx => (by cases hx), fun _ h => h⟩
    | cons y fs' ih =>
      intro l hl hlt
      obtain ⟨i1, i2, i3, i4⟩ := ih (l.setIfInBounds y.1 true) (by simp [hl]) (fun x hx => hlt x (by simp [hx]))
      have hy : (l.setIfInBounds y.1 true)[y.1]? = some true := by
        have := hlt y (by simp)
        simp [hl, this]
      refine ⟨i1, fun j hj => ?_, fun x hx => ?_, fun j hj => ?_⟩
      · simp only [List.map_cons, List.mem_cons, not_or] at hj
        rw [List.foldl_cons, i2 j hj.2, Array.getElem?_setIfInBounds_ne (fun e => hj.1 e.symm)]
      · rcases List.mem_cons.1 hx with rfl | hx'
        · exact i4 _ hy
        · exact i3 x hx'
      · refine i4 j ?_
        by_cases e : y.1 = j
        · rw [← e]; exact hy
        · rw [Array.getElem?_setIfInBounds_ne e]; exact hj
  obtain ⟨l1, l2, l3, _⟩ := hlF fs (Array.replicate ops.size false) (by simp) (fun x hx => by
    obtain ⟨o, ho, _⟩ := hF.fl x hx
    exact (Array.getElem?_eq_some_iff.1 ho).1)
  have key := wpFp_sound (P := P) (Q := Q) (W0 := w.drew) (tp := tp) (pu := pu) hF hsel hQ hQ' hob (pl.length + fs.length) pl (Array.replicate ops.size false) _ (fun _ => none) a (fun _ => True) w.drew (by rw [hnone]) ⟨by rw [l1]; simp, fun j hj => (l2 j hj).symm, fun x hx => ⟨?_, l3 x hx⟩⟩ h2 h3 (Ext.refl _) (fun _ _ _ _ => trivial) trivial (fun x _ b hb => by cases hb) (fun x _ y _ b hb => by cases hb) h
  · rw [hput, h4] at key
    exact key
  · obtain ⟨o, ho, _⟩ := hF.fl x hx
    have := (Array.getElem?_eq_some_iff.1 ho).1
    simp [this]
variable {W0 : World} {fs : List FL} {tp : List Nat} {a : Act} {E : World → Prop} {i : Nat} {rest : List (Nat × Nat)} {o : Oper}
theorem wpFp_read {v : Value} (hi : ops.toList[i]? = some o) (hw : Region.wanted o (yielded ops a.tmps) = true) (h : ∀ w, Ext W0 w → (execOp a.eval o).run P w = .ok (.value v) w) (k : wpFp P ops Q W0 fs tp rest (a.put o.dst v) E) :
    wpFp P ops Q W0 fs tp ((i, 0) :: rest) a E := ⟨o, v, by simpa using hi, .inl ⟨hw, h⟩, k⟩
theorem wpFp_eff (hi : ops.toList[i]? = some o) (hw : Region.wanted o (yielded ops a.tmps) = true)
    (h : ∀ w, Ext W0 w → E w → ∀ K : Act → World → Prop, (∀ a' w' (E' : World → Prop), Ext w w' → (∀ w1 w2, Ext w1 w2 → E' w1 → E' w2) → E' w' → wpFp P ops Q W0 fs tp rest a' E' → K a' w') → o.wp P a w K Q) :
    wpFp P ops Q W0 fs tp ((i, 1) :: rest) a E := by
  have hi' : ops[i]? = some o := by simpa using hi
  intro w hX hE
  unfold wpOp
  simp only [hi', hw, if_true]
  exact .inl (h w hX hE _ fun a' w' E' h1 h2 h3 h4 => ⟨h1, E', h2, h3, h4⟩)
/-- No new variable. -/
theorem wpFp_zero (h : ∀ os d, E (more W0 os d) → wpTl P ops Q tp a (more W0 os d)) : wpFp P ops Q W0 [] tp [] a E := by
  intro β w hX hE hb _
  obtain ⟨os, d, rfl⟩ := hX.more
  exact h os d hE
end
end Go.Proofs.YtmjmijjbijlhfaaGreatDoor
namespace Go.Proofs.YtmjmijjbijlhfaaGreatDoor
open Go.RowKit NM
theorem z64 : I64 0 := by unfold I64; omega
set_option maxHeartbeats 800000 in
theorem beside_any (k m ex f k' m' ex' f' : Int) (t t' : ByteArray) (b b' : Bool) (w : World) (y : Val) (hy : besideV ⟨k, m, ex, t, b, f⟩ ⟨k', m', ex', t', b', f'⟩ = y) :
    Calls Tryz.prog 178 #[VV k m ex t b f, VV k' m' ex' t' b' f'] w fun e w' => e = .returned (VV y.kind y.mant y.exp y.text y.truth y.fault) ∧ Ext w w' := by
  by_cases h0 : k = 0
  · have q0 : (k != 0) = false := by simp [h0]
    by_cases h1 : k' = 1 ∨ k' = 2 ∨ k' = 3
    · have e : y = Val.only k' := by rw [← hy]; simp [besideV, h0, h1]
      subst e
      clear hy
      rcases h1 with rfl | rfl | rfl
      · go_enter Tryz.func178, Tryz.ntmps178
        go_wp2_with fail
        exact bodyPost_ret (v := VV 1 0 0 ⟨#[]⟩ false 0) (by simp [results, Tryz.results178, go_sem]) rfl ⟨rfl, by with_reducible repeat (first | exact Ext.refl _ | apply Ext.drew | apply Ext.alloc | apply Ext.more_)⟩
      · go_enter Tryz.func178, Tryz.ntmps178
        go_wp2_with fail
        exact bodyPost_ret (v := VV 2 0 0 ⟨#[]⟩ false 0) (by simp [results, Tryz.results178, go_sem]) rfl ⟨rfl, by with_reducible repeat (first | exact Ext.refl _ | apply Ext.drew | apply Ext.alloc | apply Ext.more_)⟩
      · go_enter Tryz.func178, Tryz.ntmps178
        go_wp2_with fail
        exact bodyPost_ret (v := VV 3 0 0 ⟨#[]⟩ false 0) (by simp [results, Tryz.results178, go_sem]) rfl ⟨rfl, by with_reducible repeat (first | exact Ext.refl _ | apply Ext.drew | apply Ext.alloc | apply Ext.more_)⟩
    · have e : y = ⟨k, m, ex, t, b, f⟩ := by rw [← hy]; simp [besideV, h0, h1]
      subst e
      have q1 : (k' == 1) = false := by simp; omega
      have q2 : (k' == 2) = false := by simp; omega
      have q3 : (k' == 3) = false := by simp; omega
      subst h0
      clear hy h1
      go_enter Tryz.func178, Tryz.ntmps178
      go_wp2_with fail
      exact bodyPost_ret (v := VV 0 m ex t b f) (by simp [results, Tryz.results178, go_sem]) rfl ⟨rfl, by with_reducible repeat (first | exact Ext.refl _ | apply Ext.drew | apply Ext.alloc | apply Ext.more_)⟩
  · have e : y = ⟨k, m, ex, t, b, f⟩ := by rw [← hy]; simp [besideV, h0]
    subst e
    have q0 : (k != 0) = true := by simp [h0]
    clear hy
    go_enter Tryz.func178, Tryz.ntmps178
    go_wp2_with fail
    exact bodyPost_ret (v := VV k m ex t b f) (by simp [results, Tryz.results178, go_sem]) rfl ⟨rfl, by with_reducible repeat (first | exact Ext.refl _ | apply Ext.drew | apply Ext.alloc | apply Ext.more_)⟩
theorem truthOrder_any (a b : Bool) (w : World) :
    Calls Tryz.prog 181 #[.bool a, .bool b] w fun e w' => e = .returned (.int .i64 (sgB a b)) ∧ Ext w w' := by
  cases a <;> cases b
  all_goals
    go_enter Tryz.func181, Tryz.ntmps181
    go_wp2_with fail
    go_ret
    exact ⟨rfl, Ext.refl _⟩
theorem compare_any (a b : ByteArray) (w : World) :
    Calls Tryz.prog 180 #[.string a, .string b] w fun e w' => e = .returned (.int .i64 (Lib.compareBytes (tl a) (tl b))) ∧ Ext w w' :=
  (Tryz.strings_Compare a b w).mono fun e w' ⟨h1, h2⟩ => ⟨h1, by rw [h2]; exact Ext.refl _⟩
set_option maxHeartbeats 1000000 in
theorem vcmp_any (a b : Val) (w : World) (ha : a.ok) (hb : b.ok) :
    Calls Tryz.prog 152 #[VV a.kind a.mant a.exp a.text a.truth a.fault, VV b.kind b.mant b.exp b.text b.truth b.fault] w fun e w' => e = .returned (.int .i64 (cmpV a b)) ∧ Ext w w' := by
  have hA : (besideV a b).ok := by
    unfold besideV
    split
    · exact ha
    · split
      · exact ⟨hb.1, z64, z64, Nat.zero_le _, z64⟩
      · exact ha
  have hB : (besideV b a).ok := by
    unfold besideV
    split
    · exact hb
    · split
      · exact ⟨ha.1, z64, z64, Nat.zero_le _, z64⟩
      · exact hb
  have h1 := fun W => beside_any a.kind a.mant a.exp a.fault b.kind b.mant b.exp b.fault a.text b.text a.truth b.truth W (besideV a b) rfl
  have h2 := fun W => beside_any b.kind b.mant b.exp b.fault a.kind a.mant a.exp a.fault b.text a.text b.truth a.truth W (besideV b a) rfl
  unfold cmpV
  generalize besideV a b = A at *
  generalize besideV b a = B at *
  obtain ⟨k, m, ex, t, u, f⟩ := A
  obtain ⟨k', m', ex', t', u', f'⟩ := B
  obtain ⟨_, hm, _, ht, _⟩ := hA
  obtain ⟨_, hm', _, ht', _⟩ := hB
  simp only at h1 h2 hm ht hm' ht'
  unfold cmpK
  simp only
  clear ha hb
  by_cases hk : k = k'
  · subst hk
    rw [if_neg (show ¬ (k ≠ k) from fun h => h rfl)]
    have q0 : (k != k) = false := by simp
    by_cases k1 : k = 1
    · rw [if_pos k1]
      subst k1
      go_enter Tryz.func152, Tryz.ntmps152
      go_upto_region 1 with fail
      refine wp_float [] [(0, 0), (1, 0), (3, 0), (4, 0), (2, 1), (5, 1)] [6, 7] [6, 7] [] (by kernel_rfl) (by kernel_rfl) (by kernel_rfl) (fun _ _ d _ _ h => by cases d <;> exact h) (fun _ _ d _ _ h => by cases d <;> exact h) (fun x hx => by cases hx) ?_
      iterate 4 ((refine wpFp_read (v := ?_) rfl ?_ (fun w1 h1 => ?_) ?_; rotate_left 1; rfl; (obtain ⟨os1, d1, rfl⟩ := h1.more; go_simp; first | done | rfl)); try simp only [Act.put, zqA, zqB, zqC])
      (refine wpFp_eff rfl ?_ (fun wf hXf hE K hK => ?_); rfl; obtain ⟨osf, df, rfl⟩ := hXf.more; go_simp; refine (h1 _).mono ?_; rintro e w' ⟨rfl, hb⟩; refine hK _ _ (fun _ => True) (by (try simp only [more_drew, more_more]); exact hb) (fun _ _ _ _ => trivial) trivial ?_)
      try simp only [Act.put, zqA, zqB, zqC]
      (refine wpFp_eff rfl ?_ (fun wf hXf hE K hK => ?_); rfl; obtain ⟨osf, df, rfl⟩ := hXf.more; go_simp; refine (h2 _).mono ?_; rintro e w' ⟨rfl, hb⟩; refine hK _ _ (fun _ => True) (by (try simp only [more_drew, more_more]); exact hb) (fun _ _ _ _ => trivial) trivial ?_)
      try simp only [Act.put, zqA, zqB, zqC]
      refine wpFp_zero fun osa da hE => ?_
      try simp only [Act.put, zqA, zqB, zqC]
      iterate 2 ((refine wpTl_op rfl ?_ (fun K hK => ?_); rfl; go_simp; refine hK _ _ ?_); try simp only [Act.put, zqA, zqB, zqC])
      refine wpTl_nil ?_
      go_wp2_with (go_at_call 179; refine (cmp_any _ _ _ _ _ (by assumption) (by assumption)).mono ?_; rintro e w' ⟨rfl, hb⟩; obtain ⟨os5, d5, rfl⟩ := hb.more; clear hb)
      go_ret
      exact ⟨rfl, by with_reducible repeat (first | exact Ext.refl _ | apply Ext.drew | apply Ext.alloc | apply Ext.more_)⟩
    · rw [if_neg k1]
      by_cases k2 : k = 2
      · rw [if_pos k2]
        subst k2
        go_enter Tryz.func152, Tryz.ntmps152
        go_upto_region 1 with fail
        refine wp_float [] [(0, 0), (1, 0), (3, 0), (4, 0), (2, 1), (5, 1)] [6, 7] [6, 7] [] (by kernel_rfl) (by kernel_rfl) (by kernel_rfl) (fun _ _ d _ _ h => by cases d <;> exact h) (fun _ _ d _ _ h => by cases d <;> exact h) (fun x hx => by cases hx) ?_
        iterate 4 ((refine wpFp_read (v := ?_) rfl ?_ (fun w1 h1 => ?_) ?_; rotate_left 1; rfl; (obtain ⟨os1, d1, rfl⟩ := h1.more; go_simp; first | done | rfl)); try simp only [Act.put, zqA, zqB, zqC])
        (refine wpFp_eff rfl ?_ (fun wf hXf hE K hK => ?_); rfl; obtain ⟨osf, df, rfl⟩ := hXf.more; go_simp; refine (h1 _).mono ?_; rintro e w' ⟨rfl, hb⟩; refine hK _ _ (fun _ => True) (by (try simp only [more_drew, more_more]); exact hb) (fun _ _ _ _ => trivial) trivial ?_)
        try simp only [Act.put, zqA, zqB, zqC]
        (refine wpFp_eff rfl ?_ (fun wf hXf hE K hK => ?_); rfl; obtain ⟨osf, df, rfl⟩ := hXf.more; go_simp; refine (h2 _).mono ?_; rintro e w' ⟨rfl, hb⟩; refine hK _ _ (fun _ => True) (by (try simp only [more_drew, more_more]); exact hb) (fun _ _ _ _ => trivial) trivial ?_)
        try simp only [Act.put, zqA, zqB, zqC]
        refine wpFp_zero fun osa da hE => ?_
        try simp only [Act.put, zqA, zqB, zqC]
        iterate 2 ((refine wpTl_op rfl ?_ (fun K hK => ?_); rfl; go_simp; refine hK _ _ ?_); try simp only [Act.put, zqA, zqB, zqC])
        refine wpTl_nil ?_
        go_upto_region 10 with fail
        refine wp_plan (S := Ext _) [(0, 0), (1, 0), (3, 0), (4, 0), (2, 1), (5, 1), (6, 1), (7, 0)] [] (by kernel_rfl) (by kernel_rfl) (by kernel_rfl) (fun _ _ d _ _ h => by cases d <;> exact h) (Ext.drew (Ext.refl _)) ?_
        iterate 4 ((refine wpPl_read (v := ?_) rfl ?_ (fun _ h => ?_) ?_; rotate_left 1; rfl; (obtain ⟨_, _, rfl⟩ := h.more; go_simp; try rfl)); try simp only [Act.put, zqA, zqB, zqC])
        (refine wpPl_eff rfl ?_ (fun K hK => ?_); rfl; go_simp; refine (fold_any _ _ (by assumption)).mono ?_; rintro e w' ⟨rfl, hb⟩; obtain ⟨os5, d5, rfl⟩ := hb.more; clear hb; refine hK _ _ ?_ ?_; (repeat (first | (with_reducible (first | exact Ext.refl _ | exact ext_d _ _ _ _ | exact ext_app _ _ _ _ _ | exact ext_app2 _ _ _ _ _ _ | exact ext_app3 _ _ _ _ _ _ _ | exact ext_app4 _ _ _ _ _ _ _ _ | exact ext_app5 _ _ _ _ _ _ _ _ _)) | ((with_reducible refine ext_suffix ⟨_, ?_⟩); (try simp only [Array.append_assoc]); rfl) | (with_reducible (first | apply Ext.drew | apply Ext.alloc | apply Ext.more_)) | apply Ext.drew | apply Ext.alloc | apply Ext.more_)))
        try simp only [Act.put, zqA, zqB, zqC]
        (refine wpPl_eff rfl ?_ (fun K hK => ?_); rfl; go_simp; refine (fold_any _ _ (by assumption)).mono ?_; rintro e w' ⟨rfl, hb⟩; obtain ⟨os6, d6, rfl⟩ := hb.more; clear hb; refine hK _ _ ?_ ?_; (repeat (first | (with_reducible (first | exact Ext.refl _ | exact ext_d _ _ _ _ | exact ext_app _ _ _ _ _ | exact ext_app2 _ _ _ _ _ _ | exact ext_app3 _ _ _ _ _ _ _ | exact ext_app4 _ _ _ _ _ _ _ _ | exact ext_app5 _ _ _ _ _ _ _ _ _)) | ((with_reducible refine ext_suffix ⟨_, ?_⟩); (try simp only [Array.append_assoc]); rfl) | (with_reducible (first | apply Ext.drew | apply Ext.alloc | apply Ext.more_)) | apply Ext.drew | apply Ext.alloc | apply Ext.more_)))
        try simp only [Act.put, zqA, zqB, zqC]
        (refine wpPl_eff rfl ?_ (fun K hK => ?_); rfl; go_simp; refine (compare_any _ _ _).mono ?_; rintro e w' ⟨rfl, hb⟩; obtain ⟨os7, d7, rfl⟩ := hb.more; clear hb; refine hK _ _ ?_ ?_; (repeat (first | (with_reducible (first | exact Ext.refl _ | exact ext_d _ _ _ _ | exact ext_app _ _ _ _ _ | exact ext_app2 _ _ _ _ _ _ | exact ext_app3 _ _ _ _ _ _ _ | exact ext_app4 _ _ _ _ _ _ _ _ | exact ext_app5 _ _ _ _ _ _ _ _ _)) | ((with_reducible refine ext_suffix ⟨_, ?_⟩); (try simp only [Array.append_assoc]); rfl) | (with_reducible (first | apply Ext.drew | apply Ext.alloc | apply Ext.more_)) | apply Ext.drew | apply Ext.alloc | apply Ext.more_)))
        try simp only [Act.put, zqA, zqB, zqC]
        (refine wpPl_read (v := ?_) rfl ?_ (fun _ h => ?_) ?_; rotate_left 1; rfl; (obtain ⟨_, _, rfl⟩ := h.more; go_simp; try rfl))
        try simp only [Act.put, zqA, zqB, zqC]
        refine wpPl_nil ?_
        go_wp2_with fail
        go_ret
        exact ⟨rfl, by with_reducible repeat (first | exact Ext.refl _ | apply Ext.drew | apply Ext.alloc | apply Ext.more_)⟩
      · rw [if_neg k2]
        by_cases k3 : k = 3
        · rw [if_pos k3]
          subst k3
          go_enter Tryz.func152, Tryz.ntmps152
          go_upto_region 1 with fail
          refine wp_float [] [(0, 0), (1, 0), (3, 0), (4, 0), (2, 1), (5, 1)] [6, 7] [6, 7] [] (by kernel_rfl) (by kernel_rfl) (by kernel_rfl) (fun _ _ d _ _ h => by cases d <;> exact h) (fun _ _ d _ _ h => by cases d <;> exact h) (fun x hx => by cases hx) ?_
          iterate 4 ((refine wpFp_read (v := ?_) rfl ?_ (fun w1 h1 => ?_) ?_; rotate_left 1; rfl; (obtain ⟨os1, d1, rfl⟩ := h1.more; go_simp; first | done | rfl)); try simp only [Act.put, zqA, zqB, zqC])
          (refine wpFp_eff rfl ?_ (fun wf hXf hE K hK => ?_); rfl; obtain ⟨osf, df, rfl⟩ := hXf.more; go_simp; refine (h1 _).mono ?_; rintro e w' ⟨rfl, hb⟩; refine hK _ _ (fun _ => True) (by (try simp only [more_drew, more_more]); exact hb) (fun _ _ _ _ => trivial) trivial ?_)
          try simp only [Act.put, zqA, zqB, zqC]
          (refine wpFp_eff rfl ?_ (fun wf hXf hE K hK => ?_); rfl; obtain ⟨osf, df, rfl⟩ := hXf.more; go_simp; refine (h2 _).mono ?_; rintro e w' ⟨rfl, hb⟩; refine hK _ _ (fun _ => True) (by (try simp only [more_drew, more_more]); exact hb) (fun _ _ _ _ => trivial) trivial ?_)
          try simp only [Act.put, zqA, zqB, zqC]
          refine wpFp_zero fun osa da hE => ?_
          try simp only [Act.put, zqA, zqB, zqC]
          iterate 2 ((refine wpTl_op rfl ?_ (fun K hK => ?_); rfl; go_simp; refine hK _ _ ?_); try simp only [Act.put, zqA, zqB, zqC])
          refine wpTl_nil ?_
          go_wp2_with (go_at_call 181; refine (truthOrder_any _ _ _).mono ?_; rintro e w' ⟨rfl, hb⟩; obtain ⟨os5, d5, rfl⟩ := hb.more; clear hb)
          go_ret
          exact ⟨rfl, by with_reducible repeat (first | exact Ext.refl _ | apply Ext.drew | apply Ext.alloc | apply Ext.more_)⟩
        · rw [if_neg k3]
          by_cases k4 : k = 4
          · rw [if_pos k4]
            subst k4
            unfold sgI
            by_cases hl : f < f'
            · rw [if_pos hl]
              go_enter Tryz.func152, Tryz.ntmps152
              go_upto_region 1 with fail
              refine wp_float [] [(0, 0), (1, 0), (3, 0), (4, 0), (2, 1), (5, 1)] [6, 7] [6, 7] [] (by kernel_rfl) (by kernel_rfl) (by kernel_rfl) (fun _ _ d _ _ h => by cases d <;> exact h) (fun _ _ d _ _ h => by cases d <;> exact h) (fun x hx => by cases hx) ?_
              iterate 4 ((refine wpFp_read (v := ?_) rfl ?_ (fun w1 h1 => ?_) ?_; rotate_left 1; rfl; (obtain ⟨os1, d1, rfl⟩ := h1.more; go_simp; first | done | rfl)); try simp only [Act.put, zqA, zqB, zqC])
              (refine wpFp_eff rfl ?_ (fun wf hXf hE K hK => ?_); rfl; obtain ⟨osf, df, rfl⟩ := hXf.more; go_simp; refine (h1 _).mono ?_; rintro e w' ⟨rfl, hb⟩; refine hK _ _ (fun _ => True) (by (try simp only [more_drew, more_more]); exact hb) (fun _ _ _ _ => trivial) trivial ?_)
              try simp only [Act.put, zqA, zqB, zqC]
              (refine wpFp_eff rfl ?_ (fun wf hXf hE K hK => ?_); rfl; obtain ⟨osf, df, rfl⟩ := hXf.more; go_simp; refine (h2 _).mono ?_; rintro e w' ⟨rfl, hb⟩; refine hK _ _ (fun _ => True) (by (try simp only [more_drew, more_more]); exact hb) (fun _ _ _ _ => trivial) trivial ?_)
              try simp only [Act.put, zqA, zqB, zqC]
              refine wpFp_zero fun osa da hE => ?_
              try simp only [Act.put, zqA, zqB, zqC]
              iterate 2 ((refine wpTl_op rfl ?_ (fun K hK => ?_); rfl; go_simp; refine hK _ _ ?_); try simp only [Act.put, zqA, zqB, zqC])
              refine wpTl_nil ?_
              go_wp2_with fail
              go_ret
              exact ⟨rfl, by with_reducible repeat (first | exact Ext.refl _ | apply Ext.drew | apply Ext.alloc | apply Ext.more_)⟩
            · rw [if_neg hl]
              by_cases hg : f' < f
              · rw [if_pos hg]
                go_enter Tryz.func152, Tryz.ntmps152
                go_upto_region 1 with fail
                refine wp_float [] [(0, 0), (1, 0), (3, 0), (4, 0), (2, 1), (5, 1)] [6, 7] [6, 7] [] (by kernel_rfl) (by kernel_rfl) (by kernel_rfl) (fun _ _ d _ _ h => by cases d <;> exact h) (fun _ _ d _ _ h => by cases d <;> exact h) (fun x hx => by cases hx) ?_
                iterate 4 ((refine wpFp_read (v := ?_) rfl ?_ (fun w1 h1 => ?_) ?_; rotate_left 1; rfl; (obtain ⟨os1, d1, rfl⟩ := h1.more; go_simp; first | done | rfl)); try simp only [Act.put, zqA, zqB, zqC])
                (refine wpFp_eff rfl ?_ (fun wf hXf hE K hK => ?_); rfl; obtain ⟨osf, df, rfl⟩ := hXf.more; go_simp; refine (h1 _).mono ?_; rintro e w' ⟨rfl, hb⟩; refine hK _ _ (fun _ => True) (by (try simp only [more_drew, more_more]); exact hb) (fun _ _ _ _ => trivial) trivial ?_)
                try simp only [Act.put, zqA, zqB, zqC]
                (refine wpFp_eff rfl ?_ (fun wf hXf hE K hK => ?_); rfl; obtain ⟨osf, df, rfl⟩ := hXf.more; go_simp; refine (h2 _).mono ?_; rintro e w' ⟨rfl, hb⟩; refine hK _ _ (fun _ => True) (by (try simp only [more_drew, more_more]); exact hb) (fun _ _ _ _ => trivial) trivial ?_)
                try simp only [Act.put, zqA, zqB, zqC]
                refine wpFp_zero fun osa da hE => ?_
                try simp only [Act.put, zqA, zqB, zqC]
                iterate 2 ((refine wpTl_op rfl ?_ (fun K hK => ?_); rfl; go_simp; refine hK _ _ ?_); try simp only [Act.put, zqA, zqB, zqC])
                refine wpTl_nil ?_
                go_wp2_with fail
                go_ret
                exact ⟨rfl, by with_reducible repeat (first | exact Ext.refl _ | apply Ext.drew | apply Ext.alloc | apply Ext.more_)⟩
              · rw [if_neg hg]
                go_enter Tryz.func152, Tryz.ntmps152
                go_upto_region 1 with fail
                refine wp_float [] [(0, 0), (1, 0), (3, 0), (4, 0), (2, 1), (5, 1)] [6, 7] [6, 7] [] (by kernel_rfl) (by kernel_rfl) (by kernel_rfl) (fun _ _ d _ _ h => by cases d <;> exact h) (fun _ _ d _ _ h => by cases d <;> exact h) (fun x hx => by cases hx) ?_
                iterate 4 ((refine wpFp_read (v := ?_) rfl ?_ (fun w1 h1 => ?_) ?_; rotate_left 1; rfl; (obtain ⟨os1, d1, rfl⟩ := h1.more; go_simp; first | done | rfl)); try simp only [Act.put, zqA, zqB, zqC])
                (refine wpFp_eff rfl ?_ (fun wf hXf hE K hK => ?_); rfl; obtain ⟨osf, df, rfl⟩ := hXf.more; go_simp; refine (h1 _).mono ?_; rintro e w' ⟨rfl, hb⟩; refine hK _ _ (fun _ => True) (by (try simp only [more_drew, more_more]); exact hb) (fun _ _ _ _ => trivial) trivial ?_)
                try simp only [Act.put, zqA, zqB, zqC]
                (refine wpFp_eff rfl ?_ (fun wf hXf hE K hK => ?_); rfl; obtain ⟨osf, df, rfl⟩ := hXf.more; go_simp; refine (h2 _).mono ?_; rintro e w' ⟨rfl, hb⟩; refine hK _ _ (fun _ => True) (by (try simp only [more_drew, more_more]); exact hb) (fun _ _ _ _ => trivial) trivial ?_)
                try simp only [Act.put, zqA, zqB, zqC]
                refine wpFp_zero fun osa da hE => ?_
                try simp only [Act.put, zqA, zqB, zqC]
                iterate 2 ((refine wpTl_op rfl ?_ (fun K hK => ?_); rfl; go_simp; refine hK _ _ ?_); try simp only [Act.put, zqA, zqB, zqC])
                refine wpTl_nil ?_
                go_wp2_with fail
                go_ret
                exact ⟨rfl, by with_reducible repeat (first | exact Ext.refl _ | apply Ext.drew | apply Ext.alloc | apply Ext.more_)⟩
          · rw [if_neg k4]
            have q1 : (k == 1) = false := by simp [k1]
            have q2 : (k == 2) = false := by simp [k2]
            have q3 : (k == 3) = false := by simp [k3]
            have q4 : (k == 4) = false := by simp [k4]
            clear k1 k2 k3 k4
            go_enter Tryz.func152, Tryz.ntmps152
            go_upto_region 1 with fail
            refine wp_float [] [(0, 0), (1, 0), (3, 0), (4, 0), (2, 1), (5, 1)] [6, 7] [6, 7] [] (by kernel_rfl) (by kernel_rfl) (by kernel_rfl) (fun _ _ d _ _ h => by cases d <;> exact h) (fun _ _ d _ _ h => by cases d <;> exact h) (fun x hx => by cases hx) ?_
            iterate 4 ((refine wpFp_read (v := ?_) rfl ?_ (fun w1 h1 => ?_) ?_; rotate_left 1; rfl; (obtain ⟨os1, d1, rfl⟩ := h1.more; go_simp; first | done | rfl)); try simp only [Act.put, zqA, zqB, zqC])
            (refine wpFp_eff rfl ?_ (fun wf hXf hE K hK => ?_); rfl; obtain ⟨osf, df, rfl⟩ := hXf.more; go_simp; refine (h1 _).mono ?_; rintro e w' ⟨rfl, hb⟩; refine hK _ _ (fun _ => True) (by (try simp only [more_drew, more_more]); exact hb) (fun _ _ _ _ => trivial) trivial ?_)
            try simp only [Act.put, zqA, zqB, zqC]
            (refine wpFp_eff rfl ?_ (fun wf hXf hE K hK => ?_); rfl; obtain ⟨osf, df, rfl⟩ := hXf.more; go_simp; refine (h2 _).mono ?_; rintro e w' ⟨rfl, hb⟩; refine hK _ _ (fun _ => True) (by (try simp only [more_drew, more_more]); exact hb) (fun _ _ _ _ => trivial) trivial ?_)
            try simp only [Act.put, zqA, zqB, zqC]
            refine wpFp_zero fun osa da hE => ?_
            try simp only [Act.put, zqA, zqB, zqC]
            iterate 2 ((refine wpTl_op rfl ?_ (fun K hK => ?_); rfl; go_simp; refine hK _ _ ?_); try simp only [Act.put, zqA, zqB, zqC])
            refine wpTl_nil ?_
            go_wp2_with fail
            go_ret
            exact ⟨rfl, by with_reducible repeat (first | exact Ext.refl _ | apply Ext.drew | apply Ext.alloc | apply Ext.more_)⟩
  · rw [if_pos (show k ≠ k' from hk)]
    have q0 : (k != k') = true := by simpa using hk
    by_cases hl : k < k'
    · rw [if_pos hl]
      go_enter Tryz.func152, Tryz.ntmps152
      go_upto_region 1 with fail
      refine wp_float [] [(0, 0), (1, 0), (3, 0), (4, 0), (2, 1), (5, 1)] [6, 7] [6, 7] [] (by kernel_rfl) (by kernel_rfl) (by kernel_rfl) (fun _ _ d _ _ h => by cases d <;> exact h) (fun _ _ d _ _ h => by cases d <;> exact h) (fun x hx => by cases hx) ?_
      iterate 4 ((refine wpFp_read (v := ?_) rfl ?_ (fun w1 h1 => ?_) ?_; rotate_left 1; rfl; (obtain ⟨os1, d1, rfl⟩ := h1.more; go_simp; first | done | rfl)); try simp only [Act.put, zqA, zqB, zqC])
      (refine wpFp_eff rfl ?_ (fun wf hXf hE K hK => ?_); rfl; obtain ⟨osf, df, rfl⟩ := hXf.more; go_simp; refine (h1 _).mono ?_; rintro e w' ⟨rfl, hb⟩; refine hK _ _ (fun _ => True) (by (try simp only [more_drew, more_more]); exact hb) (fun _ _ _ _ => trivial) trivial ?_)
      try simp only [Act.put, zqA, zqB, zqC]
      (refine wpFp_eff rfl ?_ (fun wf hXf hE K hK => ?_); rfl; obtain ⟨osf, df, rfl⟩ := hXf.more; go_simp; refine (h2 _).mono ?_; rintro e w' ⟨rfl, hb⟩; refine hK _ _ (fun _ => True) (by (try simp only [more_drew, more_more]); exact hb) (fun _ _ _ _ => trivial) trivial ?_)
      try simp only [Act.put, zqA, zqB, zqC]
      refine wpFp_zero fun osa da hE => ?_
      try simp only [Act.put, zqA, zqB, zqC]
      iterate 2 ((refine wpTl_op rfl ?_ (fun K hK => ?_); rfl; go_simp; refine hK _ _ ?_); try simp only [Act.put, zqA, zqB, zqC])
      refine wpTl_nil ?_
      go_wp2_with fail
      go_ret
      exact ⟨rfl, by with_reducible repeat (first | exact Ext.refl _ | apply Ext.drew | apply Ext.alloc | apply Ext.more_)⟩
    · rw [if_neg hl]
      go_enter Tryz.func152, Tryz.ntmps152
      go_upto_region 1 with fail
      refine wp_float [] [(0, 0), (1, 0), (3, 0), (4, 0), (2, 1), (5, 1)] [6, 7] [6, 7] [] (by kernel_rfl) (by kernel_rfl) (by kernel_rfl) (fun _ _ d _ _ h => by cases d <;> exact h) (fun _ _ d _ _ h => by cases d <;> exact h) (fun x hx => by cases hx) ?_
      iterate 4 ((refine wpFp_read (v := ?_) rfl ?_ (fun w1 h1 => ?_) ?_; rotate_left 1; rfl; (obtain ⟨os1, d1, rfl⟩ := h1.more; go_simp; first | done | rfl)); try simp only [Act.put, zqA, zqB, zqC])
      (refine wpFp_eff rfl ?_ (fun wf hXf hE K hK => ?_); rfl; obtain ⟨osf, df, rfl⟩ := hXf.more; go_simp; refine (h1 _).mono ?_; rintro e w' ⟨rfl, hb⟩; refine hK _ _ (fun _ => True) (by (try simp only [more_drew, more_more]); exact hb) (fun _ _ _ _ => trivial) trivial ?_)
      try simp only [Act.put, zqA, zqB, zqC]
      (refine wpFp_eff rfl ?_ (fun wf hXf hE K hK => ?_); rfl; obtain ⟨osf, df, rfl⟩ := hXf.more; go_simp; refine (h2 _).mono ?_; rintro e w' ⟨rfl, hb⟩; refine hK _ _ (fun _ => True) (by (try simp only [more_drew, more_more]); exact hb) (fun _ _ _ _ => trivial) trivial ?_)
      try simp only [Act.put, zqA, zqB, zqC]
      refine wpFp_zero fun osa da hE => ?_
      try simp only [Act.put, zqA, zqB, zqC]
      iterate 2 ((refine wpTl_op rfl ?_ (fun K hK => ?_); rfl; go_simp; refine hK _ _ ?_); try simp only [Act.put, zqA, zqB, zqC])
      refine wpTl_nil ?_
      go_wp2_with fail
      go_ret
      exact ⟨rfl, by with_reducible repeat (first | exact Ext.refl _ | apply Ext.drew | apply Ext.alloc | apply Ext.more_)⟩
end Go.Proofs.YtmjmijjbijlhfaaGreatDoor
namespace Go.Proofs.YtmjmijjbijlhfaaGreatDoor
open Go.RowKit NM
abbrev tnV (x : Val) : Value := .tuple #[NV (tnP x).1 (tnP x).2, .int .i64 (tnF x)]
theorem tn_blank : tnV (Val.only 0) = .tuple #[NV 0 0, .int .i64 0] := rfl
theorem tn_num (m e : Int) : tnV ⟨1, m, e, ⟨#[]⟩, false, 0⟩ = .tuple #[NV m e, .int .i64 0] := rfl
theorem tn_true : tnV (truthV true) = .tuple #[NV 1 0, .int .i64 0] := rfl
theorem tn_false : tnV (truthV false) = .tuple #[NV 0 0, .int .i64 0] := rfl
theorem tn_bad (f : Int) : tnV (badV f) = .tuple #[NV 0 0, .int .i64 f] := rfl
theorem tn_text_no {t : ByteArray} (h : parS t = none) : tnV ⟨2, 0, 0, t, false, 0⟩ = .tuple #[NV 0 0, .int .i64 2] := by unfold tnV tnP tnF; simp [h]
theorem tn_text_yes {t : ByteArray} {p : Int × Int} (h : parS t = some p) : tnV ⟨2, 0, 0, t, false, 0⟩ = .tuple #[NV p.1 p.2, .int .i64 0] := by unfold tnV tnP tnF; simp [h]
set_option maxHeartbeats 1000000 in
theorem toNum_any (x : Val) (w : World) (hx : x.right) :
    Calls Tryz.prog 94 #[VV x.kind x.mant x.exp x.text x.truth x.fault] w fun e w' => e = .returned (tnV x) ∧ Ext w w' := by
  rcases hx.form with rfl | ⟨m, e, rfl, hr⟩ | ⟨t, rfl, ht⟩ | ⟨b, rfl⟩ | ⟨f, rfl, hf⟩
  · rw [tn_blank]
    simp only [Val.only]
    go_enter Tryz.func94, Tryz.ntmps94
    go_wp2_with fail
    exact bodyPost_ret (v := .tuple #[NV 0 0, .int .i64 0]) (by simp [results, Tryz.results94, go_sem]) rfl ⟨rfl, by with_reducible repeat (first | exact Ext.refl _ | apply Ext.drew | apply Ext.alloc | apply Ext.more_)⟩
  · rw [tn_num]
    clear hx hr
    simp only
    go_enter Tryz.func94, Tryz.ntmps94
    go_wp2_with fail
    exact bodyPost_ret (v := .tuple #[NV m e, .int .i64 0]) (by simp [results, Tryz.results94, go_sem]) rfl ⟨rfl, by with_reducible repeat (first | exact Ext.refl _ | apply Ext.drew | apply Ext.alloc | apply Ext.more_)⟩
  · have hp := fun W => parse_any t W (by omega)
    simp only
    cases h : parS t with
    | none =>
      rw [tn_text_no h]
      rw [h] at hp
      simp only [rnV, rm, re, Option.getD_none, Option.isSome_none] at hp
      clear h hx
      go_enter Tryz.func94, Tryz.ntmps94
      go_wp2_with (go_at_call 147; (with_reducible refine (hp _).mono ?_); rintro e w' ⟨rfl, hb⟩; obtain ⟨os, d, rfl⟩ := hb.more; clear hb)
      exact bodyPost_ret (v := .tuple #[NV 0 0, .int .i64 2]) (by simp [results, Tryz.results94, go_sem]) rfl ⟨rfl, by with_reducible repeat (first | exact Ext.refl _ | apply Ext.drew | apply Ext.alloc | apply Ext.more_)⟩
    | some p =>
      rw [tn_text_yes h]
      rw [h] at hp
      simp only [rnV, rm, re, Option.getD_some, Option.isSome_some] at hp
      clear h hx
      go_enter Tryz.func94, Tryz.ntmps94
      go_wp2_with (go_at_call 147; (with_reducible refine (hp _).mono ?_); rintro e w' ⟨rfl, hb⟩; obtain ⟨os, d, rfl⟩ := hb.more; clear hb)
      exact bodyPost_ret (v := .tuple #[NV p.1 p.2, .int .i64 0]) (by simp [results, Tryz.results94, go_sem]) rfl ⟨rfl, by with_reducible repeat (first | exact Ext.refl _ | apply Ext.drew | apply Ext.alloc | apply Ext.more_)⟩
  · cases b
    · rw [tn_false]
      simp only [truthV]
      clear hx
      go_enter Tryz.func94, Tryz.ntmps94
      go_wp2_with fail
      exact bodyPost_ret (v := .tuple #[NV 0 0, .int .i64 0]) (by simp [results, Tryz.results94, go_sem]) rfl ⟨rfl, by with_reducible repeat (first | exact Ext.refl _ | apply Ext.drew | apply Ext.alloc | apply Ext.more_)⟩
    · rw [tn_true]
      simp only [truthV]
      clear hx
      go_enter Tryz.func94, Tryz.ntmps94
      go_wp2_with fail
      exact bodyPost_ret (v := .tuple #[NV 1 0, .int .i64 0]) (by simp [results, Tryz.results94, go_sem]) rfl ⟨rfl, by with_reducible repeat (first | exact Ext.refl _ | apply Ext.drew | apply Ext.alloc | apply Ext.more_)⟩
  · rw [tn_bad]
    simp only [badV]
    clear hx hf
    go_enter Tryz.func94, Tryz.ntmps94
    go_upto_region 13 with fail
    go_region
    all_goals
      go_wp2_with fail
      exact bodyPost_ret (v := .tuple #[NV 0 0, .int .i64 f]) (by simp [results, Tryz.results94, go_sem]) rfl ⟨rfl, by with_reducible repeat (first | exact Ext.refl _ | apply Ext.drew | apply Ext.alloc | apply Ext.more_)⟩
end Go.Proofs.YtmjmijjbijlhfaaGreatDoor
namespace Go.Proofs.YtmjmijjbijlhfaaGreatDoor
open Go.RowKit NM
/-- A number of at most 15 digits is what it is. -/
theorem exactx {x e : Int} (hx : x.natAbs < T 15) (h1 : -40 ≤ e) (h2 : e ≤ 25) : ∃ m k, rndI x e = some (m, k) ∧ Rt m k ∧ sc m k = sc x e ∧ (m = 0 ↔ x = 0) ∧ (x ≠ 0 → e ≤ k) := by
  have hn : nd x.natAbs ≤ 15 := (nd_le_iff _ _).2 hx
  have hz : nd x.natAbs - 15 = 0 := by omega
  by_cases h0 : x = 0
  · subst h0
    refine ⟨0, 0, ?_, rt_zero, ?_, ⟨fun _ => rfl, fun _ => rfl⟩, fun h => absurd rfl h⟩
    · unfold rndI; exact rnd_nought _ _ _
    · unfold sc; rw [Int.zero_mul, Int.zero_mul]
  · have hN : x.natAbs ≠ 0 := by omega
    have e1 : n1 x.natAbs false = x.natAbs := by unfold n1; rw [hz, cutN_zero]
    have e2' : n2 x.natAbs false e = x.natAbs := by
      unfold n2; rw [e1, hz, show (-40 - (e + ((0 : Nat) : Int))).toNat = 0 by omega, cutN_zero]
    have e3 : NM.e2 x.natAbs e = e := by unfold NM.e2; rw [hz]; omega
    have hr : rndI x e = some (sg (decide (x < 0)) (trim x.natAbs e).1, (trim x.natAbs e).2) := by
      unfold rndI
      rw [rnd_fin, e2', e3]
      unfold fin
      rw [if_neg hN, if_neg (by omega)]
    obtain ⟨k, g1, g2, g3⟩ := trim_spec x.natAbs e hN
    have g4 : (trim x.natAbs e).1 ≠ 0 := fun h => g3 (by rw [h])
    refine ⟨_, _, hr, ?_, ?_, ⟨fun h => absurd (sg_zero.1 h) g4, fun h => absurd h h0⟩, fun _ => by rw [g2]; omega⟩
    · have := hr; unfold rndI at this; exact rnd_right this
    · have g5 := sc_trim (N := x.natAbs) (e := e) hN (by omega)
      unfold sc
      rw [← sg_mul_nat, g5, sg_mul_nat, sg_nat]
/-- The number of a whole number. -/
def wholeN (n : Int) : Int × Int := (rndI n 0).getD (0, 0)
theorem wholex {n : Int} (h : n.natAbs < T 15) : rndI n 0 = some (wholeN n) ∧ Rt (wholeN n).1 (wholeN n).2 ∧ sc (wholeN n).1 (wholeN n).2 = sc n 0 ∧ ((wholeN n).1 = 0 ↔ n = 0) ∧ 0 ≤ (wholeN n).2 := by
  obtain ⟨m, k, h1, h2, h3, h4, h5⟩ := exactx h (e := 0) (by omega) (by omega)
  have hw : wholeN n = (m, k) := by unfold wholeN; rw [h1]; rfl
  rw [hw]
  refine ⟨h1, h2, h3, h4, ?_⟩
  by_cases h0 : n = 0
  · have hm := h4.2 h0
    rcases h2 with ⟨_, hk⟩ | ⟨hm', _⟩
    · show 0 ≤ k; omega
    · exact absurd hm hm'
  · exact h5 h0
end Go.Proofs.YtmjmijjbijlhfaaGreatDoor
namespace Go.Proofs.YtmjmijjbijlhfaaGreatDoor
open NM
/-- 10 to the power 140: what no right number reaches, scaled. -/
def MX : Nat := T 140
/-- A value without its sign, scaled, to the nearest of so many, a half up; but beyond the greatest one itself. -/
def GU (U x : Nat) : Nat := (if U ≤ 2 * (x % U) then x / U + 1 else x / U) * U
def HU (U x : Nat) : Nat := if GU U x < MX then GU U x else x
/-- The same with a sign. -/
def HI (U : Nat) (x : Int) : Int := if x < 0 then -(HU U x.natAbs : Int) else HU U x.natAbs
theorem sc_sg (neg : Bool) (N : Nat) (e : Int) : sc (sg neg N) e = sg neg (N * T (e + 100).toNat) := by unfold sc; rw [sg_mul_nat]
theorem sg_nought (b : Bool) : sg b 0 = 0 := by cases b <;> rfl
end Go.Proofs.YtmjmijjbijlhfaaGreatDoor
namespace Go.Proofs.YtmjmijjbijlhfaaGreatDoor
open Go.RowKit NM
theorem fin_whole {neg : Bool} {N : Nat} (h : nd N ≤ 15) : rnd neg N false 0 = some (sg neg (trim N 0).1, (trim N 0).2) := by
  rw [rnd_small h (by omega)]
  unfold fin
  by_cases h0 : N = 0
  · subst h0; rw [if_pos rfl, trim_zero]; cases neg <;> rfl
  · rw [if_neg h0, if_neg (by omega)]
theorem floorN_nd {m e : Int} {k : Nat} (h : Rt m e) (hk : 0 < k) : nd (floorN m k) ≤ 15 := by
  obtain ⟨b1, _, _⟩ := Rt_bd h
  have hT15 : T 15 = 1000000000000000 := by decide
  have h1 : m.natAbs / T k ≤ m.natAbs / T 1 := Nat.div_le_div_left (T_mono hk) (T_pos 1)
  have h2 : T 1 = 10 := by decide
  rw [h2] at h1
  rw [nd_le_iff]
  unfold floorN
  split <;> omega
end Go.Proofs.YtmjmijjbijlhfaaGreatDoor
namespace Go.Proofs.YtmjmijjbijlhfaaGreatDoor
open Go.RowKit NM
/-- 10 to the power 100, as a word. -/
def HX : Int := ((T 100 : Nat) : Int)
theorem HX_pos : 0 < HX := by have := T_pos 100; unfold HX; omega
theorem whole_sc {neg : Bool} {N : Nat} (h : nd N ≤ 15) : Rt (sg neg (trim N 0).1) (trim N 0).2 ∧ sc (sg neg (trim N 0).1) (trim N 0).2 = sg neg N * HX ∧ 0 ≤ (trim N 0).2 := by
  have h1 := fin_whole (neg := neg) h
  refine ⟨rnd_right h1, ?_, ?_⟩
  · rw [sc_sg]
    by_cases h0 : N = 0
    · rw [h0, trim_zero, Nat.zero_mul, sg_nought, Int.zero_mul]
    · rw [sc_trim h0 (by omega), sg_mul_nat]; rfl
  · by_cases h0 : N = 0
    · rw [h0, trim_zero]; exact Int.le_refl _
    · obtain ⟨k, _, hb, _⟩ := trim_spec N 0 h0
      rw [hb]; omega
theorem floor_spec {m e : Int} (h : Rt m e) : Rt (floorS m e).1 (floorS m e).2 ∧ 0 ≤ (floorS m e).2 ∧ sc (floorS m e).1 (floorS m e).2 ≤ sc m e ∧ sc m e < sc (floorS m e).1 (floorS m e).2 + HX := by
  have hH := HX_pos
  unfold floorS
  rw [if_neg (by simpa using h)]
  by_cases h0 : 0 ≤ e
  · rw [if_pos h0]; exact ⟨h, h0, Int.le_refl _, by show sc m e < sc m e + HX; omega⟩
  · rw [if_neg h0]
    obtain ⟨b1, b2, b3⟩ := Rt_bd h
    obtain ⟨k, hk⟩ : ∃ k : Nat, -e = (k : Int) := ⟨(-e).toNat, by omega⟩
    rw [hk, Int.toNat_natCast]
    have hk0 : 0 < k := by omega
    have hk100 : k ≤ 100 := by omega
    obtain ⟨w1, w2, w3⟩ := whole_sc (neg := decide (m < 0)) (floorN_nd h hk0)
    refine ⟨w1, w3, ?_⟩
    show sc (sg (decide (m < 0)) (trim (floorN m k) 0).1) (trim (floorN m k) 0).2 ≤ sc m e ∧ sc m e < sc (sg (decide (m < 0)) (trim (floorN m k) 0).1) (trim (floorN m k) 0).2 + HX
    rw [w2]
    have hdm := Nat.div_add_mod m.natAbs (T k)
    have hml := Nat.mod_lt m.natAbs (T_pos k)
    have hsc : sc m e = m * ((T (100 - k) : Nat) : Int) := by unfold sc; congr 3; omega
    have hHX : HX = ((T k : Nat) : Int) * ((T (100 - k) : Nat) : Int) := by unfold HX; rw [← T_cast_mul]; congr 2; omega
    have hr0 : m < 0 → m.natAbs % T k ≠ 0 := by
      intro hm
      rcases h with ⟨h1, _⟩ | ⟨_, _, h3, _, _⟩
      · omega
      · exact mod_T_ne h3 hk0
    have ht := T_pos (100 - k)
    unfold floorN
    rw [hsc, hHX]
    generalize T (100 - k) = t at *
    generalize m.natAbs / T k = q at *
    generalize m.natAbs % T k = r at *
    generalize T k = u at *
    have htI : (0 : Int) < (t : Int) := by omega
    have hrt : (r : Int) * (t : Int) < (u : Int) * (t : Int) := Int.mul_lt_mul_of_pos_right (by omega) htI
    have hrp : 0 ≤ (r : Int) * (t : Int) := Int.mul_nonneg (by omega) (by omega)
    by_cases hm : m < 0
    · have hmr : m = -((u : Int) * (q : Int) + (r : Int)) := by rw [← Int.natCast_mul]; omega
      have hr1 : 0 < (r : Int) * (t : Int) := Int.mul_pos (by have := hr0 hm; omega) htI
      rw [if_pos hm, decide_eq_true hm]
      have e1 : sg true (q + 1) * ((u : Int) * (t : Int)) = -((q : Int) * ((u : Int) * (t : Int))) - (u : Int) * (t : Int) := by
        simp only [sg, if_true]; rw [Int.neg_mul, Int.natCast_add, Int.add_mul]; simp; omega
      have e2 : m * (t : Int) = -((q : Int) * ((u : Int) * (t : Int))) - (r : Int) * (t : Int) := by
        rw [hmr, Int.neg_mul, Int.add_mul, Int.mul_comm (u : Int) (q : Int), Int.mul_assoc]; omega
      rw [e1, e2]
      omega
    · have hmr : m = (u : Int) * (q : Int) + (r : Int) := by rw [← Int.natCast_mul]; omega
      rw [if_neg hm, show decide (m < 0) = false by simp [hm]]
      have e1 : sg false q * ((u : Int) * (t : Int)) = (q : Int) * ((u : Int) * (t : Int)) := by simp [sg]
      have e2 : m * (t : Int) = (q : Int) * ((u : Int) * (t : Int)) + (r : Int) * (t : Int) := by
        rw [hmr, Int.add_mul, Int.mul_comm (u : Int) (q : Int), Int.mul_assoc]
      rw [e1, e2]
      omega
theorem int_go : ∀ (k : Nat) (n : Int), (n * (T k : Nat)).natAbs ≤ 1000000000000000 → intGo n k = some (n * (T k : Nat))
  | 0, n, _ => by simp [intGo, T]
  | k + 1, n, h => by
    have h1 : n * ((T (k + 1) : Nat) : Int) = n * 10 * ((T k : Nat) : Int) := by rw [T_succ, Int.natCast_mul, ← Int.mul_assoc]; rfl
    rw [h1] at h ⊢
    have h2 : n.natAbs * 10 ≤ 1000000000000000 := by
      have h3 : (n * 10 * ((T k : Nat) : Int)).natAbs = n.natAbs * 10 * T k := by rw [Int.natAbs_mul, Int.natAbs_mul, Int.natAbs_natCast]; rfl
      rw [h3] at h
      exact Nat.le_trans (Nat.le_mul_of_pos_right _ (T_pos k)) h
    rw [intGo, if_neg (by omega)]
    exact int_go k (n * 10) h
theorem sc_whole {m e : Int} (h : 0 ≤ e) : sc m e = m * (T e.toNat : Nat) * HX := by
  unfold sc HX
  rw [Int.mul_assoc, ← T_cast_mul]; congr 3; omega
end Go.Proofs.YtmjmijjbijlhfaaGreatDoor
namespace Go.Proofs.YtmjmijjbijlhfaaGreatDoor
open Go.RowKit NM
theorem rt_i64 {m e : Int} (h : Rt m e) : I64 m := by
  obtain ⟨h1, h2, h3⟩ := Rt_bd h
  unfold I64; omega
def cntV (n : Int) : Val := ⟨1, (wholeN n).1, (wholeN n).2, ⟨#[]⟩, false, 0⟩
/-- A value's whole number, and a fault. -/
def wholeO (v : Val) : Int × Int := if tnF v = 0 then ((intS (floorS (tnP v).1 (tnP v).2).1 (floorS (tnP v).1 (tnP v).2).2).getD 0, if (intS (floorS (tnP v).1 (tnP v).2).1 (floorS (tnP v).1 (tnP v).2).2).isSome then 0 else 5) else (0, tnF v)
end Go.Proofs.YtmjmijjbijlhfaaGreatDoor
namespace Go.Proofs.YtmjmijjbijlhfaaGreatDoor
open Go.RowKit NM
theorem sgI_flip (a b : Int) : sgI b a = - sgI a b := by
  unfold sgI
  by_cases h : a < b
  · rw [if_pos h, if_neg (by omega), if_pos h]; rfl
  · rw [if_neg h]
    by_cases h' : b < a
    · rw [if_pos h', if_neg h, if_pos h']
    · rw [if_neg h', if_neg h, if_neg h']; rfl
theorem sgB_flip (a b : Bool) : sgB b a = - sgB a b := by cases a <;> cases b <;> rfl
theorem cmpT_flip (a b : ByteArray) : cmpT b a = - cmpT a b := cb_flip _ _
theorem cmpK_same {a b : Val} (h : a.kind = b.kind) : cmpK a b = if a.kind = 1 then cmpS a.mant a.exp b.mant b.exp else if a.kind = 2 then cmpT a.text b.text else if a.kind = 3 then sgB a.truth b.truth else if a.kind = 4 then sgI a.fault b.fault else 0 := by
  unfold cmpK
  rw [if_neg (fun h' => h' h)]
theorem cmpK_flip (a b : Val) : cmpK b a = - cmpK a b := by
  by_cases h : a.kind = b.kind
  · rw [cmpK_same h, cmpK_same h.symm, ← h]
    by_cases h1 : a.kind = 1
    · rw [if_pos h1, if_pos h1]; exact cmp_flip _ _ _ _
    · rw [if_neg h1, if_neg h1]
      by_cases h2 : a.kind = 2
      · rw [if_pos h2, if_pos h2]; exact cmpT_flip _ _
      · rw [if_neg h2, if_neg h2]
        by_cases h3 : a.kind = 3
        · rw [if_pos h3, if_pos h3]; exact sgB_flip _ _
        · rw [if_neg h3, if_neg h3]
          by_cases h4 : a.kind = 4
          · rw [if_pos h4, if_pos h4]; exact sgI_flip _ _
          · rw [if_neg h4, if_neg h4]; rfl
  · unfold cmpK
    rw [if_pos (fun h' => h h'.symm), if_pos h]
    by_cases h2 : a.kind < b.kind
    · rw [if_pos h2, if_neg (by omega)]; rfl
    · rw [if_neg h2, if_pos (by omega)]
theorem cmpV_flip (a b : Val) : cmpV b a = - cmpV a b := cmpK_flip _ _
end Go.Proofs.YtmjmijjbijlhfaaGreatDoor
namespace Go.Proofs.YtmjmijjbijlhfaaGreatDoor
open Go.RowKit NM
theorem floor_self {m e : Int} (h : Rt m e) (he : 0 ≤ e) : floorS m e = (m, e) := by
  unfold floorS
  rw [if_neg (fun h' => h' h), if_pos he]
theorem int_whole {n : Int} (h : n.natAbs < T 15) : intS (wholeN n).1 (wholeN n).2 = some n := by
  obtain ⟨h1, h2, h3, h4, h5⟩ := wholex h
  generalize wholeN n = p at *
  obtain ⟨m, e⟩ := p
  simp only at *
  have hH := HX_pos
  have hq : m * (T e.toNat : Nat) = n := by
    rw [sc_whole h5, sc_whole (m := n) (e := 0) (by omega)] at h3
    have h6 := Int.eq_of_mul_eq_mul_right (by omega) h3
    rw [h6]
    show n * ((T 0 : Nat) : Int) = n
    simp [T]
  have hT15 : T 15 = 1000000000000000 := by decide
  rw [hT15] at h
  unfold intS
  rw [if_neg (by rintro (h | h); exact h h2; omega), int_go _ _ (by rw [hq]; omega), hq]
theorem whole_cnt {n : Int} (h : n.natAbs < T 15) : wholeO (cntV n) = (n, 0) := by
  obtain ⟨h1, h2, h3, h4, h5⟩ := wholex h
  have hi := int_whole h
  have h6 : tnF (cntV n) = 0 := rfl
  have h7 : tnP (cntV n) = ((wholeN n).1, (wholeN n).2) := rfl
  unfold wholeO
  rw [if_pos h6, h7]
  simp only
  rw [floor_self h2 h5]
  simp only
  rw [hi]
  rfl
theorem cmpV_le_trans {a b c : Val} (ha : a.right) (hb : b.right) (hc : c.right) (h1 : a.kind = b.kind) (h2 : b.kind = c.kind) (hab : cmpV a b ≤ 0) (hbc : cmpV b c ≤ 0) : cmpV a c ≤ 0 := by
  rw [cmpV_same h1] at hab
  rw [cmpV_same h2] at hbc
  rw [cmpV_same (h1.trans h2)]
  rw [cmpK_same h1] at hab
  rw [cmpK_same h2] at hbc
  rw [cmpK_same (h1.trans h2)]
  rw [← h1] at hbc
  by_cases k1 : a.kind = 1
  · rw [if_pos k1] at hab hbc ⊢
    have ra := ha.rt k1
    have rb := hb.rt (by omega)
    have rc := hc.rt (by omega)
    rw [cmp_le ra rb] at hab
    rw [cmp_le rb rc] at hbc
    rw [cmp_le ra rc]; omega
  · rw [if_neg k1] at hab hbc ⊢
    by_cases k2 : a.kind = 2
    · rw [if_pos k2] at hab hbc ⊢
      exact cb_trans hab hbc
    · rw [if_neg k2] at hab hbc ⊢
      by_cases k3 : a.kind = 3
      · rw [if_pos k3] at hab hbc ⊢
        revert hab hbc
        cases a.truth <;> cases b.truth <;> cases c.truth <;> decide
      · rw [if_neg k3] at hab hbc ⊢
        by_cases k4 : a.kind = 4
        · rw [if_pos k4] at hab hbc ⊢
          unfold sgI at *
          (repeat' split at hab) <;> (repeat' split at hbc) <;> (repeat' split) <;> omega
        · rw [if_neg k4]; omega
end Go.Proofs.YtmjmijjbijlhfaaGreatDoor
namespace Go.Proofs.YtmjmijjbijlhfaaGreatDoor
open Go.RowKit NM
theorem cmpV_nz {a b : Val} (h1 : a.kind ≠ 0) (h2 : b.kind ≠ 0) : cmpV a b = cmpK a b := by
  unfold cmpV besideV; rw [if_pos h1, if_pos h2]
theorem cmpK_ne {a b : Val} (h : a.kind ≠ b.kind) : cmpK a b = if a.kind < b.kind then -1 else 1 := by
  unfold cmpK; rw [if_pos h]
theorem cmpV_kind {a b : Val} (h1 : a.kind ≠ 0) (h2 : b.kind ≠ 0) (h : cmpV a b ≤ 0) : a.kind ≤ b.kind := by
  rw [cmpV_nz h1 h2] at h
  by_cases he : a.kind = b.kind
  · omega
  · rw [cmpK_ne he] at h
    split at h
    · omega
    · omega
theorem cmpV_nz_trans {a b c : Val} (ha : a.right) (hb : b.right) (hc : c.right) (h1 : a.kind ≠ 0) (h2 : b.kind ≠ 0) (h3 : c.kind ≠ 0) (hab : cmpV a b ≤ 0) (hbc : cmpV b c ≤ 0) : cmpV a c ≤ 0 := by
  have k1 := cmpV_kind h1 h2 hab
  have k2 := cmpV_kind h2 h3 hbc
  by_cases he : a.kind = c.kind
  · exact cmpV_le_trans ha hb hc (by omega) (by omega) hab hbc
  · rw [cmpV_nz h1 h3, cmpK_ne he, if_pos (by omega)]; omega
/-- The order of rows for UNIQUE. -/
theorem ordV_flip (a b : Val) : ordV b a = - ordV a b := by
  unfold ordV
  by_cases h1 : a.kind = 0 <;> by_cases h2 : b.kind = 0 <;> simp [h1, h2, cmpV_flip a b]
theorem ordV_trans {a b c : Val} (ha : a.right) (hb : b.right) (hc : c.right) (h1 : ordV a b ≤ 0) (h2 : ordV b c ≤ 0) : ordV a c ≤ 0 := by
  unfold ordV at *
  by_cases a0 : a.kind = 0
  · by_cases b0 : b.kind = 0
    · by_cases c0 : c.kind = 0
      · simp [a0, c0]
      · simp [b0, c0] at h2
    · simp [a0, b0] at h1
  · by_cases c0 : c.kind = 0
    · simp [a0, c0]
    · by_cases b0 : b.kind = 0
      · simp [b0, c0] at h2
      · rw [if_neg (fun e => a0 e.1), if_neg a0, if_neg b0] at h1
        rw [if_neg (fun e => b0 e.1), if_neg b0, if_neg c0] at h2
        rw [if_neg (fun e => a0 e.1), if_neg a0, if_neg c0]
        exact cmpV_nz_trans ha hb hc a0 b0 c0 h1 h2
def lexO : List Val → List Val → Int
  | x :: l, y :: l' => if ordV x y ≠ 0 then ordV x y else lexO l l'
  | _, _ => 0
theorem lexO_flip : ∀ (l l' : List Val), lexO l' l = - lexO l l'
  | [], [] => rfl
  | [], _ :: _ => rfl
  | _ :: _, [] => rfl
  | x :: l, y :: l' => by
    show (if ordV y x ≠ 0 then ordV y x else lexO l' l) = - (if ordV x y ≠ 0 then ordV x y else lexO l l')
    rw [ordV_flip x y]
    by_cases h : ordV x y = 0
    · rw [if_neg (by simp [h]), if_neg (by simp [h])]; exact lexO_flip l l'
    · rw [if_pos (by omega), if_pos h]
theorem lexO_trans : ∀ {n : Nat} {a b c : List Val}, a.length = n → b.length = n → c.length = n → (∀ x ∈ a, x.right) → (∀ x ∈ b, x.right) → (∀ x ∈ c, x.right) → lexO a b ≤ 0 → lexO b c ≤ 0 → lexO a c ≤ 0
  | 0, a, b, c, ha, hb, hc, _, _, _, _, _ => by
    rw [List.eq_nil_of_length_eq_zero ha]; show (0 : Int) ≤ 0; omega
  | n + 1, [], _, _, ha, _, _, _, _, _, _, _ => by cases ha
  | n + 1, _ :: _, [], _, _, hb, _, _, _, _, _, _ => by cases hb
  | n + 1, _ :: _, _ :: _, [], _, _, hc, _, _, _, _, _ => by cases hc
  | n + 1, x :: a, y :: b, z :: c, ha, hb, hc, ra, rb, rc, h1, h2 => by
    have h1' : (if ordV x y ≠ 0 then ordV x y else lexO a b) ≤ 0 := h1
    have h2' : (if ordV y z ≠ 0 then ordV y z else lexO b c) ≤ 0 := h2
    show (if ordV x z ≠ 0 then ordV x z else lexO a c) ≤ 0
    have rx := ra x (by simp)
    have ry := rb y (by simp)
    have rz := rc z (by simp)
    have p1 : ordV x y ≤ 0 := by split at h1' <;> omega
    have p2 : ordV y z ≤ 0 := by split at h2' <;> omega
    have p3 := ordV_trans rx ry rz p1 p2
    split
    · exact p3
    · rename_i h3
      have h3 : ordV x z = 0 := by simpa using h3
      -- then x and y, y and z are alike
      have q1 : ordV z x ≤ 0 := by rw [ordV_flip x z]; omega
      have e1 : ordV x y = 0 := by
        have := ordV_trans ry rz rx p2 q1
        rw [ordV_flip x y] at this; omega
      have e2 : ordV y z = 0 := by
        have := ordV_trans rz rx ry q1 p1
        rw [ordV_flip y z] at this; omega
      rw [if_neg (by simp [e1])] at h1'
      rw [if_neg (by simp [e2])] at h2'
      simp only [List.length_cons, Nat.add_right_cancel_iff] at ha hb hc
      exact lexO_trans ha hb hc (fun u hu => ra u (List.mem_cons_of_mem _ hu)) (fun u hu => rb u (List.mem_cons_of_mem _ hu)) (fun u hu => rc u (List.mem_cons_of_mem _ hu)) h1' h2'
end Go.Proofs.YtmjmijjbijlhfaaGreatDoor
namespace Go.Proofs.YtmjmijjbijlhfaaGreatDoor
open Go.RowKit
/-- Two cells swapped. -/
def sw1 (D : List Nat) (i j : Nat) : List Nat := (D.set i (D.getD j 0)).set j (D.getD i 0)
theorem sw1_length (D : List Nat) (i j : Nat) : (sw1 D i j).length = D.length := by simp [sw1]
theorem sw1_mid (p q r : List Nat) (x y : Nat) {i j : Nat} (hi : i = p.length) (hj : j = p.length + 1 + q.length) : sw1 (p ++ x :: (q ++ y :: r)) i j = p ++ y :: (q ++ x :: r) := by
  subst hi hj
  have h1 : (p ++ x :: (q ++ y :: r)).getD p.length 0 = x := by simp
  have h2 : (p ++ x :: (q ++ y :: r)).getD (p.length + 1 + q.length) 0 = y := by
    have : p ++ x :: (q ++ y :: r) = (p ++ x :: q) ++ y :: r := by simp
    rw [this]
    have hl : p.length + 1 + q.length = (p ++ x :: q).length := by simp; omega
    rw [hl]; simp
  unfold sw1
  rw [h1, h2]
  rw [List.set_append_right _ _ (Nat.le_refl _), Nat.sub_self, List.set_cons_zero]
  have : p ++ y :: (q ++ y :: r) = (p ++ y :: q) ++ y :: r := by simp
  rw [this, List.set_append_right _ _ (by simp; omega)]
  rw [show p.length + 1 + q.length - (p ++ y :: q).length = 0 by simp; omega, List.set_cons_zero]
  simp
/-- Ranges swapped, cell by cell. -/
def swp (D : List Nat) (a b : Nat) : Nat → List Nat
  | 0 => D
  | i + 1 => sw1 (swp D a b i) (a + i) (b + i)
theorem swp_length (D : List Nat) (a b : Nat) : ∀ n, (swp D a b n).length = D.length
  | 0 => rfl
  | n + 1 => by rw [swp, sw1_length, swp_length]
theorem swp_mid : ∀ (n : Nat) (pre P M Q post : List Nat) {a b : Nat}, P.length = n → Q.length = n → a = pre.length → b = pre.length + n + M.length →
    swp (pre ++ (P ++ (M ++ (Q ++ post)))) a b n = pre ++ (Q ++ (M ++ (P ++ post)))
  | 0, pre, P, M, Q, post, a, b, hP, hQ, ha, hb => by
    rw [List.eq_nil_of_length_eq_zero hP, List.eq_nil_of_length_eq_zero hQ]; rfl
  | n + 1, pre, P, M, Q, post, a, b, hP, hQ, ha, hb => by
    obtain ⟨P', p, rfl⟩ : ∃ P' p, P = P' ++ [p] := ⟨P.dropLast, P.getLast (by intro e; subst e; simp at hP), (List.dropLast_concat_getLast _).symm⟩
    obtain ⟨Q', q, rfl⟩ : ∃ Q' q, Q = Q' ++ [q] := ⟨Q.dropLast, Q.getLast (by intro e; subst e; simp at hQ), (List.dropLast_concat_getLast _).symm⟩
    simp only [List.length_append, List.length_singleton, Nat.add_right_cancel_iff] at hP hQ
    have h := swp_mid n pre P' (p :: M) Q' (q :: post) (a := a) (b := b) hP hQ ha (by simp; omega)
    rw [swp]
    have e1 : pre ++ (P' ++ [p] ++ (M ++ (Q' ++ [q] ++ post))) = pre ++ (P' ++ (p :: M ++ (Q' ++ q :: post))) := by simp
    rw [e1, h]
    have e2 : pre ++ (Q' ++ (p :: M ++ (P' ++ q :: post))) = (pre ++ Q') ++ p :: ((M ++ P') ++ q :: post) := by simp
    rw [e2, sw1_mid (pre ++ Q') (M ++ P') post p q (by simp; omega) (by simp; omega)]
    simp
section
variable {lt : Nat → Nat → Bool} (h : Swo lt)
include h
theorem pw_mid {X Y : List Nat} (hX : X.Pairwise (Lx lt)) (hY : Y.Pairwise (Lx lt)) (hb : ∀ x, X.getLast? = some x → ∀ y, Y.head? = some y → Lx lt x y) : (X ++ Y).Pairwise (Lx lt) := by
  rw [List.pairwise_append]
  refine ⟨hX, hY, fun x hx y hy => ?_⟩
  obtain ⟨X', l, rfl⟩ : ∃ X' l, X = X' ++ [l] := ⟨X.dropLast, X.getLast (by intro e; subst e; cases hx), (List.dropLast_concat_getLast _).symm⟩
  obtain ⟨f, Y', rfl⟩ : ∃ f Y', Y = f :: Y' := by
    cases Y with
    | nil => cases hy
    | cons f Y' => exact ⟨f, Y', rfl⟩
  have hlf := hb l (by simp) f rfl
  have h1 : x = l ∨ Lx lt x l := by
    rcases List.mem_append.1 hx with hx | hx
    · right; exact (List.pairwise_append.1 hX).2.2 x hx l (by simp)
    · left; simpa using hx
  have h2 : y = f ∨ Lx lt f y := by
    rcases List.mem_cons.1 hy with hy | hy
    · left; exact hy
    · right; exact (List.pairwise_cons.1 hY).1 y hy
  have h3 : Lx lt x f := by
    rcases h1 with rfl | h1
    · exact hlf
    · exact Lx.tr h h1 hlf
  rcases h2 with rfl | h2
  · exact h3
  · exact Lx.tr h h3 h2
/-- One place into a list that rises. -/
theorem pw_insert {X Y : List Nat} {x : Nat} (hXY : (X ++ Y).Pairwise (Lx lt)) (h1 : ∀ l, X.getLast? = some l → Lx lt l x) (h2 : ∀ f, Y.head? = some f → Lx lt x f) : (X ++ x :: Y).Pairwise (Lx lt) := by
  obtain ⟨hX, hY, hc⟩ := List.pairwise_append.1 hXY
  have hxY : (x :: Y).Pairwise (Lx lt) := by
    have := pw_mid h (X := [x]) (Y := Y) (List.pairwise_singleton _ _) hY (fun a ha y hy => by
      obtain rfl : x = a := by simpa using ha
      exact h2 y hy)
    simpa using this
  exact pw_mid h hX hxY fun l hl y hy => by
    obtain rfl : x = y := by simpa using hy
    exact h1 l hl
/-- Four parts, of which the second and the third are turned: the first two stand ahead of the last two. -/
theorem cross_parts {X1 X2 Y1 Y2 : List Nat} (hX : (X1 ++ X2).Pairwise (Lx lt)) (hY : (Y1 ++ Y2).Pairwise (Lx lt))
    (b1 : ∀ x, X1.getLast? = some x → ∀ y, Y2.head? = some y → Lx lt x y) (b2 : ∀ y, Y1.getLast? = some y → ∀ x, X2.head? = some x → Lx lt y x) :
    ∀ u ∈ X1 ++ Y1, ∀ v ∈ X2 ++ Y2, Lx lt u v := by
  obtain ⟨x1, x2, xc⟩ := List.pairwise_append.1 hX
  obtain ⟨y1, y2, yc⟩ := List.pairwise_append.1 hY
  have p := (List.pairwise_append.1 (pw_mid h x1 y2 b1)).2.2
  have q := (List.pairwise_append.1 (pw_mid h y1 x2 b2)).2.2
  intro u hu v hv
  rcases List.mem_append.1 hu with hu | hu <;> rcases List.mem_append.1 hv with hv | hv
  · exact xc u hu v hv
  · exact p u hu v hv
  · exact q u hu v hv
  · exact yc u hu v hv
end
/-- A part of a list. -/
def seg (D : List Nat) (a b : Nat) : List Nat := (D.take b).drop a
theorem seg_length {D : List Nat} {a b : Nat} (hb : b ≤ D.length) : (seg D a b).length = b - a := by simp [seg]; omega
theorem seg_split {D : List Nat} {a b : Nat} (hab : a ≤ b) : D = D.take a ++ (seg D a b ++ D.drop b) := by
  unfold seg
  have h1 : D.take a = (D.take b).take a := by rw [List.take_take, Nat.min_eq_left hab]
  rw [h1, ← List.append_assoc, List.take_append_drop, List.take_append_drop]
theorem seg_of {pre Z post : List Nat} {a b : Nat} (ha : a = pre.length) (hb : b = pre.length + Z.length) : seg (pre ++ (Z ++ post)) a b = Z := by
  subst ha hb
  unfold seg
  rw [← List.append_assoc, List.take_append_of_le_length (by simp), show pre.length + Z.length = (pre ++ Z).length by simp, List.take_length, List.drop_left]
theorem seg_seg {D : List Nat} {a m b : Nat} (h1 : a ≤ m) (h2 : m ≤ b) : seg D a b = seg D a m ++ seg D m b := by
  unfold seg
  have e1 : D.take m = (D.take b).take m := by rw [List.take_take, Nat.min_eq_left h2]
  rw [e1]
  generalize D.take b = E
  have : E.drop a = ((E.take m).drop a) ++ E.drop m := by
    conv => lhs; rw [← List.take_append_drop m E]
    rw [List.drop_append]
    by_cases hm : m ≤ E.length
    · rw [show a - (E.take m).length = 0 by simp; omega]; rfl
    · rw [List.drop_eq_nil_of_le (show E.length ≤ m by omega)]; simp
  exact this
/-- These places stand here, in order. -/
def Srt (lt : Nat → Nat → Bool) (D : List Nat) (a b : Nat) : Prop := (seg D a b).Perm (List.range' a (b - a)) ∧ (seg D a b).Pairwise (Lx lt)
end Go.Proofs.YtmjmijjbijlhfaaGreatDoor
namespace Go.Proofs.YtmjmijjbijlhfaaGreatDoor
open Go.RowKit
def insL (lt : Nat → Nat → Bool) (i : Nat) : List Nat → List Nat
  | [] => [i]
  | x :: l => if lt i x then i :: x :: l else x :: insL lt i l
def sortN (lt : Nat → Nat → Bool) : Nat → List Nat
  | 0 => []
  | n + 1 => insL lt n (sortN lt n)
theorem insL_perm (lt : Nat → Nat → Bool) (i : Nat) : ∀ l, (insL lt i l).Perm (i :: l)
  | [] => List.Perm.refl _
  | x :: l => by
    unfold insL
    split
    · exact List.Perm.refl _
    · exact (List.Perm.cons x (insL_perm lt i l)).trans (List.Perm.swap i x l)
section
variable {lt : Nat → Nat → Bool} (h : Swo lt)
include h
theorem insL_sorted {i : Nat} : ∀ {l : List Nat}, (∀ x ∈ l, x < i) → l.Pairwise (Lx lt) → (insL lt i l).Pairwise (Lx lt)
  | [], _, _ => List.pairwise_singleton _ _
  | x :: l, hl, hs => by
    obtain ⟨h1, h2⟩ := List.pairwise_cons.1 hs
    unfold insL
    split
    · rename_i hi
      refine List.pairwise_cons.2 ⟨fun y hy => ?_, hs⟩
      rcases List.mem_cons.1 hy with rfl | hy
      · exact Or.inl hi
      · exact Lx.tr h (Or.inl hi) (h1 y hy)
    · rename_i hi
      have hi : lt i x = false := by simpa using hi
      refine List.pairwise_cons.2 ⟨fun y hy => ?_, insL_sorted (fun y hy => hl y (List.mem_cons_of_mem _ hy)) h2⟩
      rcases List.mem_cons.1 ((insL_perm lt i l).mem_iff.1 hy) with rfl | hy
      · exact Lx.of_not (hl x (by simp)) hi
      · exact h1 y hy
theorem sortN_spec : ∀ n, (sortN lt n).Perm (List.range n) ∧ (sortN lt n).Pairwise (Lx lt)
  | 0 => ⟨List.Perm.refl _, List.Pairwise.nil⟩
  | n + 1 => by
    obtain ⟨p, s⟩ := sortN_spec n
    refine ⟨?_, insL_sorted h (fun x hx => by have := p.mem_iff.1 hx; simpa using this) s⟩
    rw [List.range_succ]
    exact (insL_perm lt n _).trans ((List.Perm.cons n p).trans (List.perm_append_singleton n _).symm)
theorem sortN_one {n : Nat} {l : List Nat} (hp : l.Perm (List.range n)) (hs : l.Pairwise (Lx lt)) : l = sortN lt n :=
  Lx.one h hs (sortN_spec h n).2 (hp.trans (sortN_spec h n).1.symm)
end
theorem sortN_length (lt : Nat → Nat → Bool) : ∀ n, (sortN lt n).length = n
  | 0 => rfl
  | n + 1 => by
    have := (insL_perm lt n (sortN lt n)).length_eq
    rw [List.length_cons, sortN_length lt n] at this
    exact this
end Go.Proofs.YtmjmijjbijlhfaaGreatDoor
namespace Go.Proofs.YtmjmijjbijlhfaaGreatDoor
open Go.RowKit
/-- No smaller place is like this one. -/
def firstB (lt : Nat → Nat → Bool) (i : Nat) : Bool := (List.range i).all fun j => lt j i || lt i j
def uniqL (lt : Nat → Nat → Bool) (n : Nat) : List Nat := (List.range n).filter (firstB lt)
/-- Of a list those that are not like the one ahead, up to place k. -/
def fstK (ne : Nat → Nat → Bool) (l : List Nat) : Nat → List Nat
  | 0 => l.take 1
  | k + 1 => fstK ne l k ++ if ne (l.getD k 0) (l.getD (k + 1) 0) then [l.getD (k + 1) 0] else []
theorem fstK_sub (ne : Nat → Nat → Bool) {l : List Nat} : ∀ {k : Nat}, k < l.length → (fstK ne l k).Sublist (l.take (k + 1))
  | 0, _ => List.Sublist.refl _
  | k + 1, hk => by
    rw [fstK, List.take_add_one (l := l) (i := k + 1)]
    refine List.Sublist.append (fstK_sub ne (by omega)) ?_
    have e : l[k + 1]? = some (l.getD (k + 1) 0) := by simp [List.getD, hk]
    rw [e]
    split
    · exact List.Sublist.refl _
    · exact List.nil_sublist _
theorem fstK_length (ne : Nat → Nat → Bool) {l : List Nat} {k : Nat} (hk : k < l.length) : 1 ≤ (fstK ne l k).length ∧ (fstK ne l k).length ≤ k + 1 := by
  constructor
  · induction k with
    | zero => rw [fstK, List.length_take]; omega
    | succ k ih => have := ih (by omega); rw [fstK, List.length_append]; omega
  · have := (fstK_sub ne hk).length_le
    rw [List.length_take] at this; omega
theorem fstK_mem (ne : Nat → Nat → Bool) {l : List Nat} {x : Nat} : ∀ {k : Nat}, k < l.length → (x ∈ fstK ne l k ↔ ∃ i, i ≤ k ∧ l[i]? = some x ∧ (i = 0 ∨ ∃ p, l[i - 1]? = some p ∧ ne p x = true))
  | 0, hk => by
    rw [fstK]
    constructor
    · intro h
      refine ⟨0, Nat.le_refl _, ?_, Or.inl rfl⟩
      obtain ⟨i, hi⟩ := List.mem_iff_getElem?.1 h
      rw [List.getElem?_take] at hi
      split at hi
      · rw [show i = 0 by omega] at hi; exact hi
      · cases hi
    · rintro ⟨i, hi, hx, _⟩
      obtain rfl : i = 0 := by omega
      refine List.mem_of_getElem? (i := 0) ?_
      rw [List.getElem?_take, if_pos (by omega)]; exact hx
  | k + 1, hk => by
    have e0 : l[k]? = some (l.getD k 0) := by simp [List.getD, show k < l.length by omega]
    have e1 : l[k + 1]? = some (l.getD (k + 1) 0) := by simp [List.getD, hk]
    rw [fstK, List.mem_append, fstK_mem ne (show k < l.length by omega)]
    constructor
    · rintro (⟨i, hi, hx, hp⟩ | h)
      · exact ⟨i, by omega, hx, hp⟩
      · split at h
        · rename_i hne
          obtain rfl := List.mem_singleton.1 h
          exact ⟨k + 1, Nat.le_refl _, e1, Or.inr ⟨_, e0, hne⟩⟩
        · cases h
    · rintro ⟨i, hi, hx, hp⟩
      by_cases hik : i = k + 1
      · subst hik
        right
        rw [e1] at hx
        have hx' : l.getD (k + 1) 0 = x := Option.some.inj hx
        rcases hp with hp | ⟨p, hp, hne⟩
        · omega
        · rw [show k + 1 - 1 = k by omega, e0] at hp
          have hp' : l.getD k 0 = p := Option.some.inj hp
          rw [hx', hp', if_pos hne]; exact List.mem_singleton.2 rfl
      · exact Or.inl ⟨i, by omega, hx, hp⟩
theorem uniq_sorted (lt : Nat → Nat → Bool) (n : Nat) : (uniqL lt n).Pairwise (· < ·) := List.Pairwise.filter _ List.pairwise_lt_range
theorem uniq_mem {lt : Nat → Nat → Bool} {n x : Nat} : x ∈ uniqL lt n ↔ x < n ∧ ∀ j, j < x → lt j x = true ∨ lt x j = true := by
  unfold uniqL firstB
  rw [List.mem_filter, List.mem_range, List.all_eq_true]
  simp only [List.mem_range, Bool.or_eq_true]
section
variable {lt : Nat → Nat → Bool} (h : Swo lt)
include h
theorem first_iff {ne : Nat → Nat → Bool} (hne : ∀ i j, ne i j = (lt i j || lt j i)) {n : Nat} (hn : 0 < n) (x : Nat) : x ∈ fstK ne (sortN lt n) (n - 1) ↔ x ∈ uniqL lt n := by
  obtain ⟨hp, hs⟩ := sortN_spec h n
  have hl : (sortN lt n).length = n := sortN_length lt n
  generalize sortN lt n = l at *
  rw [fstK_mem ne (by omega), uniq_mem]
  have hord : ∀ {i j a b : Nat}, i < j → l[i]? = some a → l[j]? = some b → Lx lt a b := by
    intro i j a b hij ha hb
    obtain ⟨h1, rfl⟩ := List.getElem?_eq_some_iff.1 ha
    obtain ⟨h2, rfl⟩ := List.getElem?_eq_some_iff.1 hb
    exact List.pairwise_iff_getElem.1 hs i j h1 h2 hij
  constructor
  · rintro ⟨i, hi, hx, hd⟩
    have hxl := List.mem_of_getElem? hx
    have hxn : x < n := by have := hp.mem_iff.1 hxl; simpa using this
    refine ⟨hxn, fun j hj => ?_⟩
    have hjl : j ∈ l := hp.mem_iff.2 (by simp; omega)
    obtain ⟨k, hk⟩ := List.mem_iff_getElem?.1 hjl
    rcases Nat.lt_trichotomy k i with hki | hki | hki
    · rcases hd with hd | ⟨p, hpp, hd⟩
      · omega
      · rw [hne] at hd
        have hpx : Lx lt p x := hord (show i - 1 < i by omega) hpp hx
        have l1 : lt x p = false := Lx.le h hpx
        rw [l1, Bool.or_false] at hd
        have hjp : lt p j = false := by
          by_cases hk1 : k = i - 1
          · rw [hk1, hpp] at hk
            have hjq : p = j := Option.some.inj hk
            subst hjq
            cases hc : lt p p with
            | false => rfl
            | true => have := h.asym _ _ hc; rw [hc] at this; cases this
          · exact Lx.le h (hord (show k < i - 1 by omega) hk hpp)
        left
        cases hc : lt j x with
        | true => rfl
        | false =>
          -- x not above j, j not above p: p stands ahead of x
          exfalso
          have := h.trans _ _ _ hc hjp
          rw [hd] at this; cases this
    · rw [hki, hx] at hk
      have := Option.some.inj hk; omega
    · right
      rcases hord hki hx hk with h1 | h1
      · exact h1
      · omega
  · rintro ⟨hxn, hall⟩
    have hxl : x ∈ l := hp.mem_iff.2 (by simpa using hxn)
    obtain ⟨i, hi⟩ := List.mem_iff_getElem?.1 hxl
    have hil := (List.getElem?_eq_some_iff.1 hi).1
    refine ⟨i, by omega, hi, ?_⟩
    by_cases h0 : i = 0
    · exact Or.inl h0
    · right
      obtain ⟨p, hpp⟩ : ∃ p, l[i - 1]? = some p := ⟨_, List.getElem?_eq_getElem (by omega)⟩
      refine ⟨p, hpp, ?_⟩
      rw [hne]
      rcases hord (show i - 1 < i by omega) hpp hi with h1 | ⟨h1, h2⟩
      · rw [h1]; rfl
      · rcases hall p h2 with h3 | h3
        · rw [h3]; rfl
        · rw [h1] at h3; cases h3
theorem uniq_one {ne : Nat → Nat → Bool} (hne : ∀ i j, ne i j = (lt i j || lt j i)) {n : Nat} (hn : 0 < n) {S : List Nat} (hS : S.Pairwise (· ≤ ·)) (hp : S.Perm (fstK ne (sortN lt n) (n - 1))) : S = uniqL lt n := by
  have hnd : (sortN lt n).Nodup := (sortN_spec h n).1.nodup_iff.2 List.nodup_range
  have h1 : (fstK ne (sortN lt n) (n - 1)).Nodup := by
    refine List.Nodup.sublist (fstK_sub ne (by rw [sortN_length]; omega)) ?_
    exact List.Nodup.sublist (List.take_sublist _ _) hnd
  have h2 : (uniqL lt n).Nodup := (uniq_sorted lt n).imp (fun h => Nat.ne_of_lt h)
  have h3 : (fstK ne (sortN lt n) (n - 1)).Perm (uniqL lt n) := (List.perm_ext_iff_of_nodup h1 h2).2 (first_iff h hne hn)
  exact List.Perm.eq_of_pairwise (fun a b _ _ k1 k2 => Nat.le_antisymm k1 k2) hS ((uniq_sorted lt n).imp (fun h => Nat.le_of_lt h)) (hp.trans h3)
end
end Go.Proofs.YtmjmijjbijlhfaaGreatDoor
namespace Go.Proofs.YtmjmijjbijlhfaaGreatDoor
open Go.RowKit NM
/-- Any array, and where its values lie. -/
structure GA where
  r : Int
  c : Int
  A : Option Addr
  n : Nat
  cap : Nat
  l : List Val
def GA.cells (g : GA) : List Value := [.int .i64 g.r, .int .i64 g.c, .slice g.A g.n g.cap]
def gcells (gs : List GA) : List Value := gs.flatMap GA.cells
def GA.right (g : GA) : Bool := rightA g.r g.c g.l
def Ar.toG (a : Ar) : GA := ⟨a.x.R, a.x.C, a.A, a.n, a.cap, a.x.l⟩
def GAt (w : World) (b o : Nat) (g : GA) : Prop :=
  w.cell? ⟨b, o, none⟩ = some (.int .i64 g.r) ∧ w.cell? ⟨b, o + 1, none⟩ = some (.int .i64 g.c) ∧ w.cell? ⟨b, o + 2, none⟩ = some (.slice g.A g.n g.cap)
theorem gcells_at : ∀ (gs : List GA) (i : Nat) (g : GA), gs[i]? = some g → ∀ j, j < 3 → (gcells gs)[i * 3 + j]? = g.cells[j]?
  | [], i, x, h, j, hj => by simp at h
  | y :: l, 0, x, h, j, hj => by
    obtain rfl : y = x := by simpa using h
    rw [gcells, List.flatMap_cons, List.getElem?_append_left (by simp [GA.cells]; omega)]
    simp
  | y :: l, i + 1, x, h, j, hj => by
    rw [gcells, List.flatMap_cons, List.getElem?_append_right (by simp [GA.cells]; omega)]
    rw [show (i + 1) * 3 + j - y.cells.length = i * 3 + j by simp [GA.cells]; omega]
    exact gcells_at l i x (by simpa using h) j hj
structure ArgsG (w : World) (A : Option Addr) (n cap : Nat) (gs : List GA) : Prop where
  rd : Rd 0 w A (gcells gs)
  len : gs.length = n
  cap : n ≤ cap
  small : n ≤ 9223372036854775807
  all : ∀ g ∈ gs, ArrIn w g.A g.n g.cap g.l
theorem ArgsG.get {w : World} {A : Option Addr} {n cap : Nat} {gs : List GA} (h : ArgsG w A n cap gs) {k : Nat} {g : GA} (hk : gs[k]? = some g) :
    ∃ b off, A = some ⟨b, off, none⟩ ∧ GAt w b (off + k * 3) g ∧ ArrIn w g.A g.n g.cap g.l := by
  have hc : ∀ j, j < 3 → (gcells gs)[k * 3 + j]? = g.cells[j]? := gcells_at gs k g hk
  obtain ⟨b, off, rfl, _, h0⟩ := h.rd (k * 3 + 0) (.int .i64 g.r) (by rw [hc 0 (by omega)]; rfl)
  refine ⟨b, off, rfl, ?_, h.all g (List.mem_of_getElem? hk)⟩
  have hg : ∀ j u, j < 3 → g.cells[j]? = some u → w.cell? ⟨b, off + k * 3 + j, none⟩ = some u := fun j u hj hu => by
    obtain ⟨b', off', he, _, h1⟩ := h.rd (k * 3 + j) u (by rw [hc j hj]; exact hu)
    simp only [Option.some.injEq, Addr.mk.injEq, and_true] at he
    obtain ⟨rfl, rfl⟩ := he
    rw [← h1]; congr 2; omega
  exact ⟨hg 0 _ (by omega) rfl, hg 1 _ (by omega) rfl, hg 2 _ (by omega) rfl⟩
theorem ArgsG.at {w : World} {A : Option Addr} {n cap : Nat} {gs : List GA} (h : ArgsG w A n cap gs) {k : Nat} (hk : k < n) :
    ∃ g b off, gs[k]? = some g ∧ A = some ⟨b, off, none⟩ ∧ GAt w b (off + k * 3) g ∧ ArrIn w g.A g.n g.cap g.l := by
  have hl : k < gs.length := by rw [h.len]; exact hk
  obtain ⟨b, off, e, h1, h2⟩ := h.get (List.getElem?_eq_getElem hl)
  exact ⟨_, b, off, List.getElem?_eq_getElem hl, e, h1, h2⟩
theorem rightA_shape {r c : Int} {l : List Val} (h : rightA r c l = true) : ∃ R C : Nat, r = (R : Int) ∧ c = (C : Int) := by
  unfold rightA at h
  simp only [Bool.and_eq_true] at h
  have := fits_mul h.1.1
  exact ⟨r.toNat, c.toNat, by omega, by omega⟩
theorem gcells_toG : ∀ xs : List Ar, gcells (xs.map Ar.toG) = acells xs
  | [] => rfl
  | a :: xs => by
    show GA.cells (Ar.toG a) ++ gcells (xs.map Ar.toG) = Ar.cells a ++ acells xs
    rw [gcells_toG xs]; rfl
theorem ArgsG.toIn {w : World} {A : Option Addr} {n cap : Nat} {xs : List Ar} (h : ArgsG w A n cap (xs.map Ar.toG)) (hr : ∀ a ∈ xs, a.x.right) : ArgsIn w A n cap xs :=
  ⟨by rw [← gcells_toG]; exact h.rd, by rw [← h.len, List.length_map], h.cap, h.small, fun a ha => ⟨h.all a.toG (List.mem_map.2 ⟨a, ha, rfl⟩), hr a ha⟩⟩
theorem ArgsIn.toG {w : World} {A : Option Addr} {n cap : Nat} {xs : List Ar} (h : ArgsIn w A n cap xs) : ArgsG w A n cap (xs.map Ar.toG) :=
  ⟨by rw [gcells_toG]; exact h.rd, by rw [List.length_map]; exact h.len, h.cap, h.small, fun g hg => by obtain ⟨a, ha, rfl⟩ := List.mem_map.1 hg; exact (h.all a ha).arr⟩
/-- What Call tells of a function that there is, of so many arguments, each of which may be or not. -/
def callX (lo hi : Nat) (gs : List GA) (F : NA) : NA :=
  if gs.length < lo ∨ hi < gs.length then aloneO 2 else if gs.all GA.right then F else aloneO 9
end Go.Proofs.YtmjmijjbijlhfaaGreatDoor
namespace Go.Proofs.YtmjmijjbijlhfaaGreatDoor
open Go.RowKit
theorem getV_lt {l : List Val} {t : Nat} (h : t < l.length) : getV l t = l[t] := by simp [getV, List.getElem?_eq_getElem h]
theorem div_mod_at {C t : Nat} : t / C * C + t % C = t := by rw [Nat.mul_comm]; exact Nat.div_add_mod t C
theorem vals_self (R C : Nat) (l : List Val) (h : l.length = R * C) : vals (fun i j => getV l (i * C + j)) C (R * C) = l := by
  apply List.ext_getElem
  · rw [vals_length, h]
  · intro t h1 h2
    simp only [vals, List.getElem_map, List.getElem_range]
    rw [div_mod_at, getV_lt h2]
theorem turn_at (R C : Nat) (l : List Val) {i j : Nat} (hi : i < C) (hj : j < R) : getV (turnL R C l) (i * R + j) = getV l (j * C + i) := getV_vals _ hi hj
theorem turnL_length (R C : Nat) (l : List Val) : (turnL R C l).length = C * R := vals_length _ _ _
theorem turn_turn (R C : Nat) (l : List Val) (h : l.length = R * C) : turnL C R (turnL R C l) = l := by
  conv => rhs; rw [← vals_self R C l h]
  rw [turnL]
  exact vals_congr fun i j hi hj => turn_at R C l hj hi
theorem getV_all {P : Val → Prop} {l : List Val} {k : Nat} (h : ∀ x ∈ l, P x) (hk : k < l.length) : P (getV l k) := h _ (getV_mem hk)
theorem turn_all {P : Val → Prop} {R C : Nat} {l : List Val} (hl : l.length = R * C) (h : ∀ x ∈ l, P x) : ∀ x ∈ turnL R C l, P x := by
  intro x hx
  unfold turnL vals at hx
  obtain ⟨t, ht, rfl⟩ := List.mem_map.1 hx
  have ht' : t < C * R := List.mem_range.1 ht
  have hR : 0 < R := by rcases Nat.eq_zero_or_pos R with rfl | h; · simp at ht'
                        · exact h
  refine getV_all h ?_
  rw [hl]
  have h1 : t / R < C := Nat.div_lt_of_lt_mul (by rw [Nat.mul_comm]; exact ht')
  have h2 : t % R < R := Nat.mod_lt _ hR
  calc t % R * C + t / R < t % R * C + C := by omega
    _ = (t % R + 1) * C := by rw [Nat.succ_mul]
    _ ≤ R * C := Nat.mul_le_mul_right _ h2
theorem turn_right {R C : Nat} {l : List Val} (h : rightA R C l = true) : rightA C R (turnL R C l) = true := by
  obtain ⟨a1, a2, a3, a4, a5⟩ := rightA_nat.1 h
  exact rightA_nat.2 ⟨a2, a1, by rw [Nat.mul_comm]; exact a3, turnL_length _ _ _, turn_all a4 a5⟩
end Go.Proofs.YtmjmijjbijlhfaaGreatDoor
namespace Go.Proofs.YtmjmijjbijlhfaaGreatDoor
open Go.RowKit
theorem new_cells_at (w : World) (n : Nat) (cs : List Value) {C : Array Value} (hn : n = w.heap.size) (hC : C = cs.toArray) (ty : TypeId) : ∀ j u, cs[j]? = some u → (w.alloc (.cells C ty)).cell? ((⟨n, 0, none⟩ : Addr).add j) = some u := by
  subst hn hC; exact new_cells w cs ty
theorem own_slice {w : World} {base : Nat} {e : TypeId} {size n : Nat} {v : Value} {xs : List Value} (h : w.ownsRow base e size v n xs) : ∃ A c, v = .slice A n c := by
  rcases h.2 with ⟨rfl, rfl⟩ | ⟨g, cap, cur, rfl, _⟩
  · exact ⟨_, _, rfl⟩
  · exact ⟨_, _, rfl⟩
theorem own_ext {w w1 : World} {base : Nat} {e : TypeId} {size n : Nat} {v : Value} {xs : List Value} (h : w.ownsRow base e size v n xs) (hx : Ext w w1) : w1.ownsRow base e size v n xs := by
  refine ⟨h.1, ?_⟩
  rcases h.2 with h2 | ⟨g, cap, cur, hv, hg, hh, r⟩
  · exact .inl h2
  · refine .inr ⟨g, cap, cur, hv, hg, ?_, r⟩
    rw [hx.block ?_]; exact hh
    rcases Nat.lt_or_ge g w.heap.size with hl | hl
    · exact hl
    · rw [Array.getElem?_eq_none hl] at hh; cases hh
theorem own_block {w : World} {base : Nat} {e : TypeId} {size n : Nat} {v : Value} {xs : List Value} (h : w.ownsRow base e size v n xs) : ∀ k, v.ownBlock = some k → base ≤ k := by
  intro k hk
  rcases h.2 with ⟨rfl, _⟩ | ⟨g, cap, cur, rfl, hg, _⟩
  · cases hk
  · simp only [Value.ownBlock, Option.some.injEq] at hk; omega
theorem lt_of_block {w : World} {b : Nat} {o : Obj} (h : w.heap[b]? = some o) : b < w.heap.size := by
  rcases Nat.lt_or_ge b w.heap.size with hl | hl
  · exact hl
  · rw [Array.getElem?_eq_none hl] at h; cases h
end Go.Proofs.YtmjmijjbijlhfaaGreatDoor
namespace Go.Proofs.YtmjmijjbijlhfaaGreatDoor
open Go.RowKit NM
@[go_sem] theorem run_field_L (r c : Int) (s : Value) (w : World) : (Instr.field 31 (AV r c s) 2).run Tryz.prog w = .ok s w := by
  first | rfl | kernel_rfl
/-- An array turned. -/
def turnN (a : NA) : NA := ⟨a.C, a.R, turnL a.R a.C a.l⟩
theorem turnN_right {a : NA} (h : a.right) : (turnN a).right := turn_right h
theorem turn_res (a : NA) (A : Option Addr) (n cap : Nat) (w : World) (h : ArrIn w A n cap a.l) (hr : a.right) :
    Calls Tryz.prog 52 #[AV a.R a.C (.slice A n cap)] w fun e w' => ResA w (turnN a) e w' := by
  refine (turn_yes a.R a.C A n cap a.l w h hr).mono ?_
  rintro e w' ⟨⟨D, c, rfl, hs, hc⟩, hX⟩
  obtain ⟨a1, a2, a3, a4, a5⟩ := rightA_nat.1 hr
  exact ⟨D, _, c, rfl, ⟨hs, rfl, hc, by rw [turnL_length]; rw [Nat.mul_comm] at a3; omega, turn_all a4 h.ok⟩, hX⟩
end Go.Proofs.YtmjmijjbijlhfaaGreatDoor
namespace Go.Proofs.YtmjmijjbijlhfaaGreatDoor
open Go.RowKit NM
def rowL (C : Nat) (l : List Val) (r : Nat) : List Val := (l.drop (r * C)).take C
/-- An array's rows at these places. -/
def rowsN (a : NA) (ps : List Nat) : NA := ⟨ps.length, a.C, ps.flatMap (rowL a.C a.l)⟩
def plc (ps : List Nat) (i : Nat) : Nat := (ps[i]?).getD 0
theorem plc_map (ps : List Nat) : (List.range ps.length).map (plc ps) = ps := by
  refine List.ext_getElem? fun i => ?_
  rw [List.getElem?_map]
  rcases Nat.lt_or_ge i ps.length with h | h
  · rw [List.getElem?_range h]; simp [h, plc]
  · rw [List.getElem?_eq_none (by simpa using h), List.getElem?_eq_none h]; rfl
theorem flatMap_cong {α β : Type} {f g : α → List β} : ∀ {l : List α}, (∀ x ∈ l, f x = g x) → l.flatMap f = l.flatMap g
  | [], _ => rfl
  | y :: l, h => by rw [List.flatMap_cons, List.flatMap_cons, h y (by simp), flatMap_cong fun x hx => h x (List.mem_cons_of_mem _ hx)]
theorem plc_mem {ps : List Nat} {i : Nat} (h : i < ps.length) : plc ps i ∈ ps := by
  simp [plc, h]
theorem vals_block (g : Nat → Nat → Val) (C i : Nat) : ∀ k, k ≤ C → vals g C (i * C + k) = vals g C (i * C) ++ (List.range k).map (g i)
  | 0, _ => by simp
  | k + 1, h => by
    rw [← Nat.add_assoc, vals_succ g C i k (by omega), vals_block g C i k (by omega), List.range_succ, List.map_append, List.append_assoc]; rfl
theorem flat_vals (g : Nat → Nat → Val) (C : Nat) : ∀ n, (List.range n).flatMap (fun i => (List.range C).map (g i)) = vals g C (n * C)
  | 0 => by simp [vals]
  | n + 1 => by
    rw [List.range_succ, List.flatMap_append, flat_vals g C n, Nat.succ_mul, vals_block g C n C (Nat.le_refl _)]
    simp
theorem cell_lt {R C i j : Nat} (hi : i < R) (hj : j < C) : i * C + j < R * C := by
  calc i * C + j < i * C + C := by omega
    _ = (i + 1) * C := by rw [Nat.succ_mul]
    _ ≤ R * C := Nat.mul_le_mul_right _ hi
theorem rowL_range {R C r : Nat} {l : List Val} (hl : l.length = R * C) (hr : r < R) : rowL C l r = (List.range C).map fun j => getV l (r * C + j) := by
  refine List.ext_getElem? fun j => ?_
  unfold rowL
  rw [List.getElem?_take, List.getElem?_map]
  by_cases hj : j < C
  · have h1 : r * C + j < l.length := by rw [hl]; exact cell_lt hr hj
    rw [if_pos hj, List.getElem?_drop, List.getElem?_range hj]
    simp [getV, h1]
  · rw [if_neg hj, List.getElem?_eq_none (by simpa using Nat.not_lt.1 hj)]; rfl
theorem rowsN_l {a : NA} {ps : List Nat} (hl : a.l.length = a.R * a.C) (hp : ∀ r ∈ ps, r < a.R) : (rowsN a ps).l = vals (fun i j => getV a.l (plc ps i * a.C + j)) a.C (ps.length * a.C) := by
  rw [← flat_vals]
  show ps.flatMap (rowL a.C a.l) = _
  conv => lhs; rw [← plc_map ps]
  rw [List.flatMap_map]
  refine flatMap_cong fun i hi => ?_
  exact rowL_range hl (hp _ (plc_mem (List.mem_range.1 hi)))
theorem getV_allP {P : Val → Prop} {l : List Val} {k : Nat} (h : ∀ x ∈ l, P x) (hk : k < l.length) : P (getV l k) := h _ (getV_mem hk)
theorem vals_all {P : Val → Prop} {g : Nat → Nat → Val} {R C : Nat} (h : ∀ i j, i < R → j < C → P (g i j)) : ∀ x ∈ vals g C (R * C), P x := by
  intro x hx
  unfold vals at hx
  obtain ⟨t, ht, rfl⟩ := List.mem_map.1 hx
  have ht' : t < R * C := List.mem_range.1 ht
  have hC : 0 < C := by rcases Nat.eq_zero_or_pos C with rfl | h; · simp at ht'
                        · exact h
  exact h _ _ (Nat.div_lt_of_lt_mul (by rw [Nat.mul_comm]; exact ht')) (Nat.mod_lt _ hC)
theorem rowsN_all {P : Val → Prop} {a : NA} {ps : List Nat} (hl : a.l.length = a.R * a.C) (hp : ∀ r ∈ ps, r < a.R) (h : ∀ x ∈ a.l, P x) : ∀ x ∈ (rowsN a ps).l, P x := by
  rw [rowsN_l hl hp]
  exact vals_all fun i j hi hj => getV_allP h (by rw [hl]; exact cell_lt (hp _ (plc_mem hi)) hj)
theorem rowsN_right {a : NA} {ps : List Nat} (ha : a.right) (hp : ∀ r ∈ ps, r < a.R) (h1 : 1 ≤ ps.length) (h2 : ps.length ≤ a.R) : (rowsN a ps).right := by
  obtain ⟨a1, a2, a3, a4, a5⟩ := rightA_nat.1 ha
  refine rightA_nat.2 ⟨h1, a2, Nat.le_trans (Nat.mul_le_mul_right _ h2) a3, ?_, rowsN_all a4 hp a5⟩
  rw [rowsN_l a4 hp, vals_length]; rfl
/-- The places from one up to another. -/
def rng (lo hi : Nat) : List Nat := List.range' lo (hi - lo)
theorem rng_length (lo hi : Nat) : (rng lo hi).length = hi - lo := by simp [rng]
end Go.Proofs.YtmjmijjbijlhfaaGreatDoor
namespace Go.Proofs.YtmjmijjbijlhfaaGreatDoor
open Go.RowKit NM
/-- Is the argument of that place given? -/
def givenB (xs : List Ar) (k : Nat) : Bool := match xs[k]? with
  | none => false
  | some a => !(a.x.R == 1 && a.x.C == 1 && (getV a.x.l 0).kind == 0)
def argV (xs : List Ar) (k : Nat) : Val := match xs[k]? with
  | none => Val.zero
  | some a => getV a.x.l 0
def numO (xs : List Ar) (k : Nat) (left : Int) : Int × Int := if givenB xs k then wholeO (argV xs k) else (left, 0)
def argN (xs : List Ar) (k : Nat) : NA := match xs[k]? with
  | none => ⟨0, 0, []⟩
  | some a => a.x
/-- SEQUENCE: k + 1 values, and the last number. -/
def seqS (a s : Int × Int) : Nat → Option (List Val × (Int × Int))
  | 0 => some ([⟨1, a.1, a.2, ⟨#[]⟩, false, 0⟩], a)
  | k + 1 => match seqS a s k with
    | none => none
    | some (l, p) => match addS p.1 p.2 s.1 s.2 with
      | none => none
      | some q => some (l ++ [⟨1, q.1, q.2, ⟨#[]⟩, false, 0⟩], q)
theorem seqS_none {a s : Int × Int} {k : Nat} (h : seqS a s k = none) : ∀ j, seqS a s (k + j) = none
  | 0 => h
  | j + 1 => by
    rw [← Nat.add_assoc]
    unfold seqS
    rw [seqS_none h j]
theorem seqS_some {a s : Int × Int} : ∀ {k : Nat} {l : List Val} {p : Int × Int}, Rt a.1 a.2 → Rt s.1 s.2 → seqS a s k = some (l, p) → l.length = k + 1 ∧ Rt p.1 p.2 ∧ ∀ x ∈ l, x.right
  | 0, l, p, ha, hs, h => by
    simp only [seqS, Option.some.injEq, Prod.mk.injEq] at h
    obtain ⟨rfl, rfl⟩ := h
    refine ⟨rfl, ha, fun x hx => ?_⟩
    obtain rfl := List.mem_singleton.1 hx
    exact right_num ha
  | k + 1, l, p, ha, hs, h => by
    unfold seqS at h
    cases h1 : seqS a s k with
    | none => rw [h1] at h; cases h
    | some r =>
      obtain ⟨l1, p1⟩ := r
      rw [h1] at h
      simp only at h
      obtain ⟨i1, i2, i3⟩ := seqS_some ha hs h1
      cases h2 : addS p1.1 p1.2 s.1 s.2 with
      | none => rw [h2] at h; cases h
      | some q =>
        rw [h2] at h
        simp only [Option.some.injEq, Prod.mk.injEq] at h
        obtain ⟨rfl, rfl⟩ := h
        have hq := addS_rt h2
        refine ⟨by simp [i1], hq, fun x hx => ?_⟩
        rcases List.mem_append.1 hx with hx | hx
        · exact i3 x hx
        · obtain rfl := List.mem_singleton.1 hx
          exact right_num hq
/-- A number's argument, 1 if it is left out. -/
def tnO (xs : List Ar) (k : Nat) : (Int × Int) × Int := if givenB xs k then (tnP (argV xs k), tnF (argV xs k)) else ((1, 0), 0)
def seqT (m n : Int × Int) (a s : (Int × Int) × Int) : NA :=
  if m.2 ≠ 0 then aloneO m.2 else if n.2 ≠ 0 then aloneO n.2 else if a.2 ≠ 0 then aloneO a.2 else if s.2 ≠ 0 then aloneO s.2
  else if m.1 < 1 ∨ n.1 < 1 then aloneO 9 else if 4096 < m.1 * n.1 then aloneO 5
  else match seqS a.1 s.1 (m.1.toNat * n.1.toNat - 1) with
    | none => aloneO 5
    | some (l, _) => ⟨m.1.toNat, n.1.toNat, l⟩
def sequenceO (xs : List Ar) : NA := seqT (numO xs 0 1) (numO xs 1 1) (tnO xs 2) (tnO xs 3)
end Go.Proofs.YtmjmijjbijlhfaaGreatDoor
namespace Go.Proofs.YtmjmijjbijlhfaaGreatDoor
open Go.RowKit NM
def rowV (a : NA) (i : Nat) : List Val := (List.range a.C).map fun k => getV a.l (i * a.C + k)
def ltU (a : NA) (i j : Nat) : Bool := decide (lexO (rowV a i) (rowV a j) < 0)
theorem getV_right {l : List Val} (h : ∀ x ∈ l, x.right) (k : Nat) : (getV l k).right := by
  rcases Nat.lt_or_ge k l.length with hk | hk
  · exact h _ (getV_mem hk)
  · unfold getV; rw [List.getElem?_eq_none hk]; rfl
theorem rowV_length (a : NA) (i : Nat) : (rowV a i).length = a.C := by simp [rowV]
theorem rowV_right {a : NA} (ha : ∀ x ∈ a.l, x.right) (i : Nat) : ∀ x ∈ rowV a i, x.right := by
  intro x hx
  obtain ⟨k, _, rfl⟩ := List.mem_map.1 hx
  exact getV_right ha _
theorem rowV_get (a : NA) (i : Nat) {k : Nat} (hk : k < a.C) : getV (rowV a i) k = getV a.l (i * a.C + k) := by
  unfold getV rowV
  rw [List.getElem?_map, List.getElem?_range hk]
  rfl
theorem ltU_swo {a : NA} (ha : ∀ x ∈ a.l, x.right) : Swo (ltU a) := by
  refine ⟨fun i j h => ?_, fun i j k h1 h2 => ?_⟩
  · unfold ltU at *
    have h' := of_decide_eq_true h
    have := lexO_flip (rowV a i) (rowV a j)
    exact decide_eq_false (by omega)
  · unfold ltU at *
    have e1 := of_decide_eq_false h1
    have e2 := of_decide_eq_false h2
    have f1 := lexO_flip (rowV a i) (rowV a j)
    have f2 := lexO_flip (rowV a j) (rowV a k)
    have f3 := lexO_flip (rowV a i) (rowV a k)
    have := lexO_trans (rowV_length a i) (rowV_length a j) (rowV_length a k) (rowV_right ha i) (rowV_right ha j) (rowV_right ha k) (by omega) (by omega)
    exact decide_eq_false (by omega)
theorem lexO_at : ∀ {k : Nat} {l l' : List Val}, l.length = l'.length → k < l.length → (∀ t, t < k → ordV (getV l t) (getV l' t) = 0) → ordV (getV l k) (getV l' k) ≠ 0 → lexO l l' = ordV (getV l k) (getV l' k)
  | _, [], _, _, hk, _, _ => by simp at hk
  | _, _ :: _, [], hl, _, _, _ => by simp at hl
  | 0, x :: l, y :: l', _, _, _, h => by
    show (if ordV x y ≠ 0 then ordV x y else lexO l l') = ordV x y
    rw [if_pos (show ordV x y ≠ 0 from h)]
  | k + 1, x :: l, y :: l', hl, hk, ha, h => by
    show (if ordV x y ≠ 0 then ordV x y else lexO l l') = _
    have h0 : ordV x y = 0 := ha 0 (by omega)
    rw [if_neg (by simp [h0])]
    exact lexO_at (k := k) (by simpa using hl) (by simpa using hk) (fun t ht => ha (t + 1) (by omega)) h
theorem lexO_zero : ∀ {l l' : List Val}, (∀ t, t < l.length → ordV (getV l t) (getV l' t) = 0) → lexO l l' = 0
  | [], _, _ => by unfold lexO; rfl
  | _ :: _, [], _ => by unfold lexO; rfl
  | x :: l, y :: l', h => by
    show (if ordV x y ≠ 0 then ordV x y else lexO l l') = 0
    have h0 : ordV x y = 0 := h 0 (by simp)
    rw [if_neg (by simp [h0])]
    exact lexO_zero fun t ht => h (t + 1) (by simpa using ht)
theorem sortN_lt {lt : Nat → Nat → Bool} (h : Swo lt) {n : Nat} : ∀ r ∈ sortN lt n, r < n := fun r hr => List.mem_range.1 ((sortN_spec h n).1.mem_iff.1 hr)
def uniqueT (a : NA) : NA := rowsN a (uniqL (ltU a) a.R)
def uniqueO (xs : List Ar) : NA := uniqueT (argN xs 0)
theorem uniq_lt {lt : Nat → Nat → Bool} {n : Nat} : ∀ r ∈ uniqL lt n, r < n := fun _ hr => (uniq_mem.1 hr).1
theorem uniq_pos {lt : Nat → Nat → Bool} {n : Nat} (hn : 0 < n) : 1 ≤ (uniqL lt n).length := List.length_pos_of_mem (uniq_mem.2 ⟨hn, fun j hj => absurd hj (by omega)⟩ : 0 ∈ uniqL lt n)
theorem uniq_le (lt : Nat → Nat → Bool) (n : Nat) : (uniqL lt n).length ≤ n := by
  have := List.length_filter_le (firstB lt) (List.range n)
  rwa [List.length_range] at this
end Go.Proofs.YtmjmijjbijlhfaaGreatDoor
namespace Go.Proofs.YtmjmijjbijlhfaaGreatDoor
open Go.RowKit NM
theorem rsign_any (l m : Bool) (w : World) :
    Calls Tryz.prog 73 #[.bool l, .bool m] w fun e w' => e = .returned (.int .i64 (sgn2 l m)) ∧ Ext w w' := by
  cases l <;> cases m
  all_goals
    simp only [sgn2, if_true, Bool.false_eq_true, if_false]
    go_enter Tryz.func73, Tryz.ntmps73
    go_wp2_with fail
    go_ret
    exact ⟨rfl, by with_reducible repeat (first | exact Ext.refl _ | apply Ext.drew | apply Ext.alloc | apply Ext.more_)⟩
end Go.Proofs.YtmjmijjbijlhfaaGreatDoor
namespace Go.Proofs.YtmjmijjbijlhfaaGreatDoor
open Go.RowKit NM
set_option maxHeartbeats 1000000 in
theorem galone_any (f : Int) (w : World) : Calls Tryz.prog 29 #[.int .i64 f] w fun e w' => ResA w (aloneO f) e w' := by
  go_enter Tryz.func29, Tryz.ntmps29
  go_wp2_with (go_at_call 70; (with_reducible refine (bad_any _ _).mono ?_); rintro e w' ⟨rfl, hb⟩; obtain ⟨os, d, rfl⟩ := hb.more; clear hb)
  go_at_call 36
  refine (one_res (bad_ f) _ (ok_bad f) (right_bad f)).mono ?_
  rintro e w' ⟨D, m, cc, rfl, hD, hb⟩
  obtain ⟨os2, d2, rfl⟩ := hb.more
  clear hb
  have hDr := hD.rd
  go_wp2_with fail
  exact bodyPost_ret (v := AV (oneA (bad_ f)).R (oneA (bad_ f)).C (.slice D m cc)) (by simp [results, Tryz.results29, go_sem]) rfl ⟨D, m, cc, rfl, ⟨(by (try simp only [more_more] at hDr); (try simp only [drew_more] at hDr); (try simp only [more_drew] at hDr); (try simp only [Array.append_assoc] at hDr); exact Rd.swap hDr (by first | (simp; done) | (simp; omega) | omega) (by first | (simp; done) | (simp; omega) | omega) (by first | (simp; done) | (simp; omega) | omega)), hD.len, hD.cap, hD.small, hD.ok⟩, by with_reducible repeat (first | exact Ext.refl _ | apply Ext.drew | apply Ext.alloc | apply Ext.more_)⟩
abbrev gfnE (lo hi : Int) (f : Value) : Value := .agg #[.int .i64 lo, .int .i64 hi, f]
def farrayL (p1 p2 : Nat) : Tab1 :=
  [([67, 79, 76, 85, 77, 78, 83], gfnE 1 1 (fn0 35)), ([68, 82, 79, 80], gfnE 1 3 (fn0 38)), ([70, 73, 76, 84, 69, 82], gfnE 2 3 (fn0 39)),
   ([72, 83, 84, 65, 67, 75], gfnE 1 32 (fn1 88 p1)), ([77, 77, 85, 76, 84], gfnE 2 2 (fn0 42)), ([82, 79, 87, 83], gfnE 1 1 (fn0 43)),
   ([83, 69, 81, 85, 69, 78, 67, 69], gfnE 1 4 (fn0 44)), ([83, 79, 82, 84], gfnE 1 3 (fn0 45)), ([84, 65, 75, 69], gfnE 1 3 (fn0 46)),
   ([84, 79, 67, 79, 76], gfnE 1 1 (fn0 47)), ([84, 79, 82, 79, 87], gfnE 1 1 (fn0 50)), ([84, 82, 65, 78, 83, 80, 79, 83, 69], gfnE 1 1 (fn0 51)),
   ([85, 78, 73, 81, 85, 69], gfnE 1 1 (fn0 53)), ([86, 83, 84, 65, 67, 75], gfnE 1 32 (fn1 88 p2))]
abbrev bxJ (fid : FuncId) : Obj := .cells #[fn0 fid] 71
def farrayB (p1 p2 : Nat) : List (Nat × Obj) := [(p1, bxJ 41), (p2, bxJ 54)]
theorem gfarray_pair (p1 p2 : Nat) : (farrayL p1 p2).Pairwise (fun p q => p.1 ≠ q.1) := by simp [farrayL]
theorem zero_gfn (w : World) : (zeroValue 58).run Tryz.prog w = .ok (.agg #[.int .i64 0, .int .i64 0, .nilFunc]) w := by kernel_rfl
theorem galloc_new (w : World) (o : Obj) : (w.alloc o).heap[w.heap.size]? = some o := Array.getElem?_push_size
theorem gstack_any (fid : FuncId) (w : World) :
    Calls Tryz.prog 40 #[.func (.func fid) #[] #[]] w fun e w' => e = .returned (.func (.func 88) #[] #[.pointer (some ⟨w.heap.size, 0, none⟩)]) ∧ w' = w.alloc (bxJ fid) := by
  go_enter Tryz.func40, Tryz.ntmps40
  go_wp2_with fail
  go_ret
  exact ⟨rfl, rfl⟩
set_option maxHeartbeats 1000000 in
theorem gtable_any (w : World) :
    Calls Tryz.prog 24 #[] w fun e w' => ∃ b, e = .returned (.map (some b)) ∧ ∃ p1 p2, TabS Tryz.prog 9 w b (farrayL p1 p2) (farrayB p1 p2) w' := by
  have hmm := @run_makeMap Tryz.prog
  have hT := TabS.start w Tryz.prog 9
  go_enter Tryz.func24, Tryz.ntmps24
  go_wp2_with (first | (go_at_call 40; (with_reducible refine (gstack_any _ _).mono ?_); rintro e w' ⟨rfl, hw⟩; have hT := hT.new (W' := w') (by rw [hw]; exact (Ext.refl _).alloc _) (by rw [hw]; exact galloc_new _ _); clear hw; (try (rw [show (w.alloc (Obj.map #[] 0)).heap.size = w.heap.size + 1 by simp] at hT))) | (refine wpL_insert rfl _ _ _ _ rfl 9 58 Tryz.underlying9 Tryz.underlying55 _ _ rfl hT.tab (by simp only [List.length_append, List.length_nil, List.length_cons, maxLen]; omega) _ rfl (by simp only [maxLen, ByteArray.size, List.size_toArray, List.length_cons, List.length_nil]; omega) _ rfl ?_; intro w1 ht1 hg1; have hT := hT.put ht1 hg1; clear ht1 hg1))
  go_ret
  exact ⟨w.heap.size, rfl, _, _, hT⟩
end Go.Proofs.YtmjmijjbijlhfaaGreatDoor
namespace Go.Proofs.YtmjmijjbijlhfaaGreatDoor
open Go.RowKit NM
abbrev CallG (w : World) (X : NA) : Ending → World → Prop := fun e w' => ∃ D m cc, e = .returned (.tuple #[AV X.R X.C (.slice D m cc), .bool true]) ∧ ArrN w.heap.size w' D m cc X.l ∧ Ext w w'
theorem all_at {gs : List GA} (h : ∀ j g, j < gs.length → gs[j]? = some g → g.right = true) : ∀ g ∈ gs, g.right = true := by
  intro g hg
  obtain ⟨j, hj, rfl⟩ := List.mem_iff_getElem.1 hg
  exact h j _ hj (List.getElem?_eq_getElem hj)
set_option maxHeartbeats 2000000 in
theorem gcall_any (s : ByteArray) (lo hi : Nat) (fid : FuncId) (ct : Nat → Nat → Array Value) (hs : s.size ≤ maxLen) (hl : ∀ p1 p2, tabAt (farrayL p1 p2) s.data.toList = some (gfnE lo hi (.func (.func fid) #[] (ct p1 p2))))
    (hent : ∀ (args : Array Value) (W : World), (callFunc fid args).run Tryz.prog W = .ok (.enter fid args) W) (hlo9 : lo ≤ 100) (hhi9 : hi ≤ 100)
    (A : Option Addr) (n cap : Nat) (gs : List GA) (w : World) (h : ArgsG w A n cap gs) (F : NA)
    (hf : (∀ g ∈ gs, g.right = true) → lo ≤ n → n ≤ hi → ∀ p1 p2 W, Ext w W → (∀ p ∈ farrayB p1 p2, W.heap[p.1]? = some p.2) → Calls Tryz.prog fid (#[.slice A n cap] ++ ct p1 p2) W fun e W' => ResA W F e W') :
    Calls Tryz.prog 16 #[.string s, .slice A n cap] w (CallG w (callX lo hi gs F)) := by
  have hsm := h.small
  have hlen := h.len
  by_cases q1 : n < lo
  · have hX : callX lo hi gs F = aloneO 2 := by unfold callX; rw [if_pos (by omega)]
    rw [hX]
    clear hf hlen hX
    go_enter Tryz.func16, Tryz.ntmps16
    go_wp2_with (first | (go_at_call 24; (with_reducible refine (gtable_any _).mono ?_); rintro e w' ⟨bm, rfl, p1, p2, hT⟩; have hbm := hT.hb; have hxT := hT.ext; have hbx := fun p hp => (hT.box p hp).2.2; have ht := hl p1 p2; generalize ct p1 p2 = c0 at ht; have HT := Lib.hid ht; clear ht; obtain ⟨os1, d1, rfl⟩ := hxT.more) | (refine wpL_look rfl _ _ _ rfl 9 58 Tryz.underlying9 Tryz.underlying55 _ _ rfl (hT.tab.ext (by with_reducible repeat (first | exact Ext.refl _ | apply Ext.drew | apply Ext.alloc | apply Ext.more_))) (gfarray_pair _ _) _ (zero_gfn _) _ rfl hs (gfnE lo hi (.func (.func fid) #[] c0)) true (by rw [HT.out]; rfl) (by rw [HT.out]; rfl) ?_) | (go_at_call 29; (with_reducible refine (galone_any _ _).mono ?_); rintro e w' ⟨D, m, cc, rfl, hD, hb⟩; obtain ⟨os5, d5, rfl⟩ := hb.more; clear hb; have hDr := hD.rd))
    all_goals exact bodyPost_ret (v := .tuple #[AV (aloneO 2).R (aloneO 2).C (.slice D m cc), .bool true]) (by simp [results, Tryz.results16, go_sem]) rfl ⟨D, m, cc, rfl, ⟨(by (try simp only [more_more] at hDr); (try simp only [drew_more] at hDr); (try simp only [more_drew] at hDr); (try simp only [Array.append_assoc] at hDr); exact Rd.swap hDr (by first | (simp; done) | (simp; omega) | omega) (by first | (simp; done) | (simp; omega) | omega) (by first | (simp; done) | (simp; omega) | omega)), hD.len, hD.cap, hD.small, hD.ok⟩, by with_reducible repeat (first | exact Ext.refl _ | apply Ext.drew | apply Ext.alloc | apply Ext.more_)⟩
  · by_cases q2 : hi < n
    · have hX : callX lo hi gs F = aloneO 2 := by unfold callX; rw [if_pos (by omega)]
      rw [hX]
      clear hf hlen hX
      go_enter Tryz.func16, Tryz.ntmps16
      go_wp2_with (first | (go_at_call 24; (with_reducible refine (gtable_any _).mono ?_); rintro e w' ⟨bm, rfl, p1, p2, hT⟩; have hbm := hT.hb; have hxT := hT.ext; have hbx := fun p hp => (hT.box p hp).2.2; have ht := hl p1 p2; generalize ct p1 p2 = c0 at ht; have HT := Lib.hid ht; clear ht; obtain ⟨os1, d1, rfl⟩ := hxT.more) | (refine wpL_look rfl _ _ _ rfl 9 58 Tryz.underlying9 Tryz.underlying55 _ _ rfl (hT.tab.ext (by with_reducible repeat (first | exact Ext.refl _ | apply Ext.drew | apply Ext.alloc | apply Ext.more_))) (gfarray_pair _ _) _ (zero_gfn _) _ rfl hs (gfnE lo hi (.func (.func fid) #[] c0)) true (by rw [HT.out]; rfl) (by rw [HT.out]; rfl) ?_) | (go_at_call 29; (with_reducible refine (galone_any _ _).mono ?_); rintro e w' ⟨D, m, cc, rfl, hD, hb⟩; obtain ⟨os5, d5, rfl⟩ := hb.more; clear hb; have hDr := hD.rd))
      all_goals exact bodyPost_ret (v := .tuple #[AV (aloneO 2).R (aloneO 2).C (.slice D m cc), .bool true]) (by simp [results, Tryz.results16, go_sem]) rfl ⟨D, m, cc, rfl, ⟨(by (try simp only [more_more] at hDr); (try simp only [drew_more] at hDr); (try simp only [more_drew] at hDr); (try simp only [Array.append_assoc] at hDr); exact Rd.swap hDr (by first | (simp; done) | (simp; omega) | omega) (by first | (simp; done) | (simp; omega) | omega) (by first | (simp; done) | (simp; omega) | omega)), hD.len, hD.cap, hD.small, hD.ok⟩, by with_reducible repeat (first | exact Ext.refl _ | apply Ext.drew | apply Ext.alloc | apply Ext.more_)⟩
    · have HF := Lib.hid hf
      obtain ⟨X, hX⟩ : ∃ X, callX lo hi gs F = X := ⟨_, rfl⟩
      rw [hX]
      have HX := Lib.hid hX
      clear hf hX
      go_enter Tryz.func16, Tryz.ntmps16
      go_wp2_with (first | (go_at_call 24; (with_reducible refine (gtable_any _).mono ?_); rintro e w' ⟨bm, rfl, p1, p2, hT⟩; have hbm := hT.hb; have hxT := hT.ext; have hbx := fun p hp => (hT.box p hp).2.2; have ht := hl p1 p2; have hfc := HF.out; have hfd := fun a b c => hfc a b c p1 p2; clear hfc; generalize ct p1 p2 = c0 at ht hfd; have HT := Lib.hid ht; clear ht; obtain ⟨os1, d1, rfl⟩ := hxT.more) | (refine wpL_look rfl _ _ _ rfl 9 58 Tryz.underlying9 Tryz.underlying55 _ _ rfl (hT.tab.ext (by with_reducible repeat (first | exact Ext.refl _ | apply Ext.drew | apply Ext.alloc | apply Ext.more_))) (gfarray_pair _ _) _ (zero_gfn _) _ rfl hs (gfnE lo hi (.func (.func fid) #[] c0)) true (by rw [HT.out]; rfl) (by rw [HT.out]; rfl) ?_))
      go_loopw [34] (fun i wr => ∃ k : Nat, k ≤ n ∧ i = .int .i64 k ∧ Ext ((more (w.alloc (Obj.cells #[.int .i64 0, .int .i64 0, .slice none 0 0] 31)) os1 d1).alloc (Obj.cells #[.int .i64 lo, .int .i64 hi, .func (.func fid) #[] c0] 58)) wr ∧ Hid (∀ j g, j < k → gs[j]? = some g → g.right = true)) (fun i _ => n - (intOf i).toNat)
      case atStart => exact ⟨0, Nat.zero_le _, rfl, Ext.refl _, fun j g hj => absurd hj (Nat.not_lt_zero _)⟩
      case round =>
        obtain ⟨k, hk, rfl, hX, HR⟩ := hrel
        have hX0 := hX
        obtain ⟨os, d, rfl⟩ := hX.more
        clear hX
        by_cases hlt : k < n
        · obtain ⟨g, b, off, hg, rfl, hat, harr⟩ := h.at hlt
          obtain ⟨v0, v1, v2⟩ := hat
          have hbl : b < w.heap.size := lt_of_cell v0
          have hcap := h.cap
          cases hr : rightA g.r g.c g.l with
          | true =>
            have hra := fun W => (hr ▸ right_any g.r g.c g.A g.n g.cap g.l W : ArrIn W g.A g.n g.cap g.l → _)
            clear hT hxT hX0 hbx hfd hlen
            go_wp2_with (go_at_call 30; refine (hra _ (harr.ext (by with_reducible repeat (first | exact Ext.refl _ | apply Ext.drew | apply Ext.alloc | apply Ext.more_)))).mono ?_; rintro e w' ⟨rfl, hb⟩; obtain ⟨os', d', rfl⟩ := hb.more; clear hb)
            refine ⟨⟨k + 1, by omega, by go_num, by with_reducible repeat (first | exact Ext.refl _ | apply Ext.drew | apply Ext.alloc | apply Ext.more_), ?_⟩, by simp [intOf]; omega⟩
            intro j g' hj hg'
            by_cases hjk : j = k
            · subst hjk
              obtain rfl : g = g' := by rw [hg] at hg'; simpa using hg'
              exact hr
            · exact HR.out j g' (by omega) hg'
          | false =>
            have hra := fun W => (hr ▸ right_any g.r g.c g.A g.n g.cap g.l W : ArrIn W g.A g.n g.cap g.l → _)
            obtain rfl : aloneO 9 = X := by
              rw [← HX.out]
              unfold callX
              rw [if_neg (by omega), if_neg]
              intro ha
              have := List.all_eq_true.1 ha g (List.mem_of_getElem? hg)
              unfold GA.right at this
              rw [hr] at this
              cases this
            clear hT hxT hX0 hbx hfd hlen HX
            go_wp2_with (first | (go_at_call 30; refine (hra _ (harr.ext (by with_reducible repeat (first | exact Ext.refl _ | apply Ext.drew | apply Ext.alloc | apply Ext.more_)))).mono ?_; rintro e w' ⟨rfl, hb⟩; obtain ⟨os', d', rfl⟩ := hb.more; clear hb) | (go_at_call 29; (with_reducible refine (galone_any _ _).mono ?_); rintro e w' ⟨D, m, cc, rfl, hD, hb⟩; obtain ⟨os5, d5, rfl⟩ := hb.more; clear hb; have hDr := hD.rd))
            exact bodyPost_ret (v := .tuple #[AV (aloneO 9).R (aloneO 9).C (.slice D m cc), .bool true]) (by simp [results, Tryz.results16, go_sem]) rfl ⟨D, m, cc, rfl, ⟨(by (try simp only [more_more] at hDr); (try simp only [drew_more] at hDr); (try simp only [more_drew] at hDr); (try simp only [Array.append_assoc] at hDr); exact Rd.swap hDr (by first | (simp; done) | (simp; omega) | omega) (by first | (simp; done) | (simp; omega) | omega) (by first | (simp; done) | (simp; omega) | omega)), hD.len, hD.cap, hD.small, hD.ok⟩, by with_reducible repeat (first | exact Ext.refl _ | apply Ext.drew | apply Ext.alloc | apply Ext.more_)⟩
        · obtain rfl : k = n := by omega
          have hall : ∀ g ∈ gs, g.right = true := all_at fun j g hj hg => HR.out j g (by omega) hg
          obtain rfl : F = X := by
            rw [← HX.out]
            unfold callX
            rw [if_neg (by omega), if_pos (List.all_eq_true.2 hall)]
          have hfe := hfd hall (by omega) (by omega)
          have HB := Lib.hid hbx
          clear hT hxT hbx hfd hlen hall HR HX
          go_wp2_with fail
          refine (hfe _ (by with_reducible repeat (first | exact Ext.refl _ | apply Ext.drew | apply Ext.alloc | apply Ext.more_)) (fun p hp => ?_)).mono ?_
          · have hb0 := HB.out p hp
            have hl0 := lt_block hb0
            exact (hX0.block (Nat.lt_of_lt_of_le hl0 (by simp))).trans ((((Ext.refl _).alloc _).block hl0).trans hb0)
          · rintro e w' ⟨D, m, cc, rfl, hD, hb⟩
            obtain ⟨os2, d2, rfl⟩ := hb.more
            clear hb
            have hDr := hD.rd
            go_wp2_with fail
            exact bodyPost_ret (v := .tuple #[AV F.R F.C (.slice D m cc), .bool true]) (by simp [results, Tryz.results16, go_sem]) rfl ⟨D, m, cc, rfl, ⟨(by (try simp only [more_more] at hDr); (try simp only [drew_more] at hDr); (try simp only [more_drew] at hDr); (try simp only [Array.append_assoc] at hDr); exact Rd.swap hDr (by first | (simp; done) | (simp; omega) | omega) (by first | (simp; done) | (simp; omega) | omega) (by first | (simp; done) | (simp; omega) | omega)), hD.len, hD.cap, hD.small, hD.ok⟩, by with_reducible repeat (first | exact Ext.refl _ | apply Ext.drew | apply Ext.alloc | apply Ext.more_)⟩
end Go.Proofs.YtmjmijjbijlhfaaGreatDoor
namespace Go.Proofs.YtmjmijjbijlhfaaGreatDoor
open Go.RowKit NM
set_option maxHeartbeats 1000000 in
theorem gcount_any (n : Int) (w : World) (htab : Tab w) (hn : n.natAbs < T 15) :
    Calls Tryz.prog 37 #[.int .i64 n] w fun e w' => e = .returned (VV (cntV n).kind (cntV n).mant (cntV n).exp (cntV n).text (cntV n).truth (cntV n).fault) ∧ Ext w w' := by
  have hi : I64 n := by have : T 15 = 1000000000000000 := (by decide); unfold I64; omega
  have hm := fun W h => make_any n 0 W h hi (by unfold I64; omega)
  rw [show rnd (decide (n < 0)) n.natAbs false 0 = some (wholeN n) from (wholex hn).1] at hm
  simp only [rnV, rm, re, Option.getD_some, Option.isSome_some] at hm
  have HT := Lib.hid htab
  unfold cntV
  clear htab hn hi
  go_enter Tryz.func37, Tryz.ntmps37
  go_wp2_with (first | (go_at_call 79; (with_reducible refine (hm _ (HT.out.ext (by with_reducible repeat (first | exact Ext.refl _ | apply Ext.drew | apply Ext.alloc | apply Ext.more_)))).mono ?_); rintro e w' ⟨rfl, hb⟩; obtain ⟨os, d, rfl⟩ := hb.more; clear hb) | (go_at_call 80; (with_reducible refine (of_any _ _ _).mono ?_); rintro e w' ⟨rfl, hb⟩; obtain ⟨os, d, rfl⟩ := hb.more; clear hb))
  exact bodyPost_ret (v := VV 1 (wholeN n).1 (wholeN n).2 ⟨#[]⟩ false 0) (by simp [results, Tryz.results37, go_sem]) rfl ⟨rfl, by with_reducible repeat (first | exact Ext.refl _ | apply Ext.drew | apply Ext.alloc | apply Ext.more_)⟩
/-- An argument, and its first value. -/
theorem ArgsIn.first {w : World} {A : Option Addr} {n cap : Nat} {xs : List Ar} (h : ArgsIn w A n cap xs) {k : Nat} (hk : k < n) :
    ∃ (R C : Nat) (l : List Val) (b1 off1 n1 cap1 b off : Nat) (x : Val), xs[k]? = some ⟨⟨R, C, l⟩, some ⟨b1, off1, none⟩, n1, cap1⟩ ∧ A = some ⟨b, off, none⟩ ∧ ArAt w b (off + k * 3) ⟨⟨R, C, l⟩, some ⟨b1, off1, none⟩, n1, cap1⟩ ∧ 0 < n1 ∧ n1 ≤ cap1 ∧ ValAt w b1 off1 x ∧ getV l 0 = x ∧ x.right ∧ b < w.heap.size ∧ b1 < w.heap.size ∧ argV xs k = x ∧ givenB xs k = !(R == 1 && C == 1 && x.kind == 0) ∧ ArrIn w (some ⟨b1, off1, none⟩) n1 cap1 l ∧ l[0]? = some x := by
  obtain ⟨⟨⟨R, C, l⟩, A1, n1, cap1⟩, b, off, ha, rfl, hat, hok⟩ := h.at hk
  obtain ⟨r1, r2, r3, r4, r5⟩ := rightA_nat.1 hok.right
  have hl : l.length = n1 := hok.arr.len
  have hn1 : 0 < n1 := by rw [← hl, r4]; exact Nat.mul_pos r1 r2
  obtain ⟨x, b1, off1, hx, _, hA, hv⟩ := hok.arr.at hn1
  rw [Nat.zero_mul, Nat.add_zero] at hv
  have hA' : A1 = some ⟨b1, off1, none⟩ := hA
  subst hA'
  have hgv : getV l 0 = x := by unfold getV; rw [hx]; rfl
  have hxr : x.right := r5 x (List.mem_of_getElem? hx)
  have hav : argV xs k = x := by unfold argV; rw [ha]; exact hgv
  have hgb : givenB xs k = !(R == 1 && C == 1 && x.kind == 0) := by unfold givenB; rw [ha, ← hgv]
  exact ⟨R, C, l, b1, off1, n1, cap1, b, off, x, ha, rfl, hat, hn1, hok.arr.cap, hv, hgv, hxr, lt_of_cell hat.1, lt_of_cell hv.1, hav, hgb, hok.arr, hx⟩
set_option maxHeartbeats 1000000 in
theorem given_any (A : Option Addr) (n cap : Nat) (xs : List Ar) (k : Nat) (w : World) (h : ArgsIn w A n cap xs) (g : Bool) (hg : givenB xs k = g) :
    Calls Tryz.prog 86 #[.slice A n cap, .int .i64 (k : Int)] w fun e w' => e = .returned (.bool g) ∧ Ext w w' := by
  by_cases hlt : k < n
  · obtain ⟨R, C, l, b1, off1, n1, cap1, b, off, x, ha, rfl, ⟨v0, v1, v2⟩, hn1, hc1, ⟨y0, y1, y2, y3, y4, y5⟩, hgv, hxr, hbl, hb1, hav, hgb, harr, hx⟩ := h.first hlt
    rw [hgb] at hg
    simp only at v0 v1 v2
    clear ha hgv hxr hav hgb harr hx
    have hsm := h.small
    have hcap := h.cap
    have hlt' : ¬ n ≤ k := by omega
    clear h
    obtain ⟨xk, xm, xe, xt, xb, xf⟩ := x
    simp only at y0 y1 y2 y3 y4 y5 hg
    generalize hR : (R : Int) = r at v0
    generalize hC : (C : Int) = c at v1
    by_cases h1 : R = 1
    · obtain rfl : r = 1 := by omega
      by_cases h2 : C = 1
      · obtain rfl : c = 1 := by omega
        subst h1 h2
        by_cases h3 : xk = 0
        · subst h3
          obtain rfl : g = false := by rw [← hg]; rfl
          clear hg hR hC
          go_enter Tryz.func86, Tryz.ntmps86
          go_wp2
          exact bodyPost_ret (v := .bool false) (by simp [results, Tryz.results86, go_sem]) rfl ⟨rfl, by with_reducible repeat (first | exact Ext.refl _ | apply Ext.drew | apply Ext.alloc | apply Ext.more_)⟩
        · have h3' : (xk != 0) = true := by simpa using h3
          have h3'' : (xk == 0) = false := by simpa using h3
          obtain rfl : g = true := by rw [← hg, h3'']; rfl
          clear hg hR hC h3
          go_enter Tryz.func86, Tryz.ntmps86
          go_wp2
          exact bodyPost_ret (v := .bool true) (by simp [results, Tryz.results86, go_sem]) rfl ⟨rfl, by with_reducible repeat (first | exact Ext.refl _ | apply Ext.drew | apply Ext.alloc | apply Ext.more_)⟩
      · have h2' : (c != 1) = true := by simp; omega
        have h2'' : (C == 1) = false := by simpa using h2
        obtain rfl : g = true := by rw [← hg, h2'']; simp
        subst h1
        clear hg hR hC h2 h2''
        go_enter Tryz.func86, Tryz.ntmps86
        go_wp2
        exact bodyPost_ret (v := .bool true) (by simp [results, Tryz.results86, go_sem]) rfl ⟨rfl, by with_reducible repeat (first | exact Ext.refl _ | apply Ext.drew | apply Ext.alloc | apply Ext.more_)⟩
    · have h1' : (r != 1) = true := by simp; omega
      have h1'' : (R == 1) = false := by simpa using h1
      obtain rfl : g = true := by rw [← hg, h1'']; rfl
      clear hg hR hC h1 h1''
      go_enter Tryz.func86, Tryz.ntmps86
      go_wp2
      exact bodyPost_ret (v := .bool true) (by simp [results, Tryz.results86, go_sem]) rfl ⟨rfl, by with_reducible repeat (first | exact Ext.refl _ | apply Ext.drew | apply Ext.alloc | apply Ext.more_)⟩
  · obtain rfl : g = false := by rw [← hg]; unfold givenB; rw [List.getElem?_eq_none (by rw [h.len]; omega)]
    have hsm := h.small
    have hlt' : n ≤ k := by omega
    clear hg
    go_enter Tryz.func86, Tryz.ntmps86
    go_wp2
    exact bodyPost_ret (v := .bool false) (by simp [results, Tryz.results86, go_sem]) rfl ⟨rfl, by with_reducible repeat (first | exact Ext.refl _ | apply Ext.drew | apply Ext.alloc | apply Ext.more_)⟩
set_option maxHeartbeats 1000000 in
theorem gnumber_any (A : Option Addr) (n cap : Nat) (xs : List Ar) (k : Nat) (left : Int) (w : World) (h : ArgsIn w A n cap xs) (y : Int × Int) (hy : numO xs k left = y) :
    Calls Tryz.prog 81 #[.slice A n cap, .int .i64 (k : Int), .int .i64 left] w fun e w' => e = .returned (.tuple #[.int .i64 y.1, .int .i64 y.2]) ∧ Ext w w' := by
  have hgv := fun W (hW : ArgsIn W A n cap xs) g hg => given_any A n cap xs k W hW g hg
  have H := Lib.hid h
  subst hy
  unfold numO
  cases hg : givenB xs k with
  | false =>
    rw [if_neg (by simp)]
    have hgw := fun W (hW : ArgsIn W A n cap xs) => hgv W hW false (by rw [hg])
    clear hgv hg h
    go_enter Tryz.func81, Tryz.ntmps81
    go_wp2_with (go_at_call 86; (with_reducible refine (hgw _ (H.out.ext (by with_reducible repeat (first | exact Ext.refl _ | apply Ext.drew | apply Ext.alloc | apply Ext.more_)))).mono ?_); rintro e w' ⟨rfl, hb⟩; obtain ⟨os, d, rfl⟩ := hb.more; clear hb)
    exact bodyPost_ret (v := .tuple #[.int .i64 left, .int .i64 0]) (by simp [results, Tryz.results81, go_sem]) rfl ⟨rfl, by with_reducible repeat (first | exact Ext.refl _ | apply Ext.drew | apply Ext.alloc | apply Ext.more_)⟩
  | true =>
    rw [if_pos rfl]
    have hgw := fun W (hW : ArgsIn W A n cap xs) => hgv W hW true (by rw [hg])
    have hlt : k < n := by
      rcases Nat.lt_or_ge k n with hl | hl
      · exact hl
      · unfold givenB at hg; rw [List.getElem?_eq_none (by rw [h.len]; exact hl)] at hg; cases hg
    obtain ⟨R, C, l, b1, off1, n1, cap1, b, off, x, ha, rfl, ⟨v0, v1, v2⟩, hn1, hc1, ⟨y0, y1, y2, y3, y4, y5⟩, _, hxr, hbl, hb1, hav, _, _, _⟩ := h.first hlt
    rw [hav]
    simp only at v0 v1 v2
    have hcap := h.cap
    have ht := fun W => toNum_any x W hxr
    have hi1 : I64 (tnP x).1 := rt_i64 (tn_rt hxr)
    unfold wholeO
    generalize htp : tnP x = p at *
    generalize htf : tnF x = f at *
    by_cases hf : f = 0
    · subst hf
      rw [if_pos rfl]
      have hfl := fun W => floor_any p.1 p.2 W hi1
      have hi2 : I64 (floorS p.1 p.2).1 := rt_i64 (by exact (floor_spec (by rw [← htp]; exact tn_rt hxr)).1)
      generalize hq : floorS p.1 p.2 = q at *
      have hin := fun W => int_any q.1 q.2 W hi2
      cases hI : intS q.1 q.2 with
      | none =>
        rw [hI] at hin
        simp only [inV, Option.getD_none, Option.isSome_none] at hin ⊢
        simp only [tnV, htp, htf] at ht
        clear hI hq htp htf ha hxr hav hi1 hi2 h hg hgv
        go_enter Tryz.func81, Tryz.ntmps81
        go_wp2_with (first | (go_at_call 86; (with_reducible refine (hgw _ (H.out.ext (by with_reducible repeat (first | exact Ext.refl _ | apply Ext.drew | apply Ext.alloc | apply Ext.more_)))).mono ?_); rintro e w' ⟨rfl, hb⟩; obtain ⟨os, d, rfl⟩ := hb.more; clear hb) | (go_at_call 94; (with_reducible refine (ht _).mono ?_); rintro e w' ⟨rfl, hb⟩; obtain ⟨os, d, rfl⟩ := hb.more; clear hb) | (go_at_call 142; (with_reducible refine (hfl _).mono ?_); rintro e w' ⟨rfl, hb⟩; obtain ⟨os, d, rfl⟩ := hb.more; clear hb) | (go_at_call 141; (with_reducible refine (hin _).mono ?_); rintro e w' ⟨rfl, hb⟩; obtain ⟨os, d, rfl⟩ := hb.more; clear hb))
        exact bodyPost_ret (v := .tuple #[.int .i64 0, .int .i64 5]) (by simp [results, Tryz.results81, go_sem]) rfl ⟨rfl, by with_reducible repeat (first | exact Ext.refl _ | apply Ext.drew | apply Ext.alloc | apply Ext.more_)⟩
      | some i =>
        rw [hI] at hin
        simp only [inV, Option.getD_some, Option.isSome_some] at hin ⊢
        simp only [tnV, htp, htf] at ht
        clear hI hq htp htf ha hxr hav hi1 hi2 h hg hgv
        go_enter Tryz.func81, Tryz.ntmps81
        go_wp2_with (first | (go_at_call 86; (with_reducible refine (hgw _ (H.out.ext (by with_reducible repeat (first | exact Ext.refl _ | apply Ext.drew | apply Ext.alloc | apply Ext.more_)))).mono ?_); rintro e w' ⟨rfl, hb⟩; obtain ⟨os, d, rfl⟩ := hb.more; clear hb) | (go_at_call 94; (with_reducible refine (ht _).mono ?_); rintro e w' ⟨rfl, hb⟩; obtain ⟨os, d, rfl⟩ := hb.more; clear hb) | (go_at_call 142; (with_reducible refine (hfl _).mono ?_); rintro e w' ⟨rfl, hb⟩; obtain ⟨os, d, rfl⟩ := hb.more; clear hb) | (go_at_call 141; (with_reducible refine (hin _).mono ?_); rintro e w' ⟨rfl, hb⟩; obtain ⟨os, d, rfl⟩ := hb.more; clear hb))
        exact bodyPost_ret (v := .tuple #[.int .i64 i, .int .i64 0]) (by simp [results, Tryz.results81, go_sem]) rfl ⟨rfl, by with_reducible repeat (first | exact Ext.refl _ | apply Ext.drew | apply Ext.alloc | apply Ext.more_)⟩
    · rw [if_neg hf]
      have hf' : (f != 0) = true := by simpa using hf
      simp only [tnV, htp, htf] at ht
      clear htp htf ha hxr hav hi1 h hg hgv
      go_enter Tryz.func81, Tryz.ntmps81
      go_wp2_with (first | (go_at_call 86; (with_reducible refine (hgw _ (H.out.ext (by with_reducible repeat (first | exact Ext.refl _ | apply Ext.drew | apply Ext.alloc | apply Ext.more_)))).mono ?_); rintro e w' ⟨rfl, hb⟩; obtain ⟨os, d, rfl⟩ := hb.more; clear hb) | (go_at_call 94; (with_reducible refine (ht _).mono ?_); rintro e w' ⟨rfl, hb⟩; obtain ⟨os, d, rfl⟩ := hb.more; clear hb))
      exact bodyPost_ret (v := .tuple #[.int .i64 0, .int .i64 f]) (by simp [results, Tryz.results81, go_sem]) rfl ⟨rfl, by with_reducible repeat (first | exact Ext.refl _ | apply Ext.drew | apply Ext.alloc | apply Ext.more_)⟩
end Go.Proofs.YtmjmijjbijlhfaaGreatDoor
namespace Go.Proofs.YtmjmijjbijlhfaaGreatDoor
open Go.RowKit NM
theorem made_any (r c : Int) (A : Option Addr) (n cap : Nat) (w : World) :
    Calls Tryz.prog 48 #[.int .i64 r, .int .i64 c, .slice A n cap] w fun e w' => e = .returned (AV r c (.slice A n cap)) ∧ Ext w w' := by
  go_enter Tryz.func48, Tryz.ntmps48
  go_wp2
  exact bodyPost_ret (v := AV r c (.slice A n cap)) (by simp [results, Tryz.results48, go_sem]) rfl ⟨rfl, by with_reducible repeat (first | exact Ext.refl _ | apply Ext.drew | apply Ext.alloc | apply Ext.more_)⟩
theorem cnt_ok {n : Int} (h : n.natAbs < T 15) : (cntV n).ok := (right_num (wholex h).2.1).ok
theorem cnt_right15 {n : Int} (h : n.natAbs < T 15) : (cntV n).right := right_num (wholex h).2.1
theorem lt15 {n : Nat} (h : n ≤ 4096) : ((n : Int)).natAbs < T 15 := by have : T 15 = 1000000000000000 := (by decide); omega
set_option maxHeartbeats 1000000 in
theorem gcols_any (A : Option Addr) (cap : Nat) (a : Ar) (w : World) (htab : Tab w) (h : ArgsIn w A 1 cap [a]) :
    Calls Tryz.prog 35 #[.slice A 1 cap] w fun e w' => ResA w (oneA (cntV a.x.C)) e w' := by
  obtain ⟨b, off, rfl, ⟨v0, v1, v2⟩, hok⟩ := h.get (k := 0) (a := a) rfl
  have hbl := lt_of_cell v0
  have hcap := h.cap
  have hC := (right_bd hok.right).2.2.2.2.2
  have hl := lt15 (by omega : a.x.C ≤ 4096)
  have hc := fun W (hT : Tab W) => gcount_any a.x.C W hT hl
  have ho := fun W => one_res (cntV a.x.C) W (cnt_ok hl) (cnt_right15 hl)
  generalize cntV a.x.C = y at *
  have HT := Lib.hid htab
  clear htab h hok hl hC
  simp only [Nat.zero_mul, Nat.add_zero] at v0 v1 v2
  go_enter Tryz.func35, Tryz.ntmps35
  go_wp2_with (first | (go_at_call 37; (with_reducible refine (hc _ (HT.out.ext (by with_reducible repeat (first | exact Ext.refl _ | apply Ext.drew | apply Ext.alloc | apply Ext.more_)))).mono ?_); rintro e w' ⟨rfl, hb⟩; obtain ⟨os, d, rfl⟩ := hb.more; clear hb) | (go_at_call 36; (with_reducible refine (ho _).mono ?_); rintro e w' ⟨D, m, cc, rfl, hD, hb⟩; obtain ⟨os5, d5, rfl⟩ := hb.more; clear hb; have hDr := hD.rd))
  exact bodyPost_ret (v := AV (oneA y).R (oneA y).C (.slice D m cc)) (by simp [results, Tryz.results35, go_sem]) rfl ⟨D, m, cc, rfl, ⟨(by (try simp only [more_more] at hDr); (try simp only [drew_more] at hDr); (try simp only [more_drew] at hDr); (try simp only [Array.append_assoc] at hDr); exact Rd.swap hDr (by first | (simp; done) | (simp; omega) | omega) (by first | (simp; done) | (simp; omega) | omega) (by first | (simp; done) | (simp; omega) | omega)), hD.len, hD.cap, hD.small, hD.ok⟩, by with_reducible repeat (first | exact Ext.refl _ | apply Ext.drew | apply Ext.alloc | apply Ext.more_)⟩
set_option maxHeartbeats 1000000 in
theorem grows_any (A : Option Addr) (cap : Nat) (a : Ar) (w : World) (htab : Tab w) (h : ArgsIn w A 1 cap [a]) :
    Calls Tryz.prog 43 #[.slice A 1 cap] w fun e w' => ResA w (oneA (cntV a.x.R)) e w' := by
  obtain ⟨b, off, rfl, ⟨v0, v1, v2⟩, hok⟩ := h.get (k := 0) (a := a) rfl
  have hbl := lt_of_cell v0
  have hcap := h.cap
  have hC := (right_bd hok.right).2.2.2.2.1
  have hl := lt15 (by omega : a.x.R ≤ 4096)
  have hc := fun W (hT : Tab W) => gcount_any a.x.R W hT hl
  have ho := fun W => one_res (cntV a.x.R) W (cnt_ok hl) (cnt_right15 hl)
  generalize cntV a.x.R = y at *
  have HT := Lib.hid htab
  clear htab h hok hl hC
  simp only [Nat.zero_mul, Nat.add_zero] at v0 v1 v2
  go_enter Tryz.func43, Tryz.ntmps43
  go_wp2_with (first | (go_at_call 37; (with_reducible refine (hc _ (HT.out.ext (by with_reducible repeat (first | exact Ext.refl _ | apply Ext.drew | apply Ext.alloc | apply Ext.more_)))).mono ?_); rintro e w' ⟨rfl, hb⟩; obtain ⟨os, d, rfl⟩ := hb.more; clear hb) | (go_at_call 36; (with_reducible refine (ho _).mono ?_); rintro e w' ⟨D, m, cc, rfl, hD, hb⟩; obtain ⟨os5, d5, rfl⟩ := hb.more; clear hb; have hDr := hD.rd))
  exact bodyPost_ret (v := AV (oneA y).R (oneA y).C (.slice D m cc)) (by simp [results, Tryz.results43, go_sem]) rfl ⟨D, m, cc, rfl, ⟨(by (try simp only [more_more] at hDr); (try simp only [drew_more] at hDr); (try simp only [more_drew] at hDr); (try simp only [Array.append_assoc] at hDr); exact Rd.swap hDr (by first | (simp; done) | (simp; omega) | omega) (by first | (simp; done) | (simp; omega) | omega) (by first | (simp; done) | (simp; omega) | omega)), hD.len, hD.cap, hD.small, hD.ok⟩, by with_reducible repeat (first | exact Ext.refl _ | apply Ext.drew | apply Ext.alloc | apply Ext.more_)⟩
set_option maxHeartbeats 1000000 in
theorem gturn_any (A : Option Addr) (cap : Nat) (a : Ar) (w : World) (h : ArgsIn w A 1 cap [a]) :
    Calls Tryz.prog 51 #[.slice A 1 cap] w fun e w' => ResA w (turnN a.x) e w' := by
  obtain ⟨b, off, rfl, ⟨v0, v1, v2⟩, hok⟩ := h.get (k := 0) (a := a) rfl
  have hbl := lt_of_cell v0
  have hcap := h.cap
  have ht := fun W (hW : ArrIn W a.A a.n a.cap a.x.l) => turn_res a.x a.A a.n a.cap W hW hok.right
  generalize turnN a.x = y at *
  have HA := Lib.hid hok.arr
  clear h hok
  simp only [Nat.zero_mul, Nat.add_zero] at v0 v1 v2
  go_enter Tryz.func51, Tryz.ntmps51
  go_wp2_with (first | (go_at_call 52; (with_reducible refine (ht _ (HA.out.ext (by with_reducible repeat (first | exact Ext.refl _ | apply Ext.drew | apply Ext.alloc | apply Ext.more_)))).mono ?_); rintro e w' ⟨D, m, cc, rfl, hD, hb⟩; obtain ⟨os5, d5, rfl⟩ := hb.more; clear hb; have hDr := hD.rd))
  exact bodyPost_ret (v := AV y.R y.C (.slice D m cc)) (by simp [results, Tryz.results51, go_sem]) rfl ⟨D, m, cc, rfl, ⟨(by (try simp only [more_more] at hDr); (try simp only [drew_more] at hDr); (try simp only [more_drew] at hDr); (try simp only [Array.append_assoc] at hDr); exact Rd.swap hDr (by first | (simp; done) | (simp; omega) | omega) (by first | (simp; done) | (simp; omega) | omega) (by first | (simp; done) | (simp; omega) | omega)), hD.len, hD.cap, hD.small, hD.ok⟩, by with_reducible repeat (first | exact Ext.refl _ | apply Ext.drew | apply Ext.alloc | apply Ext.more_)⟩
set_option maxHeartbeats 1000000 in
theorem gtocol_any (A : Option Addr) (cap : Nat) (a : Ar) (w : World) (h : ArgsIn w A 1 cap [a]) :
    Calls Tryz.prog 47 #[.slice A 1 cap] w fun e w' => ResA w ⟨a.x.l.length, 1, a.x.l⟩ e w' := by
  obtain ⟨b, off, rfl, ⟨v0, v1, v2⟩, hok⟩ := h.get (k := 0) (a := a) rfl
  have hbl := lt_of_cell v0
  have hcap := h.cap
  obtain ⟨r1, r2, r3, r4, r5⟩ := rightA_nat.1 hok.right
  have hln := hok.arr.len
  have hn1 : 0 < a.n := by rw [← hln, r4]; exact Nat.mul_pos r1 r2
  have hcl := fun W (hW : ArrIn W a.A a.n a.cap a.x.l) => clone_any a.A a.n a.cap a.x.l W hW hn1 (by omega)
  have HA := Lib.hid hok.arr
  have hao := hok.arr.ok
  have hb16 : a.n ≤ 4096 := by omega
  rw [hln]
  clear h hok r1 r2 r3 r4 r5
  simp only [Nat.zero_mul, Nat.add_zero] at v0 v1 v2
  go_enter Tryz.func47, Tryz.ntmps47
  go_upto_region 1 with fail
  refine wp_plan (S := Ext _) [(0, 0), (1, 0), (2, 0), (3, 0), (4, 0), (5, 0), (6, 0), (7, 0), (8, 0), (9, 1), (10, 1), (11, 2)] [11] (by kernel_rfl) (by kernel_rfl) (by kernel_rfl) (fun _ _ d _ _ h => by cases d <;> exact h) (Ext.drew (Ext.refl _)) ?_
  iterate 9 ((refine wpPl_read (v := ?_) rfl ?_ (fun _ h => ?_) ?_; rotate_left 1; rfl; (obtain ⟨_, _, rfl⟩ := h.more; go_simp; try rfl)); try simp only [Act.put, zqA, zqB, zqC])
  (refine wpPl_eff rfl ?_ (fun K hK => ?_); rfl; go_simp; refine (hcl _ (HA.out.ext (by with_reducible repeat (first | exact Ext.refl _ | apply Ext.drew | apply Ext.alloc | apply Ext.more_)))).mono ?_; rintro e w' ⟨D, cc, rfl, hDr, hcc, hb⟩; obtain ⟨os5, d5, rfl⟩ := hb.more; clear hb; refine hK _ _ ?_ ?_; (repeat (first | (with_reducible (first | exact Ext.refl _ | exact ext_d _ _ _ _ | exact ext_app _ _ _ _ _ | exact ext_app2 _ _ _ _ _ _ | exact ext_app3 _ _ _ _ _ _ _ | exact ext_app4 _ _ _ _ _ _ _ _ | exact ext_app5 _ _ _ _ _ _ _ _ _)) | ((with_reducible refine ext_suffix ⟨_, ?_⟩); (try simp only [Array.append_assoc]); rfl) | (with_reducible (first | apply Ext.drew | apply Ext.alloc | apply Ext.more_)) | apply Ext.drew | apply Ext.alloc | apply Ext.more_)))
  try simp only [Act.put, zqA, zqB, zqC]
  (refine wpPl_eff rfl ?_ (fun K hK => ?_); rfl; go_simp; refine (made_any _ _ _ _ _ _).mono ?_; rintro e w' ⟨rfl, hb⟩; have hDr := Rd.ext hDr hb; obtain ⟨os6, d6, rfl⟩ := hb.more; clear hb; refine hK _ _ ?_ ?_; (repeat (first | (with_reducible (first | exact Ext.refl _ | exact ext_d _ _ _ _ | exact ext_app _ _ _ _ _ | exact ext_app2 _ _ _ _ _ _ | exact ext_app3 _ _ _ _ _ _ _ | exact ext_app4 _ _ _ _ _ _ _ _ | exact ext_app5 _ _ _ _ _ _ _ _ _)) | ((with_reducible refine ext_suffix ⟨_, ?_⟩); (try simp only [Array.append_assoc]); rfl) | (with_reducible (first | apply Ext.drew | apply Ext.alloc | apply Ext.more_)) | apply Ext.drew | apply Ext.alloc | apply Ext.more_)))
  try simp only [Act.put, zqA, zqB, zqC]
  (refine wpPl_tail rfl ?_ (fun K hK => ?_); rfl; go_simp; refine hK _ _ ?_)
  try simp only [Act.put]
  refine wpPl_nil ?_
  go_wp2_with fail
  exact bodyPost_ret (v := AV a.n 1 (.slice D a.n cc)) (by simp [results, Tryz.results47, go_sem]) rfl ⟨D, a.n, cc, rfl, ⟨(by (try simp only [more_more] at hDr); (try simp only [drew_more] at hDr); (try simp only [more_drew] at hDr); (try simp only [Array.append_assoc] at hDr); exact Rd.swap hDr (by first | (simp; done) | (simp; omega) | omega) (by first | (simp; done) | (simp; omega) | omega) (by first | (simp; done) | (simp; omega) | omega)), hln, hcc, by omega, hao⟩, by with_reducible repeat (first | exact Ext.refl _ | apply Ext.drew | apply Ext.alloc | apply Ext.more_)⟩
set_option maxHeartbeats 1000000 in
theorem gtorow_any (A : Option Addr) (cap : Nat) (a : Ar) (w : World) (h : ArgsIn w A 1 cap [a]) :
    Calls Tryz.prog 50 #[.slice A 1 cap] w fun e w' => ResA w ⟨1, a.x.l.length, a.x.l⟩ e w' := by
  obtain ⟨b, off, rfl, ⟨v0, v1, v2⟩, hok⟩ := h.get (k := 0) (a := a) rfl
  have hbl := lt_of_cell v0
  have hcap := h.cap
  obtain ⟨r1, r2, r3, r4, r5⟩ := rightA_nat.1 hok.right
  have hln := hok.arr.len
  have hn1 : 0 < a.n := by rw [← hln, r4]; exact Nat.mul_pos r1 r2
  have hcl := fun W (hW : ArrIn W a.A a.n a.cap a.x.l) => clone_any a.A a.n a.cap a.x.l W hW hn1 (by omega)
  have HA := Lib.hid hok.arr
  have hao := hok.arr.ok
  have hb16 : a.n ≤ 4096 := by omega
  rw [hln]
  clear h hok r1 r2 r3 r4 r5
  simp only [Nat.zero_mul, Nat.add_zero] at v0 v1 v2
  go_enter Tryz.func50, Tryz.ntmps50
  go_upto_region 1 with fail
  refine wp_plan (S := Ext _) [(0, 0), (1, 0), (2, 0), (3, 0), (4, 0), (5, 0), (6, 0), (7, 0), (8, 0), (9, 1), (10, 1), (11, 2)] [11] (by kernel_rfl) (by kernel_rfl) (by kernel_rfl) (fun _ _ d _ _ h => by cases d <;> exact h) (Ext.drew (Ext.refl _)) ?_
  iterate 9 ((refine wpPl_read (v := ?_) rfl ?_ (fun _ h => ?_) ?_; rotate_left 1; rfl; (obtain ⟨_, _, rfl⟩ := h.more; go_simp; try rfl)); try simp only [Act.put, zqA, zqB, zqC])
  (refine wpPl_eff rfl ?_ (fun K hK => ?_); rfl; go_simp; refine (hcl _ (HA.out.ext (by with_reducible repeat (first | exact Ext.refl _ | apply Ext.drew | apply Ext.alloc | apply Ext.more_)))).mono ?_; rintro e w' ⟨D, cc, rfl, hDr, hcc, hb⟩; obtain ⟨os5, d5, rfl⟩ := hb.more; clear hb; refine hK _ _ ?_ ?_; (repeat (first | (with_reducible (first | exact Ext.refl _ | exact ext_d _ _ _ _ | exact ext_app _ _ _ _ _ | exact ext_app2 _ _ _ _ _ _ | exact ext_app3 _ _ _ _ _ _ _ | exact ext_app4 _ _ _ _ _ _ _ _ | exact ext_app5 _ _ _ _ _ _ _ _ _)) | ((with_reducible refine ext_suffix ⟨_, ?_⟩); (try simp only [Array.append_assoc]); rfl) | (with_reducible (first | apply Ext.drew | apply Ext.alloc | apply Ext.more_)) | apply Ext.drew | apply Ext.alloc | apply Ext.more_)))
  try simp only [Act.put, zqA, zqB, zqC]
  (refine wpPl_eff rfl ?_ (fun K hK => ?_); rfl; go_simp; refine (made_any _ _ _ _ _ _).mono ?_; rintro e w' ⟨rfl, hb⟩; have hDr := Rd.ext hDr hb; obtain ⟨os6, d6, rfl⟩ := hb.more; clear hb; refine hK _ _ ?_ ?_; (repeat (first | (with_reducible (first | exact Ext.refl _ | exact ext_d _ _ _ _ | exact ext_app _ _ _ _ _ | exact ext_app2 _ _ _ _ _ _ | exact ext_app3 _ _ _ _ _ _ _ | exact ext_app4 _ _ _ _ _ _ _ _ | exact ext_app5 _ _ _ _ _ _ _ _ _)) | ((with_reducible refine ext_suffix ⟨_, ?_⟩); (try simp only [Array.append_assoc]); rfl) | (with_reducible (first | apply Ext.drew | apply Ext.alloc | apply Ext.more_)) | apply Ext.drew | apply Ext.alloc | apply Ext.more_)))
  try simp only [Act.put, zqA, zqB, zqC]
  (refine wpPl_tail rfl ?_ (fun K hK => ?_); rfl; go_simp; refine hK _ _ ?_)
  try simp only [Act.put]
  refine wpPl_nil ?_
  go_wp2_with fail
  exact bodyPost_ret (v := AV 1 a.n (.slice D a.n cc)) (by simp [results, Tryz.results50, go_sem]) rfl ⟨D, a.n, cc, rfl, ⟨(by (try simp only [more_more] at hDr); (try simp only [drew_more] at hDr); (try simp only [more_drew] at hDr); (try simp only [Array.append_assoc] at hDr); exact Rd.swap hDr (by first | (simp; done) | (simp; omega) | omega) (by first | (simp; done) | (simp; omega) | omega) (by first | (simp; done) | (simp; omega) | omega)), hln, hcc, by omega, hao⟩, by with_reducible repeat (first | exact Ext.refl _ | apply Ext.drew | apply Ext.alloc | apply Ext.more_)⟩
end Go.Proofs.YtmjmijjbijlhfaaGreatDoor
namespace Go.Proofs.YtmjmijjbijlhfaaGreatDoor
open Go.RowKit NM
/-- A slice of places in memory of its own. -/
def Pls (base : Nat) (w : World) (v : Value) (ps : List Nat) : Prop := w.ownsRow base 3 1 v ps.length (i6 ps)
theorem rng_succ {lo j : Nat} (h : lo ≤ j) : rng lo (j + 1) = rng lo j ++ [j] := by
  unfold rng
  rw [show j + 1 - lo = (j - lo) + 1 by omega, List.range'_concat]
  congr 2; omega
set_option maxHeartbeats 2000000 in
theorem grun_any (lo hi : Nat) (hlo : lo ≤ 100000) (hhi : hi ≤ 100000) (w : World) :
    Calls Tryz.prog 143 #[.int .i64 (lo : Int), .int .i64 (hi : Int)] w fun e w' => ∃ v, e = .returned v ∧ Pls w.heap.size w' v (rng lo hi) ∧ Ext w w' := by
  obtain ⟨i0, hi0, hz0, hz1, hz2⟩ := info_parts info_int_
  go_enter Tryz.func143, Tryz.ntmps143
  go_wp2_with fail
  go_loopw [5, 6] (fun v i wr => ∃ j : Nat, lo ≤ j ∧ (j ≤ hi ∨ j = lo) ∧ i = .int .i64 (j : Int) ∧ Hid (wr.ownsRow w.heap.size 3 1 v (j - lo) (i6 (rng lo j))) ∧ Ext w wr) (fun _ i _ => hi - (intOf i).toNat)
  case atStart =>
    refine ⟨lo, Nat.le_refl _, Or.inr rfl, rfl, ?_, Ext.refl _⟩
    show World.ownsRow _ _ _ _ _ _ _
    rw [show rng lo lo = [] by simp [rng], Nat.sub_self]
    exact World.ownsRow_nil _ _ _ _
  case round =>
    obtain ⟨j, h1, h2, rfl, HW, hxr⟩ := hrel
    have hsz := hxr.size
    by_cases hlt : j < hi
    · go_wp2_with (at_builtin; refine wpList_append_own _ rfl _ _ _ rfl w.heap.size 3 i0 (.int .i64 0) 1 8 Tryz.underlying37 hi0 hz0 hz1 hz2 rfl (by decide) _ (j - lo) (i6 (rng lo j)) rfl (own_allocT HW.out _) _ 1 1 [.int .i64 j] rfl rfl (Rd.one_ _ _ rfl).add (one_i6 [j]) (by simp [maxLen]; omega) (by omega) (by simp; omega) ?_; intro v4 w4 ho4 hg4 _)
      have hx4 := ext_grown (hxr.alloc _) (own_allocT HW.out _) hg4
      refine ⟨⟨j + 1, by omega, Or.inl (by omega), by go_num, ?_, hx4⟩, by simp [intOf]; omega⟩
      show World.ownsRow _ _ _ _ _ _ _
      rw [rng_succ h1, show j + 1 - lo = j - lo + 1 by omega]; unfold i6; rw [List.map_append]
      exact ho4
    · go_wp2_with fail
      go_ret
      refine ⟨_, rfl, ?_, hxr⟩
      have hj : rng lo j = rng lo hi := by
        rcases h2 with h2 | h2
        · rw [show j = hi by omega]
        · subst h2; simp [rng]; omega
      unfold Pls
      rw [← hj, rng_length]
      exact HW.out
end Go.Proofs.YtmjmijjbijlhfaaGreatDoor
namespace Go.Proofs.YtmjmijjbijlhfaaGreatDoor
open Go.RowKit NM
theorem ext_grownN {X W w3 : World} {ty : TypeId} {size n : Nat} {v : Value} {xs : List Value} (hx : Ext X W) (ho : W.ownsRow X.heap.size ty size v n xs) (hg : W.grownBy w3 v.ownBlock) : Ext X w3 :=
  ⟨hg.os.trans hx.os, hg.tape.trans hx.tape, hg.output.trans hx.output, Nat.le_trans hx.size hg.size, fun b hb => (hg.block b (Nat.lt_of_lt_of_le hb hx.size) (fun e => by have := own_block ho _ e.symm; omega)).trans (hx.block hb)⟩
theorem ArrIn.part {w : World} {A : Option Addr} {n cap : Nat} {l : List Val} (h : ArrIn w A n cap l) {p m : Nat} (hp : p + m ≤ n) (hm : 0 < m) :
    ∃ b off, A = some ⟨b, off, none⟩ ∧ b < w.heap.size ∧ ∀ j u, (vcells ((l.drop p).take m))[j]? = some u → w.cell? ⟨b, off + p * 6 + j, none⟩ = some u := by
  obtain ⟨x, b, off, hx, _, hA, hv⟩ := h.at (k := p) (by omega)
  refine ⟨b, off, hA, lt_of_cell hv.1, fun j u hu => ?_⟩
  have hl : l = l.take p ++ ((l.drop p).take m ++ (l.drop p).drop m) := by rw [List.take_append_drop, List.take_append_drop]
  have hj : j < (vcells ((l.drop p).take m)).length := (List.getElem?_eq_some_iff.1 hu).1
  have h1 : (vcells l)[p * 6 + j]? = some u := by
    rw [hl, vcells_append, vcells_append]
    have hlp : (vcells (l.take p)).length = p * 6 := by rw [vcells_length, List.length_take]; have := h.len; rw [Nat.min_eq_left (by omega)]
    rw [List.getElem?_append_right (by rw [hlp]; omega), hlp, show p * 6 + j - p * 6 = j by omega, List.getElem?_append_left hj]
    exact hu
  obtain ⟨b', off', hA', _, hc⟩ := h.rd _ _ h1
  rw [hA] at hA'
  simp only [Option.some.injEq, Addr.mk.injEq, and_true] at hA'
  obtain ⟨rfl, rfl⟩ := hA'
  rw [Nat.add_assoc]; exact hc
theorem make_vals (N : Nat) (hN : N ≤ 4096) (W : World) : (Instr.makeSlice 29 (.int .i64 0) (.int .i64 (N : Int))).run Tryz.prog W = .ok (.slice (some ⟨W.heap.size, 0, none⟩) 0 N) (W.alloc (.cells (madeCells #[.int .i64 0, .int .i64 0, .int .i64 0, .string ⟨#[]⟩, .bool false, .int .i64 0] (N * 6)) 43)) := by
  obtain ⟨i0, hi, hz0, hz1, hz2⟩ := info_parts info_val
  have := run_make (P := Tryz.prog) W 29 43 i0 _ Tryz.underlying29 hi hz0 .i64 .i64 0 (N : Int) (by omega) (by omega) (by rw [hz2]; omega) (by omega)
  simpa [hz1, Value.cells] using this
theorem made_own (X : World) (base N : Nat) (hN : N ≤ 4096) (hb : base ≤ X.heap.size) : (X.alloc (.cells (madeCells #[.int .i64 0, .int .i64 0, .int .i64 0, .string ⟨#[]⟩, .bool false, .int .i64 0] (N * 6)) 43)).ownsRow base 43 6 (.slice (some ⟨X.heap.size, 0, none⟩) 0 N) 0 [] := by
  have h0 := World.ownsRow_made (base := base) (e := 43) (size := 6) X (madeCells #[.int .i64 0, .int .i64 0, .int .i64 0, .string ⟨#[]⟩, .bool false, .int .i64 0] (N * 6)) N hb (by simp only [maxLen]; omega) (by rw [size_madeCells])
  exact h0
/-- What a list of one's own is, handed back. -/
theorem own_arrN {X w w' : World} {v : Value} {n : Nat} {l : List Val} (h : w'.ownsRow X.heap.size 43 6 v n (vcells l)) (hx : w.heap.size ≤ X.heap.size) (hn : n ≤ 9223372036854775807) (hok : ∀ x ∈ l, x.ok) :
    ∃ D cc, v = .slice D n cc ∧ ArrN w.heap.size w' D n cc l := by
  obtain ⟨D, cc, hv, hr, hc⟩ := Rd.of_own h
  have hl : l.length = n := by have := h.1; rw [vcells_length] at this; omega
  exact ⟨D, cc, hv, ⟨hr.mono hx, hl, hc, hn, hok⟩⟩
theorem rows_step {C : Nat} {l : List Val} {ps : List Nat} {k r : Nat} (hr : ps[k]? = some r) : (ps.take (k + 1)).flatMap (rowL C l) = (ps.take k).flatMap (rowL C l) ++ rowL C l r := by
  rw [List.take_add_one, hr, List.flatMap_append]; simp
theorem lt_mul {r R C : Nat} (h : r < R) (hm : R * C ≤ 4096) : r * C + C ≤ R * C ∧ r * C ≤ 4096 := by
  have := Nat.mul_le_mul_right C (show r + 1 ≤ R by omega)
  rw [Nat.add_mul, Nat.one_mul] at this
  omega
set_option maxHeartbeats 4000000 in
theorem rowsOf_any (R C : Nat) (l : List Val) (A : Option Addr) (n cap : Nat) (ps : List Nat) (B : Option Addr) (cb : Nat) (w : World) (h : ArrIn w A n cap l) (hr : NA.right ⟨R, C, l⟩) (hps : Rd 0 w B (i6 ps)) (hcb : ps.length ≤ cb) (hp : ∀ r ∈ ps, r < R) (hm : ps.length * C ≤ 4096) (hm2 : ps.length ≤ 4096) :
    Calls Tryz.prog 84 #[AV R C (.slice A n cap), .slice B ps.length cb] w fun e w' => ResA w (rowsN ⟨R, C, l⟩ ps) e w' := by
  obtain ⟨r1, r2, r3, r4, r5⟩ := rightA_nat.1 hr
  simp only at r1 r2 r3 r4 r5
  have hln := h.len
  obtain ⟨i0, hi0, hz0, hz1, hz2⟩ := info_parts info_val
  have hmk := make_vals (ps.length * C) hm
  have hw0 : IntKind.i64.wrap ((ps.length : Int) * (C : Int)) = ((ps.length * C : Nat) : Int) := by rw [IntKind.wrap_i64, Int.natCast_mul]; rw [← Int.natCast_mul]; omega
  have hres : rowsN ⟨R, C, l⟩ ps = ⟨ps.length, C, ps.flatMap (rowL C l)⟩ := rfl
  have hok : ∀ x ∈ ps.flatMap (rowL C l), x.ok := rowsN_all (a := ⟨R, C, l⟩) r4 hp h.ok
  rw [hres]
  have HO := Lib.hid hok
  have HL := Lib.hid hm
  have hmo := made_own ((w.alloc (Obj.cells #[.int .i64 (R : Int), .int .i64 (C : Int), .slice (A) n cap] 31)).alloc (Obj.cells #[.int .i64 0, .int .i64 0, .slice none 0 0] 31)) ((w.alloc (Obj.cells #[.int .i64 (R : Int), .int .i64 (C : Int), .slice (A) n cap] 31)).alloc (Obj.cells #[.int .i64 0, .int .i64 0, .slice none 0 0] 31)).heap.size (ps.length * C) hm (Nat.le_refl _)
  have hC4 : C ≤ 4096 := Nat.le_trans (Nat.le_mul_of_pos_left C r1) r3
  generalize hN : ps.length * C = N at *
  have HN := Lib.hid hN
  clear hN hres hok
  go_enter Tryz.func84, Tryz.ntmps84
  go_wp2_with fail
  go_loopw [5, 16] (fun v i wr => ∃ k : Nat, k ≤ ps.length ∧ i = .int .i64 (k : Int) ∧ Hid (wr.ownsRow ((w.alloc (Obj.cells #[.int .i64 (R : Int), .int .i64 (C : Int), .slice (A) n cap] 31)).alloc (Obj.cells #[.int .i64 0, .int .i64 0, .slice none 0 0] 31)).heap.size 43 6 v (k * C) (vcells ((ps.take k).flatMap (rowL C l)))) ∧ Ext ((w.alloc (Obj.cells #[.int .i64 (R : Int), .int .i64 (C : Int), .slice (A) n cap] 31)).alloc (Obj.cells #[.int .i64 0, .int .i64 0, .slice none 0 0] 31)) wr) (fun _ i _ => ps.length - (intOf i).toNat)
  case atStart =>
    refine ⟨0, Nat.zero_le _, rfl, ?_, (Ext.refl _).alloc _⟩
    show World.ownsRow _ _ _ _ _ _ _
    rw [Nat.zero_mul]
    simp only [World.size_alloc] at hmo ⊢
    exact hmo
  case round =>
    obtain ⟨k, hk, rfl, HW, hxr⟩ := hrel
    have hsz := hxr.size
    have hx0 := hxr
    obtain ⟨os, d, rfl⟩ := hxr.more
    clear hxr hmo
    by_cases hlt : k < ps.length
    · obtain ⟨r, hrk⟩ : ∃ r, ps[k]? = some r := ⟨_, List.getElem?_eq_getElem hlt⟩
      have hrR : r < R := hp r (List.mem_of_getElem? hrk)
      obtain ⟨m1, m2⟩ := lt_mul hrR r3
      obtain ⟨bp, op, rfl, _, hcp⟩ := hps k (.int .i64 r) (by rw [List.getElem?_map, hrk]; rfl)
      have hbp := lt_of_cell hcp
      obtain ⟨b, off, rfl, hbl, hcell⟩ := h.part (p := r * C) (m := C) (by omega) r2
      have hcap := h.cap
      have hkC : k * C + C ≤ N := by rw [← HN.out]; have := Nat.mul_le_mul_right C (show k + 1 ≤ ps.length by omega); rw [Nat.add_mul, Nat.one_mul] at this; exact this
      have hl6 : (vcells ((l.drop (r * C)).take C)).length = C * 6 := by rw [vcells_length, List.length_take, List.length_drop]; omega
      have hstep := rows_step (C := C) (l := l) hrk
      have e1 : IntKind.i64.wrap ((r : Int) * (C : Int)) = ((r * C : Nat) : Int) := by rw [IntKind.wrap_i64, ← Int.natCast_mul]; omega
      have hrC : r ≤ 4096 := Nat.le_trans (Nat.le_mul_of_pos_right r r2) m2
      have e3 : IntKind.i64.wrap (((r : Int) + 1) * (C : Int)) = ((r * C + C : Nat) : Int) := by
        rw [IntKind.wrap_i64, Int.add_mul, Int.one_mul, ← Int.natCast_mul, ← Int.natCast_add]
        generalize r * C + C = z at *
        omega
      have hne : ¬ cap = r * C := by omega
      have HS := Lib.hid hstep
      have HK := Lib.hid hkC
      generalize hP : r * C = P at *
      have hPC : P + C - P = C := by omega
      clear hstep hkC hrk hr hp
      go_wp2_with (at_builtin; refine wpList_append_own _ rfl _ _ _ rfl ((w.alloc (Obj.cells #[.int .i64 (R : Int), .int .i64 (C : Int), .slice (some ⟨b, off, none⟩) n cap] 31)).alloc (Obj.cells #[.int .i64 0, .int .i64 0, .slice none 0 0] 31)).heap.size 43 i0 (VV 0 0 0 ⟨#[]⟩ false 0) 6 56 Tryz.underlying29 hi0 hz0 hz1 hz2 rfl (by decide) _ (k * C) _ rfl HW.out _ (P + C - P) _ (vcells ((l.drop P).take C)) rfl (by rw [hPC]; exact hl6) (fun j u hu => by rw [Addr.add_mid]; exact (Ext.trans (b := ((w.alloc (Obj.cells #[.int .i64 (R : Int), .int .i64 (C : Int), .slice (some ⟨b, off, none⟩) n cap] 31)).alloc (Obj.cells #[.int .i64 0, .int .i64 0, .slice none 0 0] 31))) (by with_reducible repeat (first | exact Ext.refl _ | apply Ext.drew | apply Ext.alloc | apply Ext.more_)) hx0).cell_some (hcell j u hu)) (fun u hu => vcells_one u hu) (by have := HK.out; rw [hPC]; simp only [maxLen]; omega) (by have := HK.out; rw [hPC]; omega) hsz ?_; intro v4 w4 ho4 hg4 _)
      have hx4 := ext_grownN hx0 HW.out hg4
      refine ⟨⟨k + 1, by omega, by go_num, ?_, hx4⟩, by simp [intOf]; omega⟩
      show World.ownsRow _ _ _ _ _ _ _
      rw [HS.out, vcells_append, show (k + 1) * C = k * C + C by rw [Nat.add_mul, Nat.one_mul]]
      unfold rowL
      rw [hP]
      rw [hPC] at ho4
      exact ho4
    · obtain rfl : k = ps.length := by omega
      have hT : ps.take ps.length = ps := List.take_length
      have HW2 := HW.out
      rw [hT, HN.out] at HW2
      obtain ⟨D, cc, rfl, hD⟩ := own_arrN (w := ((w.alloc (Obj.cells #[.int .i64 (R : Int), .int .i64 (C : Int), .slice (A) n cap] 31)).alloc (Obj.cells #[.int .i64 0, .int .i64 0, .slice none 0 0] 31))) (X := ((w.alloc (Obj.cells #[.int .i64 (R : Int), .int .i64 (C : Int), .slice (A) n cap] 31)).alloc (Obj.cells #[.int .i64 0, .int .i64 0, .slice none 0 0] 31))) HW2 (Nat.le_refl _) (by omega) HO.out
      clear HW HW2 hT
      go_wp2_with (go_at_call 48; (with_reducible refine (made_any _ _ _ _ _ _).mono ?_); rintro e w' ⟨rfl, hb⟩; have hDr := Rd.ext hD.rd hb; obtain ⟨os6, d6, rfl⟩ := hb.more; clear hb)
      exact bodyPost_ret (v := AV ps.length C (.slice D N cc)) (by simp [results, Tryz.results84, go_sem]) rfl ⟨D, N, cc, rfl, ⟨(by (try simp only [more_more] at hDr); (try simp only [drew_more] at hDr); (try simp only [more_drew] at hDr); (try simp only [Array.append_assoc] at hDr); exact Rd.swap hDr (by first | (simp; done) | (simp; omega) | omega) (by first | (simp; done) | (simp; omega) | omega) (by first | (simp; done) | (simp; omega) | omega)), hD.len, hD.cap, hD.small, hD.ok⟩, by with_reducible repeat (first | exact Ext.refl _ | apply Ext.drew | apply Ext.alloc | apply Ext.more_)⟩
end Go.Proofs.YtmjmijjbijlhfaaGreatDoor
namespace Go.Proofs.YtmjmijjbijlhfaaGreatDoor
open Go.RowKit NM
/-- Places that may be taken. -/
structure PlOk (ps : List Nat) (h : Nat) : Prop where
  pos : 1 ≤ ps.length
  le : ps.length ≤ h
  lt : ∀ r ∈ ps, r < h
/-- rowsOf, at an array and places known by name. -/
theorem rowsOf_pl (a : NA) (A : Option Addr) (n cap : Nat) (ps : List Nat) (B : Option Addr) (cb : Nat) (w : World) (h : ArrIn w A n cap a.l) (hr : a.right) (hps : Rd 0 w B (i6 ps)) (hcb : ps.length ≤ cb) (hp : PlOk ps a.R) :
    Calls Tryz.prog 84 #[AV a.R a.C (.slice A n cap), .slice B ps.length cb] w fun e w' => ResA w (rowsN a ps) e w' := by
  obtain ⟨r1, r2, r3, r4, r5⟩ := rightA_nat.1 hr
  exact rowsOf_any a.R a.C a.l A n cap ps B cb w h hr hps hcb hp.lt (Nat.le_trans (Nat.mul_le_mul_right _ hp.le) r3) (Nat.le_trans hp.le (Nat.le_trans (Nat.le_mul_of_pos_right a.R r2) r3))
end Go.Proofs.YtmjmijjbijlhfaaGreatDoor
namespace Go.Proofs.YtmjmijjbijlhfaaGreatDoor
open Go.RowKit NM
theorem make_one (W : World) (h : Tab W) : Calls Tryz.prog 79 #[.int .i64 1, .int .i64 0] W fun e w' => e = .returned (.tuple #[NV 1 0, .bool true]) ∧ Ext W w' := by
  have := make_any 1 0 W h (by unfold I64; omega) (by unfold I64; omega)
  rw [show rnd (decide ((1 : Int) < 0)) (1 : Int).natAbs false 0 = some (1, 0) from rnd_of_right false rt_one] at this
  exact this
theorem given_lt {w : World} {A : Option Addr} {n cap k : Nat} {xs : List Ar} (h : ArgsIn w A n cap xs) (hg : givenB xs k = true) : k < n := by
  rcases Nat.lt_or_ge k n with hl | hl
  · exact hl
  · unfold givenB at hg; rw [List.getElem?_eq_none (by rw [h.len]; exact hl)] at hg; cases hg
theorem quo_lt {r c : Int} (hc : 1 ≤ c) : 4096 / c < r ↔ 4096 < r * c := by
  rw [Int.ediv_lt_iff_lt_mul (by omega)]
theorem tnO_rt {w : World} {A : Option Addr} {n cap k : Nat} {xs : List Ar} (h : ArgsIn w A n cap xs) : Rt (tnO xs k).1.1 (tnO xs k).1.2 := by
  unfold tnO
  cases hg : givenB xs k with
  | false => exact rt_one
  | true =>
    obtain ⟨R, C, l, b1, off1, n1', cap1, b, off, x, _, rfl, _, _, _, _, _, hxr, _, _, hav, _⟩ := h.first (given_lt h hg)
    rw [if_pos rfl, hav]
    exact tn_rt hxr
theorem new_own6 {w : World} {base n : Nat} {ty : TypeId} {C : Array Value} (x : Val) (hC : C = x.cells.toArray) (hn : n = w.heap.size) (hb : base ≤ n) : (w.alloc (.cells C ty)).ownsRow base ty 6 (.slice (some ⟨n, 0, none⟩) 1 1) 1 (vcells [x]) := by
  subst hn hC
  exact ⟨by simp [Val.cells, vcells], Or.inr ⟨w.heap.size, 1, _, rfl, hb, Array.getElem?_push_size, Nat.le_refl _, by decide, by simp [Val.cells], by simp [Val.cells, vcells]⟩⟩
theorem heap_two (Z : World) (o o' s s' : Obj) (os : Array Obj) (d : Nat) {g : Nat} (hg : Z.heap.size + 2 ≤ g) : (more ((Z.alloc o).alloc s) os d).heap[g]? = (more ((Z.alloc o').alloc s') os d).heap[g]? := by
  simp only [more, World.alloc, Array.getElem?_append, Array.getElem?_push, Array.size_push]
  rw [if_neg (by omega), if_neg (by omega)]
theorem own_two {Z : World} {o s : Obj} (o' s' : Obj) {os : Array Obj} {d base size n : Nat} {ty : TypeId} {v : Value} {xs : List Value} (h : (more ((Z.alloc o).alloc s) os d).ownsRow base ty size v n xs) (hb : Z.heap.size + 2 ≤ base) : (more ((Z.alloc o').alloc s') os d).ownsRow base ty size v n xs := by
  refine ⟨h.1, ?_⟩
  rcases h.2 with h2 | ⟨g, cap, cur, hv, hg, hh, r⟩
  · exact .inl h2
  · exact .inr ⟨g, cap, cur, hv, hg, by rw [heap_two Z o' o s' s os d (by omega)]; exact hh, r⟩
set_option maxHeartbeats 4000000 in
theorem gseq_any (A : Option Addr) (n cap : Nat) (xs : List Ar) (w : World) (htab : Tab w) (h : ArgsIn w A n cap xs) :
    Calls Tryz.prog 44 #[.slice A n cap] w fun e w' => ResA w (sequenceO xs) e w' := by
  have n0 := fun W (hW : ArgsIn W A n cap xs) => gnumber_any A n cap xs 0 1 W hW _ rfl
  have n1 := fun W (hW : ArgsIn W A n cap xs) => gnumber_any A n cap xs 1 1 W hW _ rfl
  have v2 := fun W (hW : ArgsIn W A n cap xs) => given_any A n cap xs 2 W hW _ rfl
  have v3 := fun W (hW : ArgsIn W A n cap xs) => given_any A n cap xs 3 W hW _ rfl
  have H := Lib.hid h
  have HT := Lib.hid htab
  unfold sequenceO
  generalize numO xs 0 1 = mm at *
  generalize numO xs 1 1 = kk at *
  obtain ⟨mi, mf⟩ := mm
  obtain ⟨ki, kf⟩ := kk
  simp only [show ((0 : Nat) : Int) = 0 from rfl, show ((1 : Nat) : Int) = 1 from rfl, show ((2 : Nat) : Int) = 2 from rfl, show ((3 : Nat) : Int) = 3 from rfl] at n0 n1 v2 v3
  clear h htab
  by_cases hmf : mf = 0
  · subst hmf
    by_cases hkf : kf = 0
    · subst hkf
      have har := tnO_rt (k := 2) H.out
      have hsr := tnO_rt (k := 3) H.out
      obtain ⟨a, ha⟩ : ∃ a, tnO xs 2 = a := ⟨_, rfl⟩
      obtain ⟨s, hs⟩ : ∃ s, tnO xs 3 = s := ⟨_, rfl⟩
      rw [ha] at har ⊢
      rw [hs] at hsr ⊢
      have HA := Lib.hid ha
      have HS := Lib.hid hs
      clear ha hs
      obtain ⟨X, hX⟩ : ∃ X, seqT (mi, 0) (ki, 0) a s = X := ⟨_, rfl⟩
      rw [hX]
      have HX := Lib.hid hX
      clear hX
      go_enter Tryz.func44, Tryz.ntmps44
      go_upto_region 8 with (first | (go_at_call 81; (with_reducible refine (n0 _ (H.out.ext (by with_reducible repeat (first | exact Ext.refl _ | apply Ext.drew | apply Ext.alloc | apply Ext.more_)))).mono ?_); rintro e w' ⟨rfl, hb⟩; obtain ⟨osa, da, rfl⟩ := hb.more; clear hb) | (go_at_call 81; (with_reducible refine (n1 _ (H.out.ext (by with_reducible repeat (first | exact Ext.refl _ | apply Ext.drew | apply Ext.alloc | apply Ext.more_)))).mono ?_); rintro e w' ⟨rfl, hb⟩; obtain ⟨osb, db, rfl⟩ := hb.more; clear hb) | (go_at_call 79; (with_reducible refine (make_one _ (HT.out.ext (by with_reducible repeat (first | exact Ext.refl _ | apply Ext.drew | apply Ext.alloc | apply Ext.more_)))).mono ?_); rintro e w' ⟨rfl, hb⟩; obtain ⟨osc, dc, rfl⟩ := hb.more; clear hb) | (go_at_call 29; (with_reducible refine (galone_any _ _).mono ?_); rintro e w' ⟨D, m, cc, rfl, hD, hb⟩; obtain ⟨os5, d5, rfl⟩ := hb.more; clear hb; have hDr := hD.rd))
      go_region
      · go_upto_if 38 with (go_at_call 86; (with_reducible refine (v2 _ (H.out.ext (by with_reducible repeat (first | exact Ext.refl _ | apply Ext.drew | apply Ext.alloc | apply Ext.more_)))).mono ?_); rintro e w' ⟨rfl, hb⟩; obtain ⟨osg, dg, rfl⟩ := hb.more; clear hb)
        go_cut [4] (fun s4 wx => ∃ osx dx, s4 = .int .i64 0 ∧ a.2 = 0 ∧ wx = more ((((more (w.alloc (Obj.cells #[.int .i64 0, .int .i64 0, .slice none 0 0] 31)) (osa ++ (osb ++ osc)) dc).alloc (Obj.cells #[.int .i64 1, .int .i64 0] 41)).alloc (Obj.cells #[.int .i64 a.1.1, .int .i64 a.1.2] 41)).alloc (Obj.cells #[.int .i64 1, .int .i64 0] 41)) osx dx)
        case first =>
          cases hg : givenB xs 2 with
          | false =>
            obtain rfl : ((1, 0), 0) = a := by rw [← HA.out]; unfold tnO; rw [hg]; rfl
            clear hg
            go_wp2_with fail
            go_meet
            exact ⟨_, _, rfl, trivial, rfl⟩
          | true =>
            have hlt := given_lt H.out hg
            obtain ⟨R, C, l, b1, off1, n1', cap1, b, off, x, _, rfl, ⟨u0, u1, u2⟩, hn1, hc1, ⟨y0, y1, y2, y3, y4, y5⟩, _, hxr, hbl, hb1, hav, _, _, _⟩ := H.out.first hlt
            have hcap := H.out.cap
            simp only at u0 u1 u2
            obtain rfl : (tnP x, tnF x) = a := by rw [← HA.out]; unfold tnO; rw [hg, if_pos rfl, hav]
            have ht := fun W => toNum_any x W hxr
            clear hg hav
            by_cases hf : tnF x = 0
            · simp only [tnV, hf] at ht
              go_wp2_with (first | (go_at_call 94; (with_reducible refine (ht _).mono ?_); rintro e w' ⟨rfl, hb⟩; obtain ⟨ost, dt, rfl⟩ := hb.more; clear hb))
              go_meet
              exact ⟨_, _, rfl, hf, rfl⟩
            · have hf' : (tnF x != 0) = true := by simpa using hf
              obtain rfl : aloneO (tnF x) = X := by rw [← HX.out]; unfold seqT; rw [if_neg (by simp), if_neg (by simp), if_pos hf]
              go_wp2_with (first | (go_at_call 94; (with_reducible refine (ht _).mono ?_); rintro e w' ⟨rfl, hb⟩; obtain ⟨ost, dt, rfl⟩ := hb.more; clear hb) | (go_at_call 29; (with_reducible refine (galone_any _ _).mono ?_); rintro e w' ⟨D, m, cc, rfl, hD, hb⟩; obtain ⟨os5, d5, rfl⟩ := hb.more; clear hb; have hDr := hD.rd))
              exact bodyPost_ret (v := AV (aloneO (tnF x)).R (aloneO (tnF x)).C (.slice D m cc)) (by simp [results, Tryz.results44, go_sem]) rfl ⟨D, m, cc, rfl, ⟨(by (try simp only [more_more] at hDr); (try simp only [drew_more] at hDr); (try simp only [more_drew] at hDr); (try simp only [Array.append_assoc] at hDr); exact Rd.swap hDr (by first | (simp; done) | (simp; omega) | omega) (by first | (simp; done) | (simp; omega) | omega) (by first | (simp; done) | (simp; omega) | omega)), hD.len, hD.cap, hD.small, hD.ok⟩, by with_reducible repeat (first | exact Ext.refl _ | apply Ext.drew | apply Ext.alloc | apply Ext.more_)⟩
        case rest =>
        obtain ⟨osx, dx, rfl, ha0, rfl⟩ := hcut
        clear osg dg
        go_upto_if 54 with (go_at_call 86; (with_reducible refine (v3 _ (H.out.ext (by with_reducible repeat (first | exact Ext.refl _ | apply Ext.drew | apply Ext.alloc | apply Ext.more_)))).mono ?_); rintro e w' ⟨rfl, hb⟩; obtain ⟨osg, dg, rfl⟩ := hb.more; clear hb)
        go_cut [4] (fun s4 wx => ∃ osy dy, s4 = .int .i64 0 ∧ s.2 = 0 ∧ wx = more ((((more (w.alloc (Obj.cells #[.int .i64 0, .int .i64 0, .slice none 0 0] 31)) (osa ++ (osb ++ osc)) dc).alloc (Obj.cells #[.int .i64 1, .int .i64 0] 41)).alloc (Obj.cells #[.int .i64 a.1.1, .int .i64 a.1.2] 41)).alloc (Obj.cells #[.int .i64 s.1.1, .int .i64 s.1.2] 41)) osy dy)
        case first =>
          cases hg : givenB xs 3 with
          | false =>
            obtain rfl : ((1, 0), 0) = s := by rw [← HS.out]; unfold tnO; rw [hg]; rfl
            clear hg
            go_wp2_with fail
            go_meet
            exact ⟨_, _, rfl, trivial, rfl⟩
          | true =>
            have hlt := given_lt H.out hg
            obtain ⟨R, C, l, b1, off1, n1', cap1, b, off, x, _, rfl, ⟨u0, u1, u2⟩, hn1, hc1, ⟨y0, y1, y2, y3, y4, y5⟩, _, hxr, hbl, hb1, hav, _, _, _⟩ := H.out.first hlt
            have hcap := H.out.cap
            simp only at u0 u1 u2
            obtain rfl : (tnP x, tnF x) = s := by rw [← HS.out]; unfold tnO; rw [hg, if_pos rfl, hav]
            have ht := fun W => toNum_any x W hxr
            clear hg hav
            by_cases hf : tnF x = 0
            · simp only [tnV, hf] at ht
              go_wp2_with (first | (go_at_call 94; (with_reducible refine (ht _).mono ?_); rintro e w' ⟨rfl, hb⟩; obtain ⟨ost, dt, rfl⟩ := hb.more; clear hb))
              go_meet
              exact ⟨_, _, rfl, hf, rfl⟩
            · have hf' : (tnF x != 0) = true := by simpa using hf
              obtain rfl : aloneO (tnF x) = X := by rw [← HX.out]; unfold seqT; rw [if_neg (by simp), if_neg (by simp), if_neg (by simp [ha0]), if_pos hf]
              go_wp2_with (first | (go_at_call 94; (with_reducible refine (ht _).mono ?_); rintro e w' ⟨rfl, hb⟩; obtain ⟨ost, dt, rfl⟩ := hb.more; clear hb) | (go_at_call 29; (with_reducible refine (galone_any _ _).mono ?_); rintro e w' ⟨D, m, cc, rfl, hD, hb⟩; obtain ⟨os5, d5, rfl⟩ := hb.more; clear hb; have hDr := hD.rd))
              exact bodyPost_ret (v := AV (aloneO (tnF x)).R (aloneO (tnF x)).C (.slice D m cc)) (by simp [results, Tryz.results44, go_sem]) rfl ⟨D, m, cc, rfl, ⟨(by (try simp only [more_more] at hDr); (try simp only [drew_more] at hDr); (try simp only [more_drew] at hDr); (try simp only [Array.append_assoc] at hDr); exact Rd.swap hDr (by first | (simp; done) | (simp; omega) | omega) (by first | (simp; done) | (simp; omega) | omega) (by first | (simp; done) | (simp; omega) | omega)), hD.len, hD.cap, hD.small, hD.ok⟩, by with_reducible repeat (first | exact Ext.refl _ | apply Ext.drew | apply Ext.alloc | apply Ext.more_)⟩
        case rest =>
        obtain ⟨osy, dy, rfl, hs0, rfl⟩ := hcut
        clear osx dx
        obtain ⟨⟨am, ae⟩, af⟩ := a
        obtain ⟨⟨sm, se⟩, sf⟩ := s
        simp only at ha0 hs0 har hsr
        subst ha0 hs0
        by_cases q1 : mi < 1
        · obtain rfl : aloneO 9 = X := by rw [← HX.out]; unfold seqT; rw [if_neg (by simp), if_neg (by simp), if_neg (by simp), if_neg (by simp), if_pos (Or.inl q1)]
          go_wp2_with (go_at_call 29; (with_reducible refine (galone_any _ _).mono ?_); rintro e w' ⟨D, m, cc, rfl, hD, hb⟩; obtain ⟨os5, d5, rfl⟩ := hb.more; clear hb; have hDr := hD.rd)
          exact bodyPost_ret (v := AV (aloneO 9).R (aloneO 9).C (.slice D m cc)) (by simp [results, Tryz.results44, go_sem]) rfl ⟨D, m, cc, rfl, ⟨(by (try simp only [more_more] at hDr); (try simp only [drew_more] at hDr); (try simp only [more_drew] at hDr); (try simp only [Array.append_assoc] at hDr); exact Rd.swap hDr (by first | (simp; done) | (simp; omega) | omega) (by first | (simp; done) | (simp; omega) | omega) (by first | (simp; done) | (simp; omega) | omega)), hD.len, hD.cap, hD.small, hD.ok⟩, by with_reducible repeat (first | exact Ext.refl _ | apply Ext.drew | apply Ext.alloc | apply Ext.more_)⟩
        · by_cases q2 : ki < 1
          · obtain rfl : aloneO 9 = X := by rw [← HX.out]; unfold seqT; rw [if_neg (by simp), if_neg (by simp), if_neg (by simp), if_neg (by simp), if_pos (Or.inr q2)]
            go_wp2_with (go_at_call 29; (with_reducible refine (galone_any _ _).mono ?_); rintro e w' ⟨D, m, cc, rfl, hD, hb⟩; obtain ⟨os5, d5, rfl⟩ := hb.more; clear hb; have hDr := hD.rd)
            exact bodyPost_ret (v := AV (aloneO 9).R (aloneO 9).C (.slice D m cc)) (by simp [results, Tryz.results44, go_sem]) rfl ⟨D, m, cc, rfl, ⟨(by (try simp only [more_more] at hDr); (try simp only [drew_more] at hDr); (try simp only [more_drew] at hDr); (try simp only [Array.append_assoc] at hDr); exact Rd.swap hDr (by first | (simp; done) | (simp; omega) | omega) (by first | (simp; done) | (simp; omega) | omega) (by first | (simp; done) | (simp; omega) | omega)), hD.len, hD.cap, hD.small, hD.ok⟩, by with_reducible repeat (first | exact Ext.refl _ | apply Ext.drew | apply Ext.alloc | apply Ext.more_)⟩
          · have hq := quo_lt (r := mi) (c := ki) (by omega)
            by_cases q3 : 4096 < mi * ki
            · obtain rfl : aloneO 5 = X := by rw [← HX.out]; unfold seqT; rw [if_neg (by simp), if_neg (by simp), if_neg (by simp), if_neg (by simp), if_neg (by omega), if_pos q3]
              have q4 : 4096 / ki < mi := hq.2 q3
              go_wp2_with (go_at_call 29; (with_reducible refine (galone_any _ _).mono ?_); rintro e w' ⟨D, m, cc, rfl, hD, hb⟩; obtain ⟨os5, d5, rfl⟩ := hb.more; clear hb; have hDr := hD.rd)
              exact bodyPost_ret (v := AV (aloneO 5).R (aloneO 5).C (.slice D m cc)) (by simp [results, Tryz.results44, go_sem]) rfl ⟨D, m, cc, rfl, ⟨(by (try simp only [more_more] at hDr); (try simp only [drew_more] at hDr); (try simp only [more_drew] at hDr); (try simp only [Array.append_assoc] at hDr); exact Rd.swap hDr (by first | (simp; done) | (simp; omega) | omega) (by first | (simp; done) | (simp; omega) | omega) (by first | (simp; done) | (simp; omega) | omega)), hD.len, hD.cap, hD.small, hD.ok⟩, by with_reducible repeat (first | exact Ext.refl _ | apply Ext.drew | apply Ext.alloc | apply Ext.more_)⟩
            · have q4 : ¬ 4096 / ki < mi := fun e => q3 (hq.1 e)
              clear hq
              obtain ⟨M, rfl⟩ : ∃ M : Nat, mi = M := ⟨mi.toNat, by omega⟩
              obtain ⟨K, rfl⟩ : ∃ K : Nat, ki = K := ⟨ki.toNat, by omega⟩
              have q5 : M * K ≤ 4096 := by rw [← Int.natCast_mul] at q3; omega
              have e1 : IntKind.i64.wrap ((M : Int) * (K : Int)) = ((M * K : Nat) : Int) := by rw [IntKind.wrap_i64, ← Int.natCast_mul]; omega
              have q6 : 1 ≤ M * K := Nat.mul_pos (by omega) (by omega)
              have hXe : seqT ((M : Int), 0) ((K : Int), 0) ((am, ae), 0) ((sm, se), 0) = match seqS (am, ae) (sm, se) (M * K - 1) with
                | none => aloneO 5
                | some (l, _) => ⟨M, K, l⟩ := by
                unfold seqT
                rw [if_neg (by simp), if_neg (by simp), if_neg (by simp), if_neg (by simp), if_neg (by omega), if_neg q3]
                rfl
              have HE := Lib.hid (hXe.symm.trans HX.out)
              generalize hT : M * K = T at *
              clear hXe HX q3 hT
              go_wp2_with (go_at_call 80; (with_reducible refine (of_any _ _ _).mono ?_); rintro e w' ⟨rfl, hb⟩; obtain ⟨oso, do_, rfl⟩ := hb.more; clear hb)
              go_loopw [10] (fun v wr => ∃ (k : Nat) (L : List Val) (p : Int × Int) (os : Array Obj) (d : Nat), k + 1 ≤ T ∧ wr = more ((((more (w.alloc (Obj.cells #[.int .i64 0, .int .i64 0, .slice none 0 0] 31)) (osa ++ (osb ++ osc)) dc).alloc (Obj.cells #[.int .i64 1, .int .i64 0] 41)).alloc (Obj.cells #[.int .i64 p.1, .int .i64 p.2] 41)).alloc (Obj.cells #[.int .i64 sm, .int .i64 se] 41)) os d ∧ Hid (seqS (am, ae) (sm, se) k = some (L, p)) ∧ Hid (wr.ownsRow (w.heap.size + 1 + (osa.size + (osb.size + osc.size)) + 1 + 1 + 1) 43 6 v (k + 1) (vcells L))) (fun v _ => T - slen v)
              case atStart => exact ⟨0, [⟨1, am, ae, ⟨#[]⟩, false, 0⟩], (am, ae), _, _, q6, more_alloc _ _ _ _, rfl, new_own6 ⟨1, am, ae, ⟨#[]⟩, false, 0⟩ rfl (by simp) (by omega)⟩
              case round =>
                obtain ⟨k, L, p, os, d, hk, rfl, HQ, HO⟩ := hrel
                obtain ⟨G, cp, rfl⟩ := own_slice HO.out
                obtain ⟨i1, i2, i3⟩ := seqS_some har hsr HQ.out
                obtain ⟨pm, pe⟩ := p
                simp only at i2
                by_cases hlt : k + 1 < T
                · have hlt' : ((k : Int) + 1) < (T : Int) := by omega
                  have had := fun W (hT : Tab W) => add_any pm pe sm se W hT (rt_i64 i2) (rt_i64 hsr)
                  cases hs : addS pm pe sm se with
                  | none =>
                    rw [hs] at had
                    simp only [rnV, rm, re, Option.getD_none, Option.isSome_none] at had
                    obtain rfl : aloneO 5 = X := by
                      have h1 : seqS (am, ae) (sm, se) (k + 1) = none := by unfold seqS; rw [HQ.out]; simp only; rw [hs]
                      have h2 := seqS_none h1 (T - 1 - (k + 1))
                      rw [show k + 1 + (T - 1 - (k + 1)) = T - 1 by omega] at h2
                      rw [← HE.out, h2]
                    go_wp2_with (first | (go_at_call 95; (with_reducible refine (had _ (HT.out.ext (by with_reducible repeat (first | exact Ext.refl _ | apply Ext.drew | apply Ext.alloc | apply Ext.more_)))).mono ?_); rintro e w' ⟨rfl, hb⟩; obtain ⟨ost, dt, rfl⟩ := hb.more; clear hb) | (go_at_call 29; (with_reducible refine (galone_any _ _).mono ?_); rintro e w' ⟨D, m, cc, rfl, hD, hb⟩; obtain ⟨os5, d5, rfl⟩ := hb.more; clear hb; have hDr := hD.rd))
                    exact bodyPost_ret (v := AV (aloneO 5).R (aloneO 5).C (.slice D m cc)) (by simp [results, Tryz.results44, go_sem]) rfl ⟨D, m, cc, rfl, ⟨(by (try simp only [more_more] at hDr); (try simp only [drew_more] at hDr); (try simp only [more_drew] at hDr); (try simp only [Array.append_assoc] at hDr); exact Rd.swap hDr (by first | (simp; done) | (simp; omega) | omega) (by first | (simp; done) | (simp; omega) | omega) (by first | (simp; done) | (simp; omega) | omega)), hD.len, hD.cap, hD.small, hD.ok⟩, by with_reducible repeat (first | exact Ext.refl _ | apply Ext.drew | apply Ext.alloc | apply Ext.more_)⟩
                  | some q =>
                    obtain ⟨qm, qe⟩ := q
                    have hq := addS_rt hs
                    rw [hs] at had
                    simp only [rnV, rm, re, Option.getD_some, Option.isSome_some] at had
                    have HQ2 : Hid (seqS (am, ae) (sm, se) (k + 1) = some (L ++ [⟨1, qm, qe, ⟨#[]⟩, false, 0⟩], (qm, qe))) := by
                      show _ = _
                      conv => lhs; unfold seqS
                      rw [HQ.out]; simp only; rw [hs]
                    clear hs HE
                    obtain ⟨j0, hi0, hz0, hz1, hz2⟩ := info_parts info_val
                    go_wp2_with (first | (go_at_call 95; (with_reducible refine (had _ (HT.out.ext (by with_reducible repeat (first | exact Ext.refl _ | apply Ext.drew | apply Ext.alloc | apply Ext.more_)))).mono ?_); rintro e w' ⟨rfl, hb⟩; obtain ⟨ost, dt, rfl⟩ := hb.more; clear hb) | (go_at_call 80; (with_reducible refine (of_any _ _ _).mono ?_); rintro e w' ⟨rfl, hb⟩; obtain ⟨osv, dv, rfl⟩ := hb.more; clear hb) | (at_builtin; refine wpList_append_own _ rfl _ _ _ rfl (w.heap.size + 1 + (osa.size + (osb.size + osc.size)) + 1 + 1 + 1) 43 j0 (VV 0 0 0 ⟨#[]⟩ false 0) 6 56 Tryz.underlying29 hi0 hz0 hz1 hz2 rfl (by decide) (.slice G (k + 1) cp) (k + 1) (vcells L) rfl (own_ext (own_two (Obj.cells #[.int .i64 qm, .int .i64 qe] 41) (Obj.cells #[.int .i64 sm, .int .i64 se] 41) HO.out (by simp)) (by repeat (first | (with_reducible (first | exact Ext.refl _ | exact ext_app _ _ _ _ _)) | ((with_reducible refine ext_suffix ⟨_, ?_⟩); (try simp only [Array.append_assoc]); rfl) | (with_reducible (first | apply Ext.drew | apply Ext.alloc | apply Ext.more_))))) _ 1 1 (Val.cells ⟨1, qm, qe, ⟨#[]⟩, false, 0⟩) rfl rfl (new_cells_at _ _ _ (by simp) rfl _) (fun u hu => vcells_one (l := [⟨1, qm, qe, ⟨#[]⟩, false, 0⟩]) u (by simpa [vcells] using hu)) (by simp only [maxLen]; omega) (by omega) (by simp; omega) ?_; intro v4 w4 ho4 hg4 _))
                    have hx0 : Ext ((((more (w.alloc (Obj.cells #[.int .i64 0, .int .i64 0, .slice none 0 0] 31)) (osa ++ (osb ++ osc)) dc).alloc (Obj.cells #[.int .i64 1, .int .i64 0] 41)).alloc (Obj.cells #[.int .i64 qm, .int .i64 qe] 41)).alloc (Obj.cells #[.int .i64 sm, .int .i64 se] 41)) w4 := ext_grownN (n := k + 1) (by repeat (first | (with_reducible (first | exact Ext.refl _ | exact ext_app _ _ _ _ _)) | ((with_reducible refine ext_suffix ⟨_, ?_⟩); (try simp only [Array.append_assoc]); rfl) | (with_reducible (first | apply Ext.drew | apply Ext.alloc | apply Ext.more_)))) (by simpa using own_ext (own_two (Obj.cells #[.int .i64 qm, .int .i64 qe] 41) (Obj.cells #[.int .i64 sm, .int .i64 se] 41) HO.out (by simp)) (by repeat (first | (with_reducible (first | exact Ext.refl _ | exact ext_app _ _ _ _ _)) | ((with_reducible refine ext_suffix ⟨_, ?_⟩); (try simp only [Array.append_assoc]); rfl) | (with_reducible (first | apply Ext.drew | apply Ext.alloc | apply Ext.more_))))) hg4
                    obtain ⟨os9, d9, he9⟩ := hx0.more
                    refine ⟨⟨k + 1, _, (qm, qe), os9, d9, by omega, he9, HQ2, ?_⟩, ?_⟩
                    · show World.ownsRow _ _ _ _ _ _ _
                      rw [vcells_append]; simpa [vcells] using ho4
                    · obtain ⟨G4, c4, rfl⟩ := own_slice ho4
                      simp [slen]; omega
                · obtain rfl : k + 1 = T := by omega
                  obtain rfl : (⟨M, K, L⟩ : NA) = X := by rw [← HE.out, show k + 1 - 1 = k by omega, HQ.out]
                  obtain ⟨D, cc, hv, hD⟩ := own_arrN (n := k + 1) (l := L) (v := .slice G (k + 1) cp) (w := ((((more (w.alloc (Obj.cells #[.int .i64 0, .int .i64 0, .slice none 0 0] 31)) (osa ++ (osb ++ osc)) dc).alloc (Obj.cells #[.int .i64 1, .int .i64 0] 41)).alloc (Obj.cells #[.int .i64 pm, .int .i64 pe] 41)).alloc (Obj.cells #[.int .i64 sm, .int .i64 se] 41))) (X := ((((more (w.alloc (Obj.cells #[.int .i64 0, .int .i64 0, .slice none 0 0] 31)) (osa ++ (osb ++ osc)) dc).alloc (Obj.cells #[.int .i64 1, .int .i64 0] 41)).alloc (Obj.cells #[.int .i64 pm, .int .i64 pe] 41)).alloc (Obj.cells #[.int .i64 sm, .int .i64 se] 41))) (by simpa using HO.out) (Nat.le_refl _) (by omega) (fun x hx => (i3 x hx).ok)
                  simp only [Value.slice.injEq, true_and] at hv
                  obtain ⟨rfl, rfl⟩ := hv
                  clear HE HQ HO hk
                  go_wp2_with (go_at_call 48; (with_reducible refine (made_any _ _ _ _ _ _).mono ?_); rintro e w' ⟨rfl, hb⟩; have hDr := Rd.ext hD.rd hb; obtain ⟨os6, d6, rfl⟩ := hb.more; clear hb)
                  exact bodyPost_ret (v := AV M K (.slice G (k + 1) cp)) (by simp [results, Tryz.results44, go_sem]) rfl ⟨G, k + 1, cp, rfl, ⟨(by (try simp only [more_more] at hDr); (try simp only [drew_more] at hDr); (try simp only [more_drew] at hDr); (try simp only [Array.append_assoc] at hDr); exact Rd.swap hDr (by first | (simp; done) | (simp; omega) | omega) (by first | (simp; done) | (simp; omega) | omega) (by first | (simp; done) | (simp; omega) | omega)), hD.len, hD.cap, hD.small, hD.ok⟩, by with_reducible repeat (first | exact Ext.refl _ | apply Ext.drew | apply Ext.alloc | apply Ext.more_)⟩
      · go_upto_if 38 with (go_at_call 86; (with_reducible refine (v2 _ (H.out.ext (by with_reducible repeat (first | exact Ext.refl _ | apply Ext.drew | apply Ext.alloc | apply Ext.more_)))).mono ?_); rintro e w' ⟨rfl, hb⟩; obtain ⟨osg, dg, rfl⟩ := hb.more; clear hb)
        go_cut [4] (fun s4 wx => ∃ osx dx, s4 = .int .i64 0 ∧ a.2 = 0 ∧ wx = more ((((more (w.alloc (Obj.cells #[.int .i64 0, .int .i64 0, .slice none 0 0] 31)) (osa ++ (osb ++ osc)) dc).alloc (Obj.cells #[.int .i64 1, .int .i64 0] 41)).alloc (Obj.cells #[.int .i64 1, .int .i64 0] 41)).alloc (Obj.cells #[.int .i64 a.1.1, .int .i64 a.1.2] 41)) osx dx)
        case first =>
          cases hg : givenB xs 2 with
          | false =>
            obtain rfl : ((1, 0), 0) = a := by rw [← HA.out]; unfold tnO; rw [hg]; rfl
            clear hg
            go_wp2_with fail
            go_meet
            exact ⟨_, _, rfl, trivial, rfl⟩
          | true =>
            have hlt := given_lt H.out hg
            obtain ⟨R, C, l, b1, off1, n1', cap1, b, off, x, _, rfl, ⟨u0, u1, u2⟩, hn1, hc1, ⟨y0, y1, y2, y3, y4, y5⟩, _, hxr, hbl, hb1, hav, _, _, _⟩ := H.out.first hlt
            have hcap := H.out.cap
            simp only at u0 u1 u2
            obtain rfl : (tnP x, tnF x) = a := by rw [← HA.out]; unfold tnO; rw [hg, if_pos rfl, hav]
            have ht := fun W => toNum_any x W hxr
            clear hg hav
            by_cases hf : tnF x = 0
            · simp only [tnV, hf] at ht
              go_wp2_with (first | (go_at_call 94; (with_reducible refine (ht _).mono ?_); rintro e w' ⟨rfl, hb⟩; obtain ⟨ost, dt, rfl⟩ := hb.more; clear hb))
              go_meet
              exact ⟨_, _, rfl, hf, rfl⟩
            · have hf' : (tnF x != 0) = true := by simpa using hf
              obtain rfl : aloneO (tnF x) = X := by rw [← HX.out]; unfold seqT; rw [if_neg (by simp), if_neg (by simp), if_pos hf]
              go_wp2_with (first | (go_at_call 94; (with_reducible refine (ht _).mono ?_); rintro e w' ⟨rfl, hb⟩; obtain ⟨ost, dt, rfl⟩ := hb.more; clear hb) | (go_at_call 29; (with_reducible refine (galone_any _ _).mono ?_); rintro e w' ⟨D, m, cc, rfl, hD, hb⟩; obtain ⟨os5, d5, rfl⟩ := hb.more; clear hb; have hDr := hD.rd))
              exact bodyPost_ret (v := AV (aloneO (tnF x)).R (aloneO (tnF x)).C (.slice D m cc)) (by simp [results, Tryz.results44, go_sem]) rfl ⟨D, m, cc, rfl, ⟨(by (try simp only [more_more] at hDr); (try simp only [drew_more] at hDr); (try simp only [more_drew] at hDr); (try simp only [Array.append_assoc] at hDr); exact Rd.swap hDr (by first | (simp; done) | (simp; omega) | omega) (by first | (simp; done) | (simp; omega) | omega) (by first | (simp; done) | (simp; omega) | omega)), hD.len, hD.cap, hD.small, hD.ok⟩, by with_reducible repeat (first | exact Ext.refl _ | apply Ext.drew | apply Ext.alloc | apply Ext.more_)⟩
        case rest =>
        obtain ⟨osx, dx, rfl, ha0, rfl⟩ := hcut
        clear osg dg
        go_upto_if 54 with (go_at_call 86; (with_reducible refine (v3 _ (H.out.ext (by with_reducible repeat (first | exact Ext.refl _ | apply Ext.drew | apply Ext.alloc | apply Ext.more_)))).mono ?_); rintro e w' ⟨rfl, hb⟩; obtain ⟨osg, dg, rfl⟩ := hb.more; clear hb)
        go_cut [4] (fun s4 wx => ∃ osy dy, s4 = .int .i64 0 ∧ s.2 = 0 ∧ wx = more ((((more (w.alloc (Obj.cells #[.int .i64 0, .int .i64 0, .slice none 0 0] 31)) (osa ++ (osb ++ osc)) dc).alloc (Obj.cells #[.int .i64 1, .int .i64 0] 41)).alloc (Obj.cells #[.int .i64 s.1.1, .int .i64 s.1.2] 41)).alloc (Obj.cells #[.int .i64 a.1.1, .int .i64 a.1.2] 41)) osy dy)
        case first =>
          cases hg : givenB xs 3 with
          | false =>
            obtain rfl : ((1, 0), 0) = s := by rw [← HS.out]; unfold tnO; rw [hg]; rfl
            clear hg
            go_wp2_with fail
            go_meet
            exact ⟨_, _, rfl, trivial, rfl⟩
          | true =>
            have hlt := given_lt H.out hg
            obtain ⟨R, C, l, b1, off1, n1', cap1, b, off, x, _, rfl, ⟨u0, u1, u2⟩, hn1, hc1, ⟨y0, y1, y2, y3, y4, y5⟩, _, hxr, hbl, hb1, hav, _, _, _⟩ := H.out.first hlt
            have hcap := H.out.cap
            simp only at u0 u1 u2
            obtain rfl : (tnP x, tnF x) = s := by rw [← HS.out]; unfold tnO; rw [hg, if_pos rfl, hav]
            have ht := fun W => toNum_any x W hxr
            clear hg hav
            by_cases hf : tnF x = 0
            · simp only [tnV, hf] at ht
              go_wp2_with (first | (go_at_call 94; (with_reducible refine (ht _).mono ?_); rintro e w' ⟨rfl, hb⟩; obtain ⟨ost, dt, rfl⟩ := hb.more; clear hb))
              go_meet
              exact ⟨_, _, rfl, hf, rfl⟩
            · have hf' : (tnF x != 0) = true := by simpa using hf
              obtain rfl : aloneO (tnF x) = X := by rw [← HX.out]; unfold seqT; rw [if_neg (by simp), if_neg (by simp), if_neg (by simp [ha0]), if_pos hf]
              go_wp2_with (first | (go_at_call 94; (with_reducible refine (ht _).mono ?_); rintro e w' ⟨rfl, hb⟩; obtain ⟨ost, dt, rfl⟩ := hb.more; clear hb) | (go_at_call 29; (with_reducible refine (galone_any _ _).mono ?_); rintro e w' ⟨D, m, cc, rfl, hD, hb⟩; obtain ⟨os5, d5, rfl⟩ := hb.more; clear hb; have hDr := hD.rd))
              exact bodyPost_ret (v := AV (aloneO (tnF x)).R (aloneO (tnF x)).C (.slice D m cc)) (by simp [results, Tryz.results44, go_sem]) rfl ⟨D, m, cc, rfl, ⟨(by (try simp only [more_more] at hDr); (try simp only [drew_more] at hDr); (try simp only [more_drew] at hDr); (try simp only [Array.append_assoc] at hDr); exact Rd.swap hDr (by first | (simp; done) | (simp; omega) | omega) (by first | (simp; done) | (simp; omega) | omega) (by first | (simp; done) | (simp; omega) | omega)), hD.len, hD.cap, hD.small, hD.ok⟩, by with_reducible repeat (first | exact Ext.refl _ | apply Ext.drew | apply Ext.alloc | apply Ext.more_)⟩
        case rest =>
        obtain ⟨osy, dy, rfl, hs0, rfl⟩ := hcut
        clear osx dx
        obtain ⟨⟨am, ae⟩, af⟩ := a
        obtain ⟨⟨sm, se⟩, sf⟩ := s
        simp only at ha0 hs0 har hsr
        subst ha0 hs0
        by_cases q1 : mi < 1
        · obtain rfl : aloneO 9 = X := by rw [← HX.out]; unfold seqT; rw [if_neg (by simp), if_neg (by simp), if_neg (by simp), if_neg (by simp), if_pos (Or.inl q1)]
          go_wp2_with (go_at_call 29; (with_reducible refine (galone_any _ _).mono ?_); rintro e w' ⟨D, m, cc, rfl, hD, hb⟩; obtain ⟨os5, d5, rfl⟩ := hb.more; clear hb; have hDr := hD.rd)
          exact bodyPost_ret (v := AV (aloneO 9).R (aloneO 9).C (.slice D m cc)) (by simp [results, Tryz.results44, go_sem]) rfl ⟨D, m, cc, rfl, ⟨(by (try simp only [more_more] at hDr); (try simp only [drew_more] at hDr); (try simp only [more_drew] at hDr); (try simp only [Array.append_assoc] at hDr); exact Rd.swap hDr (by first | (simp; done) | (simp; omega) | omega) (by first | (simp; done) | (simp; omega) | omega) (by first | (simp; done) | (simp; omega) | omega)), hD.len, hD.cap, hD.small, hD.ok⟩, by with_reducible repeat (first | exact Ext.refl _ | apply Ext.drew | apply Ext.alloc | apply Ext.more_)⟩
        · by_cases q2 : ki < 1
          · obtain rfl : aloneO 9 = X := by rw [← HX.out]; unfold seqT; rw [if_neg (by simp), if_neg (by simp), if_neg (by simp), if_neg (by simp), if_pos (Or.inr q2)]
            go_wp2_with (go_at_call 29; (with_reducible refine (galone_any _ _).mono ?_); rintro e w' ⟨D, m, cc, rfl, hD, hb⟩; obtain ⟨os5, d5, rfl⟩ := hb.more; clear hb; have hDr := hD.rd)
            exact bodyPost_ret (v := AV (aloneO 9).R (aloneO 9).C (.slice D m cc)) (by simp [results, Tryz.results44, go_sem]) rfl ⟨D, m, cc, rfl, ⟨(by (try simp only [more_more] at hDr); (try simp only [drew_more] at hDr); (try simp only [more_drew] at hDr); (try simp only [Array.append_assoc] at hDr); exact Rd.swap hDr (by first | (simp; done) | (simp; omega) | omega) (by first | (simp; done) | (simp; omega) | omega) (by first | (simp; done) | (simp; omega) | omega)), hD.len, hD.cap, hD.small, hD.ok⟩, by with_reducible repeat (first | exact Ext.refl _ | apply Ext.drew | apply Ext.alloc | apply Ext.more_)⟩
          · have hq := quo_lt (r := mi) (c := ki) (by omega)
            by_cases q3 : 4096 < mi * ki
            · obtain rfl : aloneO 5 = X := by rw [← HX.out]; unfold seqT; rw [if_neg (by simp), if_neg (by simp), if_neg (by simp), if_neg (by simp), if_neg (by omega), if_pos q3]
              have q4 : 4096 / ki < mi := hq.2 q3
              go_wp2_with (go_at_call 29; (with_reducible refine (galone_any _ _).mono ?_); rintro e w' ⟨D, m, cc, rfl, hD, hb⟩; obtain ⟨os5, d5, rfl⟩ := hb.more; clear hb; have hDr := hD.rd)
              exact bodyPost_ret (v := AV (aloneO 5).R (aloneO 5).C (.slice D m cc)) (by simp [results, Tryz.results44, go_sem]) rfl ⟨D, m, cc, rfl, ⟨(by (try simp only [more_more] at hDr); (try simp only [drew_more] at hDr); (try simp only [more_drew] at hDr); (try simp only [Array.append_assoc] at hDr); exact Rd.swap hDr (by first | (simp; done) | (simp; omega) | omega) (by first | (simp; done) | (simp; omega) | omega) (by first | (simp; done) | (simp; omega) | omega)), hD.len, hD.cap, hD.small, hD.ok⟩, by with_reducible repeat (first | exact Ext.refl _ | apply Ext.drew | apply Ext.alloc | apply Ext.more_)⟩
            · have q4 : ¬ 4096 / ki < mi := fun e => q3 (hq.1 e)
              clear hq
              obtain ⟨M, rfl⟩ : ∃ M : Nat, mi = M := ⟨mi.toNat, by omega⟩
              obtain ⟨K, rfl⟩ : ∃ K : Nat, ki = K := ⟨ki.toNat, by omega⟩
              have q5 : M * K ≤ 4096 := by rw [← Int.natCast_mul] at q3; omega
              have e1 : IntKind.i64.wrap ((M : Int) * (K : Int)) = ((M * K : Nat) : Int) := by rw [IntKind.wrap_i64, ← Int.natCast_mul]; omega
              have q6 : 1 ≤ M * K := Nat.mul_pos (by omega) (by omega)
              have hXe : seqT ((M : Int), 0) ((K : Int), 0) ((am, ae), 0) ((sm, se), 0) = match seqS (am, ae) (sm, se) (M * K - 1) with
                | none => aloneO 5
                | some (l, _) => ⟨M, K, l⟩ := by
                unfold seqT
                rw [if_neg (by simp), if_neg (by simp), if_neg (by simp), if_neg (by simp), if_neg (by omega), if_neg q3]
                rfl
              have HE := Lib.hid (hXe.symm.trans HX.out)
              generalize hT : M * K = T at *
              clear hXe HX q3 hT
              go_wp2_with (go_at_call 80; (with_reducible refine (of_any _ _ _).mono ?_); rintro e w' ⟨rfl, hb⟩; obtain ⟨oso, do_, rfl⟩ := hb.more; clear hb)
              go_loopw [10] (fun v wr => ∃ (k : Nat) (L : List Val) (p : Int × Int) (os : Array Obj) (d : Nat), k + 1 ≤ T ∧ wr = more ((((more (w.alloc (Obj.cells #[.int .i64 0, .int .i64 0, .slice none 0 0] 31)) (osa ++ (osb ++ osc)) dc).alloc (Obj.cells #[.int .i64 1, .int .i64 0] 41)).alloc (Obj.cells #[.int .i64 sm, .int .i64 se] 41)).alloc (Obj.cells #[.int .i64 p.1, .int .i64 p.2] 41)) os d ∧ Hid (seqS (am, ae) (sm, se) k = some (L, p)) ∧ Hid (wr.ownsRow (w.heap.size + 1 + (osa.size + (osb.size + osc.size)) + 1 + 1 + 1) 43 6 v (k + 1) (vcells L))) (fun v _ => T - slen v)
              case atStart => exact ⟨0, [⟨1, am, ae, ⟨#[]⟩, false, 0⟩], (am, ae), _, _, q6, more_alloc _ _ _ _, rfl, new_own6 ⟨1, am, ae, ⟨#[]⟩, false, 0⟩ rfl (by simp) (by omega)⟩
              case round =>
                obtain ⟨k, L, p, os, d, hk, rfl, HQ, HO⟩ := hrel
                obtain ⟨G, cp, rfl⟩ := own_slice HO.out
                obtain ⟨i1, i2, i3⟩ := seqS_some har hsr HQ.out
                obtain ⟨pm, pe⟩ := p
                simp only at i2
                by_cases hlt : k + 1 < T
                · have hlt' : ((k : Int) + 1) < (T : Int) := by omega
                  have had := fun W (hT : Tab W) => add_any pm pe sm se W hT (rt_i64 i2) (rt_i64 hsr)
                  cases hs : addS pm pe sm se with
                  | none =>
                    rw [hs] at had
                    simp only [rnV, rm, re, Option.getD_none, Option.isSome_none] at had
                    obtain rfl : aloneO 5 = X := by
                      have h1 : seqS (am, ae) (sm, se) (k + 1) = none := by unfold seqS; rw [HQ.out]; simp only; rw [hs]
                      have h2 := seqS_none h1 (T - 1 - (k + 1))
                      rw [show k + 1 + (T - 1 - (k + 1)) = T - 1 by omega] at h2
                      rw [← HE.out, h2]
                    go_wp2_with (first | (go_at_call 95; (with_reducible refine (had _ (HT.out.ext (by with_reducible repeat (first | exact Ext.refl _ | apply Ext.drew | apply Ext.alloc | apply Ext.more_)))).mono ?_); rintro e w' ⟨rfl, hb⟩; obtain ⟨ost, dt, rfl⟩ := hb.more; clear hb) | (go_at_call 29; (with_reducible refine (galone_any _ _).mono ?_); rintro e w' ⟨D, m, cc, rfl, hD, hb⟩; obtain ⟨os5, d5, rfl⟩ := hb.more; clear hb; have hDr := hD.rd))
                    exact bodyPost_ret (v := AV (aloneO 5).R (aloneO 5).C (.slice D m cc)) (by simp [results, Tryz.results44, go_sem]) rfl ⟨D, m, cc, rfl, ⟨(by (try simp only [more_more] at hDr); (try simp only [drew_more] at hDr); (try simp only [more_drew] at hDr); (try simp only [Array.append_assoc] at hDr); exact Rd.swap hDr (by first | (simp; done) | (simp; omega) | omega) (by first | (simp; done) | (simp; omega) | omega) (by first | (simp; done) | (simp; omega) | omega)), hD.len, hD.cap, hD.small, hD.ok⟩, by with_reducible repeat (first | exact Ext.refl _ | apply Ext.drew | apply Ext.alloc | apply Ext.more_)⟩
                  | some q =>
                    obtain ⟨qm, qe⟩ := q
                    have hq := addS_rt hs
                    rw [hs] at had
                    simp only [rnV, rm, re, Option.getD_some, Option.isSome_some] at had
                    have HQ2 : Hid (seqS (am, ae) (sm, se) (k + 1) = some (L ++ [⟨1, qm, qe, ⟨#[]⟩, false, 0⟩], (qm, qe))) := by
                      show _ = _
                      conv => lhs; unfold seqS
                      rw [HQ.out]; simp only; rw [hs]
                    clear hs HE
                    obtain ⟨j0, hi0, hz0, hz1, hz2⟩ := info_parts info_val
                    go_wp2_with (first | (go_at_call 95; (with_reducible refine (had _ (HT.out.ext (by with_reducible repeat (first | exact Ext.refl _ | apply Ext.drew | apply Ext.alloc | apply Ext.more_)))).mono ?_); rintro e w' ⟨rfl, hb⟩; obtain ⟨ost, dt, rfl⟩ := hb.more; clear hb) | (go_at_call 80; (with_reducible refine (of_any _ _ _).mono ?_); rintro e w' ⟨rfl, hb⟩; obtain ⟨osv, dv, rfl⟩ := hb.more; clear hb) | (at_builtin; refine wpList_append_own _ rfl _ _ _ rfl (w.heap.size + 1 + (osa.size + (osb.size + osc.size)) + 1 + 1 + 1) 43 j0 (VV 0 0 0 ⟨#[]⟩ false 0) 6 56 Tryz.underlying29 hi0 hz0 hz1 hz2 rfl (by decide) (.slice G (k + 1) cp) (k + 1) (vcells L) rfl (own_ext (own_two (Obj.cells #[.int .i64 sm, .int .i64 se] 41) (Obj.cells #[.int .i64 qm, .int .i64 qe] 41) HO.out (by simp)) (by repeat (first | (with_reducible (first | exact Ext.refl _ | exact ext_app _ _ _ _ _)) | ((with_reducible refine ext_suffix ⟨_, ?_⟩); (try simp only [Array.append_assoc]); rfl) | (with_reducible (first | apply Ext.drew | apply Ext.alloc | apply Ext.more_))))) _ 1 1 (Val.cells ⟨1, qm, qe, ⟨#[]⟩, false, 0⟩) rfl rfl (new_cells_at _ _ _ (by simp) rfl _) (fun u hu => vcells_one (l := [⟨1, qm, qe, ⟨#[]⟩, false, 0⟩]) u (by simpa [vcells] using hu)) (by simp only [maxLen]; omega) (by omega) (by simp; omega) ?_; intro v4 w4 ho4 hg4 _))
                    have hx0 : Ext ((((more (w.alloc (Obj.cells #[.int .i64 0, .int .i64 0, .slice none 0 0] 31)) (osa ++ (osb ++ osc)) dc).alloc (Obj.cells #[.int .i64 1, .int .i64 0] 41)).alloc (Obj.cells #[.int .i64 sm, .int .i64 se] 41)).alloc (Obj.cells #[.int .i64 qm, .int .i64 qe] 41)) w4 := ext_grownN (n := k + 1) (by repeat (first | (with_reducible (first | exact Ext.refl _ | exact ext_app _ _ _ _ _)) | ((with_reducible refine ext_suffix ⟨_, ?_⟩); (try simp only [Array.append_assoc]); rfl) | (with_reducible (first | apply Ext.drew | apply Ext.alloc | apply Ext.more_)))) (by simpa using own_ext (own_two (Obj.cells #[.int .i64 sm, .int .i64 se] 41) (Obj.cells #[.int .i64 qm, .int .i64 qe] 41) HO.out (by simp)) (by repeat (first | (with_reducible (first | exact Ext.refl _ | exact ext_app _ _ _ _ _)) | ((with_reducible refine ext_suffix ⟨_, ?_⟩); (try simp only [Array.append_assoc]); rfl) | (with_reducible (first | apply Ext.drew | apply Ext.alloc | apply Ext.more_))))) hg4
                    obtain ⟨os9, d9, he9⟩ := hx0.more
                    refine ⟨⟨k + 1, _, (qm, qe), os9, d9, by omega, he9, HQ2, ?_⟩, ?_⟩
                    · show World.ownsRow _ _ _ _ _ _ _
                      rw [vcells_append]; simpa [vcells] using ho4
                    · obtain ⟨G4, c4, rfl⟩ := own_slice ho4
                      simp [slen]; omega
                · obtain rfl : k + 1 = T := by omega
                  obtain rfl : (⟨M, K, L⟩ : NA) = X := by rw [← HE.out, show k + 1 - 1 = k by omega, HQ.out]
                  obtain ⟨D, cc, hv, hD⟩ := own_arrN (n := k + 1) (l := L) (v := .slice G (k + 1) cp) (w := ((((more (w.alloc (Obj.cells #[.int .i64 0, .int .i64 0, .slice none 0 0] 31)) (osa ++ (osb ++ osc)) dc).alloc (Obj.cells #[.int .i64 1, .int .i64 0] 41)).alloc (Obj.cells #[.int .i64 sm, .int .i64 se] 41)).alloc (Obj.cells #[.int .i64 pm, .int .i64 pe] 41))) (X := ((((more (w.alloc (Obj.cells #[.int .i64 0, .int .i64 0, .slice none 0 0] 31)) (osa ++ (osb ++ osc)) dc).alloc (Obj.cells #[.int .i64 1, .int .i64 0] 41)).alloc (Obj.cells #[.int .i64 sm, .int .i64 se] 41)).alloc (Obj.cells #[.int .i64 pm, .int .i64 pe] 41))) (by simpa using HO.out) (Nat.le_refl _) (by omega) (fun x hx => (i3 x hx).ok)
                  simp only [Value.slice.injEq, true_and] at hv
                  obtain ⟨rfl, rfl⟩ := hv
                  clear HE HQ HO hk
                  go_wp2_with (go_at_call 48; (with_reducible refine (made_any _ _ _ _ _ _).mono ?_); rintro e w' ⟨rfl, hb⟩; have hDr := Rd.ext hD.rd hb; obtain ⟨os6, d6, rfl⟩ := hb.more; clear hb)
                  exact bodyPost_ret (v := AV M K (.slice G (k + 1) cp)) (by simp [results, Tryz.results44, go_sem]) rfl ⟨G, k + 1, cp, rfl, ⟨(by (try simp only [more_more] at hDr); (try simp only [drew_more] at hDr); (try simp only [more_drew] at hDr); (try simp only [Array.append_assoc] at hDr); exact Rd.swap hDr (by first | (simp; done) | (simp; omega) | omega) (by first | (simp; done) | (simp; omega) | omega) (by first | (simp; done) | (simp; omega) | omega)), hD.len, hD.cap, hD.small, hD.ok⟩, by with_reducible repeat (first | exact Ext.refl _ | apply Ext.drew | apply Ext.alloc | apply Ext.more_)⟩
    · have hX : seqT (mi, 0) (ki, kf) (tnO xs 2) (tnO xs 3) = aloneO kf := by unfold seqT; rw [if_neg (by simp), if_pos hkf]
      rw [hX]
      have hf' : (kf != 0) = true := by simpa using hkf
      clear hX hkf
      go_enter Tryz.func44, Tryz.ntmps44
      go_wp2_with (first | (go_at_call 81; (with_reducible refine (n0 _ (H.out.ext (by with_reducible repeat (first | exact Ext.refl _ | apply Ext.drew | apply Ext.alloc | apply Ext.more_)))).mono ?_); rintro e w' ⟨rfl, hb⟩; obtain ⟨osa, da, rfl⟩ := hb.more; clear hb) | (go_at_call 81; (with_reducible refine (n1 _ (H.out.ext (by with_reducible repeat (first | exact Ext.refl _ | apply Ext.drew | apply Ext.alloc | apply Ext.more_)))).mono ?_); rintro e w' ⟨rfl, hb⟩; obtain ⟨osb, db, rfl⟩ := hb.more; clear hb) | (go_at_call 79; (with_reducible refine (make_one _ (HT.out.ext (by with_reducible repeat (first | exact Ext.refl _ | apply Ext.drew | apply Ext.alloc | apply Ext.more_)))).mono ?_); rintro e w' ⟨rfl, hb⟩; obtain ⟨osc, dc, rfl⟩ := hb.more; clear hb) | (go_at_call 29; (with_reducible refine (galone_any _ _).mono ?_); rintro e w' ⟨D, m, cc, rfl, hD, hb⟩; obtain ⟨os5, d5, rfl⟩ := hb.more; clear hb; have hDr := hD.rd))
      exact bodyPost_ret (v := AV (aloneO kf).R (aloneO kf).C (.slice D m cc)) (by simp [results, Tryz.results44, go_sem]) rfl ⟨D, m, cc, rfl, ⟨(by (try simp only [more_more] at hDr); (try simp only [drew_more] at hDr); (try simp only [more_drew] at hDr); (try simp only [Array.append_assoc] at hDr); exact Rd.swap hDr (by first | (simp; done) | (simp; omega) | omega) (by first | (simp; done) | (simp; omega) | omega) (by first | (simp; done) | (simp; omega) | omega)), hD.len, hD.cap, hD.small, hD.ok⟩, by with_reducible repeat (first | exact Ext.refl _ | apply Ext.drew | apply Ext.alloc | apply Ext.more_)⟩
  · have hX : seqT (mi, mf) (ki, kf) (tnO xs 2) (tnO xs 3) = aloneO mf := by unfold seqT; rw [if_pos hmf]
    rw [hX]
    have hf' : (mf != 0) = true := by simpa using hmf
    clear hX hmf
    go_enter Tryz.func44, Tryz.ntmps44
    go_wp2_with (first | (go_at_call 81; (with_reducible refine (n0 _ (H.out.ext (by with_reducible repeat (first | exact Ext.refl _ | apply Ext.drew | apply Ext.alloc | apply Ext.more_)))).mono ?_); rintro e w' ⟨rfl, hb⟩; obtain ⟨osa, da, rfl⟩ := hb.more; clear hb) | (go_at_call 81; (with_reducible refine (n1 _ (H.out.ext (by with_reducible repeat (first | exact Ext.refl _ | apply Ext.drew | apply Ext.alloc | apply Ext.more_)))).mono ?_); rintro e w' ⟨rfl, hb⟩; obtain ⟨osb, db, rfl⟩ := hb.more; clear hb) | (go_at_call 79; (with_reducible refine (make_one _ (HT.out.ext (by with_reducible repeat (first | exact Ext.refl _ | apply Ext.drew | apply Ext.alloc | apply Ext.more_)))).mono ?_); rintro e w' ⟨rfl, hb⟩; obtain ⟨osc, dc, rfl⟩ := hb.more; clear hb) | (go_at_call 29; (with_reducible refine (galone_any _ _).mono ?_); rintro e w' ⟨D, m, cc, rfl, hD, hb⟩; obtain ⟨os5, d5, rfl⟩ := hb.more; clear hb; have hDr := hD.rd))
    exact bodyPost_ret (v := AV (aloneO mf).R (aloneO mf).C (.slice D m cc)) (by simp [results, Tryz.results44, go_sem]) rfl ⟨D, m, cc, rfl, ⟨(by (try simp only [more_more] at hDr); (try simp only [drew_more] at hDr); (try simp only [more_drew] at hDr); (try simp only [Array.append_assoc] at hDr); exact Rd.swap hDr (by first | (simp; done) | (simp; omega) | omega) (by first | (simp; done) | (simp; omega) | omega) (by first | (simp; done) | (simp; omega) | omega)), hD.len, hD.cap, hD.small, hD.ok⟩, by with_reducible repeat (first | exact Ext.refl _ | apply Ext.drew | apply Ext.alloc | apply Ext.more_)⟩
end Go.Proofs.YtmjmijjbijlhfaaGreatDoor
namespace Go.Proofs.YtmjmijjbijlhfaaGreatDoor
open Go.RowKit NM
theorem gheap_new (w : World) (o : Obj) : (w.alloc o).heap[w.heap.size]? = some o := Array.getElem?_push_size
theorem argsG_new {w : World} {t : TypeId} {p : Nat} {cs : Array Value} (xs : List Ar) (hp : p = w.heap.size) (hc : cs = (acells xs).toArray) {n : Nat} (hn : xs.length = n) (hs : n ≤ 9223372036854775807) (h : ∀ a ∈ xs, ArOk w a) :
    ArgsIn (w.alloc (.cells cs t)) (some ⟨p, 0, none⟩) n n xs :=
  ⟨by subst hp hc; exact Rd.of_row (gheap_new _ _) 0 (Nat.zero_le _), hn, Nat.le_refl _, hs, fun a ha => (h a ha).ext ((Ext.refl _).alloc _)⟩
/-- An array of one value at a place. -/
def arAt (x : NA) (D : Option Addr) (m c : Nat) : Ar := ⟨x, D, m, c⟩
theorem one_right_ {y : Val} (h : y.right) : (oneA y).right := rightA_nat.2 ⟨Nat.le_refl _, Nat.le_refl _, (by show 1 * 1 ≤ 4096; decide), rfl, fun x hx => by rw [List.mem_singleton.1 hx]; exact h⟩
end Go.Proofs.YtmjmijjbijlhfaaGreatDoor
namespace Go.Proofs.YtmjmijjbijlhfaaGreatDoor
open Go.RowKit NM
set_option maxHeartbeats 1000000 in
theorem num15_any (n : Int) (w : World) (hn : n.natAbs < T 15) :
    Calls Tryz.prog 15 #[.int .i64 n] w fun e w' => ResA w (oneA (cntV n)) e w' := by
  have hi : I64 n := by have : T 15 = 1000000000000000 := (by decide); unfold I64; omega
  have hm := fun W => rmake_any n 0 W hi
  rw [show rnd (decide (n < 0)) n.natAbs false 0 = some (wholeN n) from (wholex hn).1] at hm
  simp only [rnV, rm, re, Option.getD_some, Option.isSome_some] at hm
  have hok := cnt_ok hn
  have hcv : cntV n = ⟨1, (wholeN n).1, (wholeN n).2, ⟨#[]⟩, false, 0⟩ := rfl
  clear hi hn
  generalize cntV n = y at *
  generalize (wholeN n).1 = m1 at *
  generalize (wholeN n).2 = m2 at *
  subst hcv
  go_enter Tryz.func15, Tryz.ntmps15
  go_wp2_with (first | (go_at_call 28; (with_reducible refine (hm _).mono ?_); rintro e w' ⟨rfl, hb⟩; obtain ⟨os, d, rfl⟩ := hb.more; clear hb))
  refine bodyPost_ret (v := AV 1 1 (.slice (some ⟨w.heap.size + 1 + os.size + 1, 0, none⟩) 1 1)) (by simp [results, Tryz.results15, go_sem]) rfl ⟨_, 1, 1, rfl, ⟨?_, rfl, Nat.le_refl _, by decide, fun x hx => by rw [List.mem_singleton.1 hx]; exact hok⟩, by with_reducible repeat (first | exact Ext.refl _ | apply Ext.drew | apply Ext.alloc | apply Ext.more_)⟩
  exact SlV.one (by simp) (by omega)
set_option maxHeartbeats 2000000 in
theorem small15_any (A : Option Addr) (n cap : Nat) (gs : List GA) (w : World) (h : ArgsG w A n cap gs) :
    Calls Tryz.prog 12 #[.slice A n cap] w fun e w' => ∃ s : Int, e = .returned (.int .i64 s) ∧ (s = 0 ∨ s = 1) ∧ Ext w w' := by
  have hsm := h.small
  by_cases q : 40 < n
  · go_enter Tryz.func12, Tryz.ntmps12
    go_wp2_with fail
    go_ret
    exact ⟨0, rfl, Or.inl rfl, by with_reducible repeat (first | exact Ext.refl _ | apply Ext.drew | apply Ext.alloc | apply Ext.more_)⟩
  · go_enter Tryz.func12, Tryz.ntmps12
    go_wp2_with fail
    go_loopw [3, 11] (fun c i wr => ∃ (k : Nat) (t : Int), k ≤ n ∧ i = .int .i64 k ∧ c = .int .i64 t ∧ 0 ≤ t ∧ t ≤ 400 ∧ Ext w wr) (fun _ i _ => n - (intOf i).toNat)
    case atStart => exact ⟨0, 0, Nat.zero_le _, rfl, rfl, Int.le_refl _, by omega, Ext.refl _⟩
    case round =>
      obtain ⟨k, t, hk, rfl, rfl, ht0, ht1, hX⟩ := hrel
      obtain ⟨os, d, rfl⟩ := hX.more
      clear hX
      by_cases hlt : k < n
      · obtain ⟨g, b, off, hg, rfl, ⟨v0, v1, v2⟩, harr⟩ := h.at hlt
        have hbl : b < w.heap.size := lt_of_cell v0
        have hcap := h.cap
        have hgs := harr.small
        have hsa := fun W (hW : ArrIn W g.A g.n g.cap g.l) => small_any g.r g.c g.A g.n g.cap g.l W hW
        have HA := Lib.hid harr
        clear h harr hg
        by_cases hq : t + g.n ≤ 400
        · have hw : IntKind.i64.wrap (t + (g.n : Int)) = t + (g.n : Int) := by rw [IntKind.wrap_i64]; omega
          go_wp2_with (go_at_call 25; (with_reducible refine (hsa _ (HA.out.ext (by with_reducible repeat (first | exact Ext.refl _ | apply Ext.drew | apply Ext.alloc | apply Ext.more_)))).mono ?_); rintro e w' ⟨sm, rfl, hsm', hb⟩; obtain ⟨os2, d2, rfl⟩ := hb.more; clear hb; rcases hsm' with rfl | ⟨rfl, hn3, htx⟩)
          · go_ret
            exact ⟨0, rfl, Or.inl rfl, by with_reducible repeat (first | exact Ext.refl _ | apply Ext.drew | apply Ext.alloc | apply Ext.more_)⟩
          · exact ⟨⟨k + 1, t + (g.n : Int), by omega, by go_num, rfl, by omega, by omega, by with_reducible repeat (first | exact Ext.refl _ | apply Ext.drew | apply Ext.alloc | apply Ext.more_)⟩, by simp [intOf]; omega⟩
        · by_cases hn3 : g.n ≤ 300
          · have hw : IntKind.i64.wrap (t + (g.n : Int)) = t + (g.n : Int) := by rw [IntKind.wrap_i64]; omega
            have hq' : 400 < t + (g.n : Int) := by omega
            go_wp2_with (go_at_call 25; (with_reducible refine (hsa _ (HA.out.ext (by with_reducible repeat (first | exact Ext.refl _ | apply Ext.drew | apply Ext.alloc | apply Ext.more_)))).mono ?_); rintro e w' ⟨sm, rfl, hsm', hb⟩; obtain ⟨os2, d2, rfl⟩ := hb.more; clear hb; rcases hsm' with rfl | ⟨rfl, hn3, htx⟩)
            all_goals
              go_ret
              exact ⟨0, rfl, Or.inl rfl, by with_reducible repeat (first | exact Ext.refl _ | apply Ext.drew | apply Ext.alloc | apply Ext.more_)⟩
          · go_wp2_with (go_at_call 25; (with_reducible refine (hsa _ (HA.out.ext (by with_reducible repeat (first | exact Ext.refl _ | apply Ext.drew | apply Ext.alloc | apply Ext.more_)))).mono ?_); rintro e w' ⟨sm, rfl, hsm', hb⟩; obtain ⟨os2, d2, rfl⟩ := hb.more; clear hb; obtain rfl : sm = 0 := by rcases hsm' with h0 | ⟨_, h1, _⟩; exact h0; exact absurd h1 hn3)
            go_ret
            exact ⟨0, rfl, Or.inl rfl, by with_reducible repeat (first | exact Ext.refl _ | apply Ext.drew | apply Ext.alloc | apply Ext.more_)⟩
      · go_wp2_with fail
        go_ret
        exact ⟨1, rfl, Or.inr rfl, by with_reducible repeat (first | exact Ext.refl _ | apply Ext.drew | apply Ext.alloc | apply Ext.more_)⟩
end Go.Proofs.YtmjmijjbijlhfaaGreatDoor
